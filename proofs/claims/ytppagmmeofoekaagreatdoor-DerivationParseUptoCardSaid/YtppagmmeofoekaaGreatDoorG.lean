/- Functions of the program as functions of data (written by program). No condition. -/
import Derived.Test.YtppagmmeofoekaaGreatDoorB
set_option linter.unusedVariables false
set_option linter.unusedSimpArgs false
set_option linter.unusedSectionVars false
open List renaming mem_cons_self → Yxn
open Nat renaming beq → YxA, ble → YxF
open Option renaming bind → YxM
open ByteArray renaming mk → Yx2
open Go.IntKind renaming wrap → Yx3
namespace Go.Abs.G12
open Go Go.Abs
abbrev _root_.Go.Abs.SV.j:SV:=.i .i64
mutual
def ZtS:SV->List Ty
 | .i k=>[.i k]
 | .b=>[.b]
 | .s=>[.s]
 | .l c=>[.l c]
 | .pre _=>[I]
 | .ag l=>ZtL l
 | .tp l=>ZtL l
 | .clo _ l=>ZtL l
 |_=>[]
def ZtL:List SV->List Ty
 | []=>[]
 |a::r=>ZtS a++ZtL r
end
def ZtO:List SO->List Ty
 | []=>[]
 | .sq c::r=>.l c::ZtO r
 | .fm A _ c::r=>.l (sn c A)::ZtO r
 | .fp o c::r=>I:: .l (mapC o (.l c) .nil)::ZtO r
 | .st l::r=>ZtL l++ZtO r
 | .sb::r=>.s::ZtO r
 | .dd::r=>ZtO r
abbrev Zsg(t:List Nat)(v:List SV)(o:List SO):Sg:=⟨t,v,o,cs (ZtL v++ZtO o)⟩
abbrev Zfe(g:Nat)(p:Bool)(a:Sg)(r:SV)(o:List SO)(F:a.c.den->Option (cs (ZtS r++ZtO o)).den):FnE:=⟨g,p,a,r,o,_,F⟩
abbrev Zt0:Type:=List (Int× (List Int)×Int×Int)
abbrev Zc1:Cs:=cs [I,.l (cs [I]),.i .u32,.i .u32]
abbrev Zt2:Type:=List (Int×Int)
abbrev Zt3:Type:=List ByteArray
abbrev Zc4:Cs:=cs [.i .u32,.i .u32]
abbrev Zp5:Type:=ByteArray×Zt3×Zt3×Int×Int×Int× (List Int)×Int×Int×Int×Int×Int× (List Int)
abbrev Zp6:Type:=ByteArray×Zt3×Int× (List Int)×Int×Int×Int×Int×Int× (List Int)
abbrev Zp7:Type:=Zt3×Zt3×Int×Int× (List Int)×Int×Int×Int×Int×Int× (List Int)
abbrev Zp8:Type:=Zt3×Int×Int× (List Int)×Int×Int×Int×Int×Int× (List Int)
abbrev Zp9:Type:=Zt3×Int× (List Int)×Int×Int×Int×Int×Int× (List Int)
abbrev Zp10:Type:=(List Int)×Int×Int×Int× (List Int)×Int×Int×Zt3
abbrev Zp11:Type:=Zt2×Int×Int× (List Int)×Int×Int×Int×Int×Zt0
abbrev Zp12:Type:=Int×Int× (List Int)×Int×Int×Int×Int
instance{n:Nat}:OfNat VOpd n:=⟨.t n⟩
abbrev Rg(l:List VI)(b:VCode):VCode:=.seq (.reg l) b
abbrev Fr(n:Nat):VCode:=.fz [n] .ret
abbrev Ce(c e:Nat):VCode:=.cond (t c) .skip (.exit e)
abbrev oM(n a:Nat):VI:=o n (.mv (t a))
abbrev oL(n a:Nat):VI:=o n (.load false 1 (t a))
abbrev oT(n s a:Nat):VI:=o n (.load true s (t a))
abbrev oF(n i a:Nat):VI:=o n (.fad i (t a))
abbrev oE(n a i:Nat):VI:=o n (.ext (t a) i)
abbrev oN(n a:Nat):VI:=o n (.len (t a))
abbrev oI(n e a i:Nat):VI:=o n (.iad e (t a) (t i))
abbrev oS(n a b:Nat):VI:=on (.store n (t a) (t b))
abbrev oP(n c:Nat)(a b:VOpd):VI:=o n (.pick (t c) a b)
abbrev oK(n:Nat)(a:Int):VI:=o n (.mv (k a))
abbrev oB(n:Nat)(a:Bool):VI:=o n (.mv (kb a))
abbrev oC(n f:Nat)(l:List VOpd):VI:=o n (.call f l)
abbrev oX(n a:Nat):VI:=o n (.not (t a))
abbrev oG(n a:Nat):VI:=o n (.box (t a))
abbrev oR(n:Nat)(p:BinOp)(a b:VOpd):VI:=o n (.bin p a b)
abbrev gT(n g:Nat)(p:VOp):VI:=og n g true p
abbrev gF(n g:Nat)(p:VOp):VI:=og n g false p
set_option maxRecDepth 100000
set_option maxHeartbeats 1000000
variable{P:Program}{fm:FM}{lo:Lo}
abbrev pf:Nat->Bool:=fun g=> !(List.any ([140,149,151,154,158,164,170,188,189,1079,193,1080,196,197,198,200,204,205,206,207,208,211,147,148,162,177,178,179,181,182,184,185,194,1084,143]:List Nat) (YxA g))
abbrev GZ(P:Program)(fm:FM)(fs:Lo->List FnE)(lo:Lo):Prop:=GS P fm pf (fs lo) lo
abbrev Ti(P:Program)(fm:FM)(g:Nat)(F:VFn):Prop:=TieF P fm pf g F
def fs0(_:Lo):List FnE:=[]
def q0_L3_b:VCode:=
 (.seq (Rg [oM 5 4,oM 6 0,oR 7 .lss 5 6,oM 8 7,gT 9 8 (.mv 4),gT 10 8 (.bin .lss 9 (k 32)),oP 11 8 10 (kb false)]
 (Ce 11 0))
 (.seq (.blk 1 (.reg [oM 14 3,oM 15 4,oR 16 .shl (ki .u32 1) 15,oR 17 .or 14 16,oM 3 17]))
 (.reg [oM 12 4,oR 13 .add 12 (k 1),oM 4 13])))
def YjJ(lo:Lo):Int×Int×Int->Option ((Int×Int×Int)⊕Int):=fun x=>match x with
  | (n0,s3,i4)=>bif(decide (i4<n0))then(bif(decide (i4<32))then(chk (0<=i4) (some (.inl (n0,(bits .or .u32 s3 (Yx3 .u32 ((1:Int)*2^(min i4.toNat (IntKind.bits .u32))))),(Yx3 .i64 (i4+1))))))else(some (.inr s3)))else(some (.inr s3))
def YjK(lo:Lo):Int×Int×Int->Option Int:=lo.run (YjJ lo)
def Yp4(lo:Lo):LpE:=⟨3,[],(Zsg [0,3,4] [.j,.i .u32,.j] []),[⟨.exit 0,(Zsg [3] [.i .u32] [])⟩],YjK lo⟩
def Yp5(lo:Lo):LL:=(Yp4 lo,.loop q0_L3_b.er)::[]
theorem Yp6(lo:Lo):Lk lo pf (fs0 lo) 0 (Yp5 lo):=.l .n (YjJ lo)
def q0(lo:Lo)(n0:Int):Option Int:=
  YxM (YjK lo (n0,(0:Int),(0:Int))) fun y0=>some y0
def Yp7:VFn:=⟨true,19,[.t 2],
 (Rg [o 2 (.mv (ki .u32 0))]
 (Rg [o 3 (.mv (ki .u32 0))]
 (.seq (Rg [oK 4 0]
 (.blk 0 (.loop 3 q0_L3_b)))
 (Rg [oM 18 3,oM 2 18]
 (Fr 2)))))⟩
def YjL(lo:Lo):FnE:=Zfe 118 true (Zsg [0] [.j] []) (.i .u32) [] (fun x=>q0 lo x:Int->Option Int)
def fs1(lo:Lo):List FnE:=YjL lo::fs0 lo
theorem Yp8(h:GZ P fm fs0 lo)(t:Ti P fm 118 Yp7):GZ P fm fs1 lo:=
  h.p (YjL lo) (Yp6 lo) t
def fs2(lo:Lo):List FnE:=fs1 lo
def fs3(lo:Lo):List FnE:=fs2 lo
def q3(lo:Lo):Option (Zt2×Zt0):=
  chk (0<=(0:Int)/\ (0:Int)< (([((1:Int),(2:Int)),((2:Int),(4:Int))]).length:Int)) (chk (0<=(1:Int)/\ (1:Int)< (([((1:Int),(2:Int)),((2:Int),(4:Int))]).length:Int)) (some ([((1:Int),(2:Int)),((2:Int),(4:Int))],[((1:Int),[(0:Int)],(([((1:Int),(2:Int)),((2:Int),(4:Int))]).getD 0 ((0:Int),(0:Int))).1,(([((1:Int),(2:Int)),((2:Int),(4:Int))]).getD 0 ((0:Int),(0:Int))).2),((1:Int),[(1:Int)],(([((1:Int),(2:Int)),((2:Int),(4:Int))]).getD 1 ((0:Int),(0:Int))).1,(([((1:Int),(2:Int)),((2:Int),(4:Int))]).getD 1 ((0:Int),(0:Int))).2),((4:Int),[(0:Int),(1:Int)],(1:Int),(4:Int))])))
def Yp9:VFn:=⟨true,21,[.t 0,.t 1],
 (Rg [o 0 (.mv (ke Zc4)),o 1 (.mv (ke Zc1))]
 (Rg [o 3 (.build [.i .u32 0,.i .u32 0] [(0,1,(ki .u32 1)),(1,1,(ki .u32 2))]),o 4 (.build [.i .u32 0,.i .u32 0] [(0,1,(ki .u32 2)),(1,1,(ki .u32 4))]),o 5 (.bsl Zc4 2 [(0,3),(1,4)]),oM 2 5]
 (Rg [oM 6 2,o 7 (.bsl (cs [I]) 1 [(0,(k 0))]),oM 8 2,o 9 (.iad 2 8 (k 0)),oT 10 2 9,o 11 (.build [.i .i64 0,.e (cs [I]),.i .u32 0,.i .u32 0] [(0,1,(k 1)),(1,1,7),(2,2,10)]),o 12 (.bsl (cs [I]) 1 [(0,(k 1))]),oM 13 2,o 14 (.iad 2 13 (k 1)),oT 15 2 14,o 16 (.build [.i .i64 0,.e (cs [I]),.i .u32 0,.i .u32 0] [(0,1,(k 1)),(1,1,12),(2,2,15)]),o 17 (.bsl (cs [I]) 2 [(0,(k 0)),(1,(k 1))]),o 18 (.build [.i .u32 0,.i .u32 0] [(0,1,(ki .u32 1)),(1,1,(ki .u32 4))]),o 19 (.build [.i .i64 0,.e (cs [I]),.i .u32 0,.i .u32 0] [(0,1,(k 4)),(1,1,17),(2,2,18)]),o 20 (.bsl Zc1 3 [(0,11),(1,16),(2,19)]),oM 0 6,oM 1 20]
 (.fz [0,1] .ret))))⟩
def YjM(lo:Lo):FnE:=Zfe 131 true (Zsg [] [] []) (.tp [.l Zc4,.l Zc1]) [] (fun x=>q3 lo:Unit->Option (Zt2×Zt0))
def fs4(lo:Lo):List FnE:=YjM lo::fs3 lo
theorem Yqa(h:GZ P fm fs3 lo)(t:Ti P fm 131 Yp9):GZ P fm fs4 lo:=
  h.p (YjM lo) .n t
def q4_L3_b:VCode:=
 (Rg [oR 19 .lss 18 17]
 (.seq (Ce 19 0)
 (.seq (.blk 1 (Rg [oI 20 2 16 18,oT 21 2 20,o 6 (.alloc [.i .u32 0,.i .u32 0]),oS 2 6 21]
 (Rg [oF 22 0 6,oL 23 22,oF 24 1 6,oL 25 24,oR 26 .or 23 25,oM 27 0,oR 28 .shr 26 27,oR 29 .neq 28 (ki .u32 0)]
 (.cond 29 (Rg [oK 4 1]
 (Fr 4))
 .skip))))
 (.reg [oR 30 .add 18 (k 1),oM 18 30]))))
def YjN(lo:Lo):Int×Zt2×Int×Int->Option ((Int×Zt2×Int×Int)⊕ (Int⊕Unit)):=fun x=>match x with
  | (n0,v16,v17,v18)=>bif(decide (v18<v17))then(chk (0<=v18/\v18< (v16.length:Int)) (chk (0<=n0) (bif(!decide (((bits .or .u32 ((v16.getD v18.toNat ((0:Int),(0:Int))).1) ((v16.getD v18.toNat ((0:Int),(0:Int))).2)).fdiv (2^(min n0.toNat (IntKind.bits .u32))))=(0:Int)))then(some (.inr (.inl (1:Int))))else(some (.inl (n0,v16,v17,(Yx3 .i64 (v18+1))))))))else(some (.inr (.inr ())))
def YjO(lo:Lo):Int×Zt2×Int×Int->Option (Int⊕Unit):=lo.run (YjN lo)
def Yqb(lo:Lo):LpE:=⟨3,[],(Zsg [0,16,17,18] [.j,.l Zc4,.j,.j] []),[⟨.ret,(Zsg [4] [.j] [])⟩,⟨.exit 0,(Zsg [] [] [])⟩],YjO lo⟩
def Yqc(lo:Lo):LL:=(Yqb lo,.loop q4_L3_b.er)::[]
theorem Yqd(lo:Lo):Lk lo pf (fs4 lo) 0 (Yqc lo):=.l .n (YjN lo)
def q4(lo:Lo)(n0:Int)(fds1:List (Int×Int)):Option Int:=
  bif(decide (n0<0))then(some (7:Int))else(bif(decide (16<n0))then(some (7:Int))else(bif(decide ((64:Int)< (fds1.length:Int)))then(some (3:Int))else(YxM (YjO lo (n0,fds1,(fds1.length:Int),(0:Int))) fun y6=>alt2 y6 (fun y7=>some y7) (fun y8=>some (0:Int)))))
def Yqe:VFn:=⟨true,31,[.t 4],
 (Rg [oK 4 0]
 (.seq (Rg [oM 7 0,oR 8 .lss 7 (k 0),oM 9 8,gF 10 9 (.mv 0),gF 11 9 (.bin .gtr 10 (k 16)),oP 12 9 (kb true) 11]
 (.cond 12 (Rg [oK 4 7]
 (Fr 4))
 .skip))
 (.seq (Rg [oM 13 1,oN 14 13,oR 15 .gtr 14 (k 64)]
 (.cond 15 (Rg [oK 4 3]
 (Fr 4))
 .skip))
 (.seq (Rg [oM 16 1,oN 17 16,oK 18 0]
 (.blk 0 (.loop 3 q4_L3_b)))
 (Rg [oK 4 0]
 (Fr 4))))))⟩
def YjP(lo:Lo):FnE:=Zfe 132 true (Zsg [0,1] [.j,.l Zc4] []) (.i .i64) [] (fun x=>q4 lo x.1 x.2:Int×Zt2->Option Int)
def fs5(lo:Lo):List FnE:=YjP lo::fs4 lo
theorem Yqf(h:GZ P fm fs4 lo)(t:Ti P fm 132 Yqe):GZ P fm fs5 lo:=
  h.p (YjP lo) (Yqd lo) t
def q5(lo:Lo)(n0:Int):Option Int:=
  chk (0<=n0) (some (Yx3 .u32 ((Yx3 .u32 ((1:Int)*2^(min n0.toNat (IntKind.bits .u32))))-(1:Int))))
def Yqg:VFn:=⟨true,6,[.t 2],
 (Rg [o 2 (.mv (ki .u32 0))]
 (Rg [oM 3 0,oR 4 .shl (ki .u32 1) 3,oR 5 .sub 4 (ki .u32 1),oM 2 5]
 (Fr 2)))⟩
def YjQ(lo:Lo):FnE:=Zfe 138 true (Zsg [0] [.j] []) (.i .u32) [] (fun x=>q5 lo x:Int->Option Int)
def fs6(lo:Lo):List FnE:=YjQ lo::fs5 lo
theorem Yqh(h:GZ P fm fs5 lo)(t:Ti P fm 138 Yqg):GZ P fm fs6 lo:=
  h.p (YjQ lo) .n t
def q6(lo:Lo)(a0:Int)(b1:Int):Option Bool:=
  some (decide ((bits .andNot .u32 a0 b1)=(0:Int)))
def Yqi:VFn:=⟨true,9,[.t 4],
 (Rg [oB 4 false]
 (Rg [oM 5 0,oM 6 1,oR 7 .andNot 5 6,oR 8 .eql 7 (ki .u32 0),oM 4 8]
 (Fr 4)))⟩
def YjR(lo:Lo):FnE:=Zfe 137 true (Zsg [0,1] [.i .u32,.i .u32] []) .b [] (fun x=>q6 lo x.1 x.2:Int×Int->Option Bool)
def fs7(lo:Lo):List FnE:=YjR lo::fs6 lo
theorem Yqj(h:GZ P fm fs6 lo)(t:Ti P fm 137 Yqi):GZ P fm fs7 lo:=
  h.p (YjR lo) .n t
def q7(lo:Lo)(k0:Int)(v1:Int)(v2:List (Int× (List Int)×Int×Int)):Option (Int×Int×Bool×Int×Zt0):=
  bif(decide (k0<0))then(some ((0:Int),(0:Int),false,v1,v2))else(bif(decide (v1<=k0))then(some ((0:Int),(0:Int),false,v1,v2))else(chk (0<=k0/\k0< (v2.length:Int)) (some ((v2.getD k0.toNat ((0:Int),[],(0:Int),(0:Int))).2.2.1,(v2.getD k0.toNat ((0:Int),[],(0:Int),(0:Int))).2.2.2,true,v1,v2))))
def Yqk:VFn:=⟨true,19,[.c 4 true 2,.t 5],
 (Rg [o 4 (.alloc [.i .u32 0,.i .u32 0]),oB 5 false]
 (.seq (Rg [oM 6 0,oR 7 .lss 6 (k 0),oM 8 7,gF 9 8 (.mv 0),gF 10 8 (.load false 1 1),gF 11 8 (.bin .geq 9 10),oP 12 8 (kb true) 11]
 (.cond 12 (Rg [o 13 (.build [.i .u32 0,.i .u32 0] []),oS 2 4 13,oB 5 false]
 .ret)
 .skip))
 (Rg [oL 14 2,oM 15 0,oI 16 4 14 15,oF 17 2 16,oT 18 2 17,oS 2 4 18,oB 5 true]
 .ret)))⟩
def YjS(lo:Lo):FnE:=Zfe 158 false (Zsg [0,1,2] [.j,.ptr 0 0 0,.ptr 1 0 0] [.st [.j],.st [.l Zc1]]) (.tp [.ag [.i .u32,.i .u32],.b]) [.st [.j],.st [.l Zc1]] (fun x=>q7 lo x.1 x.2.1 x.2.2:Int×Int×Zt0->Option (Int×Int×Bool×Int×Zt0))
def fs8(lo:Lo):List FnE:=YjS lo::fs7 lo
theorem Yql(h:GZ P fm fs7 lo)(t:Ti P fm 158 Yqk):GZ P fm fs8 lo:=
  h.i (YjS lo) .n t
def q8(lo:Lo)(n0:Int)(fds1:List (Int×Int))(steps2:List (Int× (List Int)×Int×Int))(i3:Int):Option Bool:=
  chk (0<=i3/\i3< (steps2.length:Int)) (YxM (q5 lo n0) fun y10=>YxM (q6 lo (bits .or .u32 ((steps2.getD i3.toNat ((0:Int),[],(0:Int),(0:Int))).2.2.1) ((steps2.getD i3.toNat ((0:Int),[],(0:Int),(0:Int))).2.2.2)) y10) fun y11=>bif(!y11)then(some false)else(bif(decide ((steps2.getD i3.toNat ((0:Int),[],(0:Int),(0:Int))).1=(1:Int)))then(bif(decide ((((steps2.getD i3.toNat ((0:Int),[],(0:Int),(0:Int))).2.1).length:Int)=(1:Int)))then(chk (0<=(0:Int)/\ (0:Int)< (((steps2.getD i3.toNat ((0:Int),[],(0:Int),(0:Int))).2.1).length:Int)) (bif(decide ((0:Int)<=(((steps2.getD i3.toNat ((0:Int),[],(0:Int),(0:Int))).2.1).getD 0 (0:Int))))then(chk (0<=(0:Int)/\ (0:Int)< (((steps2.getD i3.toNat ((0:Int),[],(0:Int),(0:Int))).2.1).length:Int)) (bif(decide ((((steps2.getD i3.toNat ((0:Int),[],(0:Int),(0:Int))).2.1).getD 0 (0:Int))< (fds1.length:Int)))then(chk (0<=(0:Int)/\ (0:Int)< (((steps2.getD i3.toNat ((0:Int),[],(0:Int),(0:Int))).2.1).length:Int)) (chk (0<=(((steps2.getD i3.toNat ((0:Int),[],(0:Int),(0:Int))).2.1).getD 0 (0:Int))/\ (((steps2.getD i3.toNat ((0:Int),[],(0:Int),(0:Int))).2.1).getD 0 (0:Int))< (fds1.length:Int)) (some ((decide ((fds1.getD ((((steps2.getD i3.toNat ((0:Int),[],(0:Int),(0:Int))).2.1).getD 0 (0:Int)).toNat) ((0:Int),(0:Int))).1=(steps2.getD i3.toNat ((0:Int),[],(0:Int),(0:Int))).2.2.1))&& ((decide ((fds1.getD ((((steps2.getD i3.toNat ((0:Int),[],(0:Int),(0:Int))).2.1).getD 0 (0:Int)).toNat) ((0:Int),(0:Int))).2=(steps2.getD i3.toNat ((0:Int),[],(0:Int),(0:Int))).2.2.2))&&true)))))else(some false)))else(some false)))else(some false))else(bif(decide ((steps2.getD i3.toNat ((0:Int),[],(0:Int),(0:Int))).1=(2:Int)))then(bif(decide ((((steps2.getD i3.toNat ((0:Int),[],(0:Int),(0:Int))).2.1).length:Int)=(0:Int)))then(YxM (q6 lo ((steps2.getD i3.toNat ((0:Int),[],(0:Int),(0:Int))).2.2.2) ((steps2.getD i3.toNat ((0:Int),[],(0:Int),(0:Int))).2.2.1)) fun y12=>some y12)else(some false))else(bif(decide ((steps2.getD i3.toNat ((0:Int),[],(0:Int),(0:Int))).1=(3:Int)))then(bif(!decide ((((steps2.getD i3.toNat ((0:Int),[],(0:Int),(0:Int))).2.1).length:Int)=(1:Int)))then(some false)else(chk (0<=(0:Int)/\ (0:Int)< (((steps2.getD i3.toNat ((0:Int),[],(0:Int),(0:Int))).2.1).length:Int)) (YxM (q7 lo (((steps2.getD i3.toNat ((0:Int),[],(0:Int),(0:Int))).2.1).getD 0 (0:Int)) i3 steps2) fun y13=>bif y13.2.2.1 then(YxM (q6 lo y13.1 ((steps2.getD i3.toNat ((0:Int),[],(0:Int),(0:Int))).2.2.1)) fun y14=>bif y14 then(YxM (q6 lo y13.2.1 ((steps2.getD i3.toNat ((0:Int),[],(0:Int),(0:Int))).2.2.2)) fun y15=>bif y15 then(YxM (q6 lo (bits .andNot .u32 ((steps2.getD i3.toNat ((0:Int),[],(0:Int),(0:Int))).2.2.1) y13.1) ((steps2.getD i3.toNat ((0:Int),[],(0:Int),(0:Int))).2.2.2)) fun y16=>bif y16 then(YxM (q6 lo (bits .andNot .u32 ((steps2.getD i3.toNat ((0:Int),[],(0:Int),(0:Int))).2.2.2) y13.2.1) ((steps2.getD i3.toNat ((0:Int),[],(0:Int),(0:Int))).2.2.1)) fun y17=>some y17)else(some false))else(some false))else(some false))else(some false))))else(bif(decide ((steps2.getD i3.toNat ((0:Int),[],(0:Int),(0:Int))).1=(4:Int)))then(bif(!decide ((((steps2.getD i3.toNat ((0:Int),[],(0:Int),(0:Int))).2.1).length:Int)=(2:Int)))then(some false)else(chk (0<=(0:Int)/\ (0:Int)< (((steps2.getD i3.toNat ((0:Int),[],(0:Int),(0:Int))).2.1).length:Int)) (YxM (q7 lo (((steps2.getD i3.toNat ((0:Int),[],(0:Int),(0:Int))).2.1).getD 0 (0:Int)) i3 steps2) fun y18=>chk (0<=(1:Int)/\ (1:Int)< (((steps2.getD i3.toNat ((0:Int),[],(0:Int),(0:Int))).2.1).length:Int)) (YxM (q7 lo (((steps2.getD i3.toNat ((0:Int),[],(0:Int),(0:Int))).2.1).getD 1 (0:Int)) y18.2.2.2.1 y18.2.2.2.2) fun y19=>bif y18.2.2.1 then(bif y19.2.2.1 then(bif(decide (y18.2.1=y19.1))then(some ((decide ((steps2.getD i3.toNat ((0:Int),[],(0:Int),(0:Int))).2.2.1=y18.1))&& ((decide ((steps2.getD i3.toNat ((0:Int),[],(0:Int),(0:Int))).2.2.2=y19.2.1))&&true)))else(some false))else(some false))else(some false)))))else(some false))))))
def Yqm:VFn:=⟨true,176,[.t 8],
 (Rg [oG 6 2,oG 7 3,oB 8 false]
 (Rg [oL 18 6,oL 19 7,oI 20 4 18 19,oT 21 4 20,o 9 (.alloc [.i .i64 0,.e (cs [I]),.i .u32 0,.i .u32 0]),oS 4 9 21]
 (Rg [oF 22 2 9,oT 23 2 22,o 10 (.alloc [.i .u32 0,.i .u32 0]),oS 2 10 23]
 (.seq (Rg [oF 24 0 10,oL 25 24,oF 26 1 10,oL 27 26,oR 28 .or 25 27,oM 29 0,oC 30 138 [29],oC 31 137 [28,30],oX 32 31]
 (.cond 32 (Rg [oB 8 false]
 (Fr 8))
 .skip))
 (Rg [o 33 (.mkf 158 [7,6]),oM 11 33]
 (.seq (Rg [oF 34 0 9,oL 35 34]
 (.blk 0 (Rg [oR 37 .eql 35 (k 1),oM 36 37]
 (.cond 36 (Rg [oF 38 1 9,oL 39 38,oN 40 39,oR 41 .eql 40 (k 1),oM 42 41,gT 43 42 (.fad 1 9),gT 44 42 (.load false 1 43),gT 45 42 (.iad 1 44 (k 0)),gT 46 42 (.load false 1 45),gT 47 42 (.bin .geq 46 (k 0)),oP 48 42 47 (kb false),oM 49 48,gT 50 49 (.fad 1 9),gT 51 49 (.load false 1 50),gT 52 49 (.iad 1 51 (k 0)),gT 53 49 (.load false 1 52),gT 54 49 (.mv 1),gT 55 49 (.len 54),gT 56 49 (.bin .lss 53 55),oP 57 49 56 (kb false),oM 58 57,gT 59 58 (.mv 1),gT 60 58 (.fad 1 9),gT 61 58 (.load false 1 60),gT 62 58 (.iad 1 61 (k 0)),gT 63 58 (.load false 1 62),gT 64 58 (.iad 2 59 63),gT 65 58 (.load true 2 64),gT 66 58 (.load true 2 10),gT 67 58 (.eqa false [1,1] 65 66),oP 68 58 67 (kb false),oM 8 68]
 (Fr 8))
 (Rg [oR 70 .eql 35 (k 2),oM 69 70]
 (.cond 69 (Rg [oF 71 1 9,oL 72 71,oN 73 72,oR 74 .eql 73 (k 0),oM 75 74,gT 76 75 (.fad 1 10),gT 77 75 (.load false 1 76),gT 78 75 (.fad 0 10),gT 79 75 (.load false 1 78),gT 80 75 (.call 137 [77,79]),oP 81 75 80 (kb false),oM 8 81]
 (Fr 8))
 (Rg [oR 83 .eql 35 (k 3),oM 82 83]
 (.cond 82 (.seq (Rg [oF 84 1 9,oL 85 84,oN 86 85,oR 87 .neq 86 (k 1)]
 (.cond 87 (Rg [oB 8 false]
 (Fr 8))
 .skip))
 (Rg [oM 89 11,oF 90 1 9,oL 91 90,o 92 (.iad 1 91 (k 0)),oL 93 92,o 94 (.dyn 89 [93]),oM 88 94,oE 95 88 0,oE 96 88 1,o 12 (.alloc [.i .u32 0,.i .u32 0]),oS 2 12 95,oM 13 96]
 (Rg [oM 97 13,oM 98 97,gT 99 98 (.fad 0 12),gT 100 98 (.load false 1 99),gT 101 98 (.fad 0 10),gT 102 98 (.load false 1 101),gT 103 98 (.call 137 [100,102]),oP 104 98 103 (kb false),oM 105 104,gT 106 105 (.fad 1 12),gT 107 105 (.load false 1 106),gT 108 105 (.fad 1 10),gT 109 105 (.load false 1 108),gT 110 105 (.call 137 [107,109]),oP 111 105 110 (kb false),oM 112 111,gT 113 112 (.fad 0 10),gT 114 112 (.load false 1 113),gT 115 112 (.fad 0 12),gT 116 112 (.load false 1 115),gT 117 112 (.bin .andNot 114 116),gT 118 112 (.fad 1 10),gT 119 112 (.load false 1 118),gT 120 112 (.call 137 [117,119]),oP 121 112 120 (kb false),oM 122 121,gT 123 122 (.fad 1 10),gT 124 122 (.load false 1 123),gT 125 122 (.fad 1 12),gT 126 122 (.load false 1 125),gT 127 122 (.bin .andNot 124 126),gT 128 122 (.fad 0 10),gT 129 122 (.load false 1 128),gT 130 122 (.call 137 [127,129]),oP 131 122 130 (kb false),oM 8 131]
 (Fr 8))))
 (Rg [oR 133 .eql 35 (k 4),oM 132 133]
 (.cond 132 (.seq (Rg [oF 134 1 9,oL 135 134,oN 136 135,oR 137 .neq 136 (k 2)]
 (.cond 137 (Rg [oB 8 false]
 (Fr 8))
 .skip))
 (Rg [oM 139 11,oF 140 1 9,oL 141 140,o 142 (.iad 1 141 (k 0)),oL 143 142,o 144 (.dyn 139 [143]),oM 138 144,oE 145 138 0,oE 146 138 1,o 14 (.alloc [.i .u32 0,.i .u32 0]),oS 2 14 145,oM 15 146]
 (Rg [oM 148 11,oF 149 1 9,oL 150 149,o 151 (.iad 1 150 (k 1)),oL 152 151,o 153 (.dyn 148 [152]),oM 147 153,oE 154 147 0,oE 155 147 1,o 16 (.alloc [.i .u32 0,.i .u32 0]),oS 2 16 154,oM 17 155]
 (Rg [oM 156 15,oM 157 156,gT 158 157 (.mv 17),oP 159 157 158 (kb false),oM 160 159,gT 161 160 (.fad 1 14),gT 162 160 (.load false 1 161),gT 163 160 (.fad 0 16),gT 164 160 (.load false 1 163),gT 165 160 (.bin .eql 162 164),oP 166 160 165 (kb false),oM 167 166,gT 168 167 (.load true 2 10),gT 169 167 (.fad 0 14),gT 170 167 (.load false 1 169),gT 171 167 (.fad 1 16),gT 172 167 (.load false 1 171),gT 173 167 (.build [.i .u32 0,.i .u32 0] [(0,1,170),(1,1,172)]),gT 174 167 (.eqa false [1,1] 168 173),oP 175 167 174 (kb false),oM 8 175]
 (Fr 8)))))
 .skip))))))))))
 (Rg [oB 8 false]
 (Fr 8))))))))⟩
def YjT(lo:Lo):FnE:=Zfe 133 true (Zsg [0,1,2,3] [.j,.l Zc4,.l Zc1,.j] []) .b [] (fun x=>q8 lo x.1 x.2.1 x.2.2.1 x.2.2.2:Int×Zt2×Zt0×Int->Option Bool)
def fs9(lo:Lo):List FnE:=YjT lo::fs8 lo
theorem Yqn(h:GZ P fm fs8 lo)(t:Ti P fm 133 Yqm):GZ P fm fs9 lo:=
  h.p (YjT lo) .n t
def q9_L3_b:VCode:=
 (Rg [oR 22 .lss 21 20]
 (.seq (Ce 22 0)
 (.seq (.blk 1 (Rg [oM 23 21,oM 9 23]
 (Rg [oM 24 0,oM 25 1,oM 26 2,oM 27 9,oC 28 133 [24,25,26,27],oX 29 28]
 (.cond 29 (Rg [oM 30 9,oM 6 30,oK 7 1]
 (.fz [6,7] .ret))
 .skip))))
 (.reg [oR 31 .add 21 (k 1),oM 21 31]))))
def YjU(lo:Lo):Int×Zt2×Zt0×Int×Int->Option ((Int×Zt2×Zt0×Int×Int)⊕ ((Int×Int)⊕Unit)):=fun x=>match x with
  | (n0,fds1,steps2,v20,v21)=>bif(decide (v21<v20))then(YxM (q8 lo n0 fds1 steps2 v21) fun y20=>bif(!y20)then(some (.inr (.inl (v21,(1:Int)))))else(some (.inl (n0,fds1,steps2,v20,(Yx3 .i64 (v21+1))))))else(some (.inr (.inr ())))
def YjV(lo:Lo):Int×Zt2×Zt0×Int×Int->Option ((Int×Int)⊕Unit):=lo.run (YjU lo)
def Yqo(lo:Lo):LpE:=⟨3,[],(Zsg [0,1,2,20,21] [.j,.l Zc4,.l Zc1,.j,.j] []),[⟨.ret,(Zsg [6,7] [.j,.j] [])⟩,⟨.exit 0,(Zsg [] [] [])⟩],YjV lo⟩
def Yqp(lo:Lo):LL:=(Yqo lo,.loop q9_L3_b.er)::[]
theorem Yqq(lo:Lo):Lk lo pf (fs9 lo) 0 (Yqp lo):=.l .n (YjU lo)
def q9(lo:Lo)(n0:Int)(fds1:List (Int×Int))(steps2:List (Int× (List Int)×Int×Int)):Option (Int×Int):=
  YxM (q4 lo n0 fds1) fun y9=>bif(!decide (y9=0))then(some ((0:Int),y9))else(bif(decide ((steps2.length:Int)=0))then(some ((0:Int),(12:Int)))else(YxM (YjV lo (n0,fds1,steps2,(steps2.length:Int),(0:Int))) fun y21=>alt2 y21 (fun y22=>some (y22.1,y22.2)) (fun y23=>some ((0:Int),(0:Int)))))
def Yqr:VFn:=⟨true,32,[.t 6,.t 7],
 (Rg [oK 6 0,oK 7 0]
 (.seq (Rg [oM 10 0,oM 11 1,oC 12 132 [10,11],oM 8 12]
 (Rg [oM 13 8,oR 14 .neq 13 (k 0)]
 (.cond 14 (Rg [oM 15 8,oK 6 0,oM 7 15]
 (.fz [6,7] .ret))
 .skip)))
 (.seq (Rg [oM 16 2,oN 17 16,oR 18 .eql 17 (k 0)]
 (.cond 18 (Rg [oK 6 0,oK 7 12]
 (.fz [6,7] .ret))
 .skip))
 (.seq (Rg [oM 19 2,oN 20 19,oK 21 0]
 (.blk 0 (.loop 3 q9_L3_b)))
 (Rg [oK 6 0,oK 7 0]
 (.fz [6,7] .ret))))))⟩
def YjW(lo:Lo):FnE:=Zfe 111 true (Zsg [0,1,2] [.j,.l Zc4,.l Zc1] []) (.tp [.j,.j]) [] (fun x=>q9 lo x.1 x.2.1 x.2.2:Int×Zt2×Zt0->Option (Int×Int))
def fs10(lo:Lo):List FnE:=YjW lo::fs9 lo
theorem Yqs(h:GZ P fm fs9 lo)(t:Ti P fm 111 Yqr):GZ P fm fs10 lo:=
  h.p (YjW lo) (Yqq lo) t
def q10_L5_b:VCode:=
 (Rg [oR 12 .lss 11 10]
 (.seq (Ce 12 2)
 (.seq (.blk 3 (Rg [oI 13 2 9 11,oT 14 2 13,o 7 (.alloc [.i .u32 0,.i .u32 0]),oS 2 7 14]
 (Rg [oF 15 0 7,oL 16 15,oM 17 1,oR 18 .andNot 16 17,oR 19 .eql 18 (ki .u32 0)]
 (.cond 19 (.reg [oM 20 1,oF 21 1 7,oL 22 21,oR 23 .or 20 22,oM 1 23])
 .skip))))
 (.reg [oR 24 .add 11 (k 1),oM 11 24]))))
def YjX(lo:Lo):Zt2×Int×Int×Zt2×Int×Int->Option ((Zt2×Int×Int×Zt2×Int×Int)⊕ ((Zt2×Int×Int))):=fun x=>match x with
  | (fds0,s1,before5,v9,v10,v11)=>bif(decide (v11<v10))then(chk (0<=v11/\v11< (v9.length:Int)) (bif(decide ((bits .andNot .u32 ((v9.getD v11.toNat ((0:Int),(0:Int))).1) s1)=(0:Int)))then(some (.inl (fds0,(bits .or .u32 s1 ((v9.getD v11.toNat ((0:Int),(0:Int))).2)),before5,v9,v10,(Yx3 .i64 (v11+1)))))else(some (.inl (fds0,s1,before5,v9,v10,(Yx3 .i64 (v11+1)))))))else(some (.inr (fds0,s1,before5)))
def YjY(lo:Lo):Zt2×Int×Int×Zt2×Int×Int->Option ((Zt2×Int×Int)):=lo.run (YjX lo)
def Yqt(lo:Lo):LpE:=⟨5,[],(Zsg [0,1,5,9,10,11] [.l Zc4,.i .u32,.i .u32,.l Zc4,.j,.j] []),[⟨.exit 2,(Zsg [0,1,5] [.l Zc4,.i .u32,.i .u32] [])⟩],YjY lo⟩
def YjZ(lo:Lo):LL:=(Yqt lo,.loop q10_L5_b.er)::[]
theorem Yqu(lo:Lo):Lk lo pf (fs10 lo) 0 (YjZ lo):=.l .n (YjX lo)
def q10_L1_b:VCode:=
 (.blk 1 (Rg [oM 8 1,oM 5 8]
 (.seq (Rg [oM 9 0,oN 10 9,oK 11 0]
 (.blk 2 (.loop 5 q10_L5_b)))
 (Rg [oM 25 1,oM 26 5,oR 27 .eql 25 26]
 (.cond 27 (Rg [oM 28 1,oM 4 28]
 (Fr 4))
 .skip)))))
def Yj0(lo:Lo):Zt2×Int->Option ((Zt2×Int)⊕Int):=fun x=>match x with
  | (fds0,s1)=>YxM (YjY lo (fds0,s1,s1,fds0,(fds0.length:Int),(0:Int))) fun y29=>bif(decide (y29.2.1=y29.2.2))then(some (.inr y29.2.1))else(some (.inl (y29.1,y29.2.1)))
def Yj1(lo:Lo):Zt2×Int->Option Int:=lo.run (Yj0 lo)
def Yqv(lo:Lo):LpE:=⟨1,[],(Zsg [0,1] [.l Zc4,.i .u32] []),[⟨.ret,(Zsg [4] [.i .u32] [])⟩],Yj1 lo⟩
def Yqw(lo:Lo):LL:=(Yqv lo,.loop q10_L1_b.er)::YjZ lo
theorem Yqx(lo:Lo):Lk lo pf (fs10 lo) 0 (Yqw lo):=.l (Yqu lo) (Yj0 lo)
def q10(lo:Lo)(fds0:List (Int×Int))(s1:Int):Option Int:=
  YxM (Yj1 lo (fds0,s1)) fun y30=>some y30
def Yqy:VFn:=⟨true,29,[.t 4],
 (Rg [o 4 (.mv (ki .u32 0))]
 (.blk 0 (.loop 1 q10_L1_b)))⟩
def Yj2(lo:Lo):FnE:=Zfe 160 true (Zsg [0,1] [.l Zc4,.i .u32] []) (.i .u32) [] (fun x=>q10 lo x.1 x.2:Zt2×Int->Option Int)
def fs11(lo:Lo):List FnE:=Yj2 lo::fs10 lo
theorem Yqz(h:GZ P fm fs10 lo)(t:Ti P fm 160 Yqy):GZ P fm fs11 lo:=
  h.p (Yj2 lo) (Yqx lo) t
def q11(lo:Lo)(fds0:List (Int×Int))(fd1_0:Int)(fd1_1:Int):Option Bool:=
  YxM (q10 lo fds0 fd1_0) fun y31=>some (decide ((bits .andNot .u32 fd1_1 y31)=(0:Int)))
def YqA:VFn:=⟨true,13,[.t 4],
 (Rg [oG 3 1,oB 4 false]
 (Rg [oF 5 1 3,oL 6 5,oM 7 0,oF 8 0 3,oL 9 8,oC 10 160 [7,9],oR 11 .andNot 6 10,oR 12 .eql 11 (ki .u32 0),oM 4 12]
 (Fr 4)))⟩
def Yj3(lo:Lo):FnE:=Zfe 139 true (Zsg [0,1] [.l Zc4,.ag [.i .u32,.i .u32]] []) .b [] (fun x=>q11 lo x.1 x.2.1 x.2.2:Zt2×Int×Int->Option Bool)
def fs12(lo:Lo):List FnE:=Yj3 lo::fs11 lo
theorem YqB(h:GZ P fm fs11 lo)(t:Ti P fm 139 YqA):GZ P fm fs12 lo:=
  h.p (Yj3 lo) .n t
def q12(lo:Lo)(rule1:Int)(lhs2:Int)(rhs3:Int):Option (Int×Zt0):=
  chk (([(rule1,([]:List Int),lhs2,rhs3)]).length<=maxEl) (some ((Yx3 .i64 ((([(rule1,([]:List Int),lhs2,rhs3)]).length:Int)-(1:Int))),[(rule1,([]:List Int),lhs2,rhs3)]))
def YqC:VFn:=⟨true,32,[.t 10],
 (Rg [oK 10 0]
 (Rg [oM 11 0,oM 12 0,o 13 (.nilc 12),oF 14 0 13,oL 15 14,oM 16 1,oM 17 4,oM 18 2,oM 19 3,o 20 (.build [.i .u32 0,.i .u32 0] [(0,1,18),(1,1,19)]),o 21 (.build [.i .i64 0,.e (cs [I]),.i .u32 0,.i .u32 0] [(0,1,16),(1,1,17),(2,2,20)]),o 22 (.bsl Zc1 1 [(0,21)]),o 23 (.app Zc1 0 15 22),o 24 (.nilc 11),oF 25 0 24,oS 1 25 23]
 (Rg [oM 26 0,o 27 (.nilc 26),oF 28 0 27,oL 29 28,oN 30 29,oR 31 .sub 30 (k 1),oM 10 31]
 (.ow [(0,some 0,false)] .ret))))⟩
def Yj4(lo:Lo):FnE:=Zfe 140 false (Zsg [0,1,2,3,4] [.ptr 0 0 0,.j,.i .u32,.i .u32,.e (cs [I])] [.st [.e Zc1]]) (.i .i64) [.st [.ref 1],.sq Zc1] (fun x=>q12 lo x.1 x.2.1 x.2.2:Int×Int×Int->Option (Int×Zt0))
def fs13(lo:Lo):List FnE:=Yj4 lo::fs12 lo
theorem YqD(h:GZ P fm fs12 lo)(t:Ti P fm 140 YqC):GZ P fm fs13 lo:=
  h.i (Yj4 lo) .n t
def q13_L3_b:VCode:=
 (Rg [oR 10 .lss 9 8]
 (.seq (Ce 10 0)
 (.seq (.blk 1 (Rg [oM 11 9,oI 12 2 7 9,oT 13 2 12,o 6 (.alloc [.i .u32 0,.i .u32 0]),oM 5 11,oS 2 6 13]
 (Rg [oF 14 0 6,oL 15 14,oM 16 1,oR 17 .andNot 15 16,oR 18 .eql 17 (ki .u32 0),oM 19 18,gT 20 19 (.fad 1 6),gT 21 19 (.load false 1 20),gT 22 19 (.mv 1),gT 23 19 (.bin .andNot 21 22),gT 24 19 (.bin .neq 23 (ki .u32 0)),oP 25 19 24 (kb false)]
 (.cond 25 (Rg [oM 26 5,oM 4 26]
 (Fr 4))
 .skip))))
 (.reg [oR 27 .add 9 (k 1),oM 9 27]))))
def Yj5(lo:Lo):Int×Zt2×Int×Int->Option ((Int×Zt2×Int×Int)⊕ (Int⊕Unit)):=fun x=>match x with
  | (s1,v7,v8,v9)=>bif(decide (v9<v8))then(chk (0<=v9/\v9< (v7.length:Int)) (bif(decide ((bits .andNot .u32 ((v7.getD v9.toNat ((0:Int),(0:Int))).1) s1)=(0:Int)))then(bif(!decide ((bits .andNot .u32 ((v7.getD v9.toNat ((0:Int),(0:Int))).2) s1)=(0:Int)))then(some (.inr (.inl v9)))else(some (.inl (s1,v7,v8,(Yx3 .i64 (v9+1))))))else(some (.inl (s1,v7,v8,(Yx3 .i64 (v9+1)))))))else(some (.inr (.inr ())))
def Yj6(lo:Lo):Int×Zt2×Int×Int->Option (Int⊕Unit):=lo.run (Yj5 lo)
def YqE(lo:Lo):LpE:=⟨3,[],(Zsg [1,7,8,9] [.i .u32,.l Zc4,.j,.j] []),[⟨.ret,(Zsg [4] [.j] [])⟩,⟨.exit 0,(Zsg [] [] [])⟩],Yj6 lo⟩
def YqF(lo:Lo):LL:=(YqE lo,.loop q13_L3_b.er)::[]
theorem YqG(lo:Lo):Lk lo pf (fs13 lo) 0 (YqF lo):=.l .n (Yj5 lo)
def q13(lo:Lo)(fds0:List (Int×Int))(s1:Int):Option Int:=
  YxM (Yj6 lo (s1,fds0,(fds0.length:Int),(0:Int))) fun y34=>alt2 y34 (fun y35=>some y35) (fun y36=>some (-1:Int))
def YqH:VFn:=⟨true,28,[.t 4],
 (Rg [oK 4 0]
 (.seq (Rg [oM 7 0,oN 8 7,oK 9 0]
 (.blk 0 (.loop 3 q13_L3_b)))
 (Rg [oK 4 (-1)]
 (Fr 4))))⟩
def Yj7(lo:Lo):FnE:=Zfe 161 true (Zsg [0,1] [.l Zc4,.i .u32] []) (.i .i64) [] (fun x=>q13 lo x.1 x.2:Zt2×Int->Option Int)
def fs14(lo:Lo):List FnE:=Yj7 lo::fs13 lo
theorem YqI(h:GZ P fm fs13 lo)(t:Ti P fm 161 YqH):GZ P fm fs14 lo:=
  h.p (Yj7 lo) (YqG lo) t
def q14_L3_b:VCode:=
 (.seq (Rg [oM 10 6,oR 11 .geq 10 (k 0)]
 (Ce 11 0))
 (.seq (.blk 1 (Rg [oM 15 1,oM 16 0,oM 17 6,oI 18 2 16 17,oF 19 1 18,oL 20 19,oR 21 .or 15 20,oM 1 21]
 (.reg [oM 22 5,oM 23 6,o 24 (.bsl (cs [I]) 1 [(0,23)]),o 25 (.app (cs [I]) 0 22 24),oM 5 25])))
 (.reg [oM 12 0,oM 13 1,oC 14 161 [12,13],oM 6 14])))
def Yj8(lo:Lo):Zt2×Int×Int× (List Int)->Option ((Zt2×Int×Int× (List Int))⊕ (((List Int)))):=fun x=>match x with
  | (fds0,s1,i6,out5)=>bif(decide (0<=i6))then(chk (0<=i6/\i6< (fds0.length:Int)) (chk (out5.length+[i6].length<=maxEl) (YxM (q13 lo fds0 (bits .or .u32 s1 ((fds0.getD i6.toNat ((0:Int),(0:Int))).2))) fun y38=>some (.inl (fds0,(bits .or .u32 s1 ((fds0.getD i6.toNat ((0:Int),(0:Int))).2)),y38,(out5++[i6]))))))else(some (.inr out5))
def Yj9(lo:Lo):Zt2×Int×Int× (List Int)->Option (((List Int))):=lo.run (Yj8 lo)
def YqJ(lo:Lo):LpE:=⟨3,[(5,none,false)],(Zsg [0,1,5,6] [.l Zc4,.i .u32,.ref 0,.j] [.sq (cs [I])]),[⟨.exit 0,(Zsg [5] [.ref 0] [.sq (cs [I])])⟩],Yj9 lo⟩
def YqK(lo:Lo):LL:=(YqJ lo,.loop q14_L3_b.er)::[]
theorem YqL(lo:Lo):Lk lo pf (fs14 lo) 0 (YqK lo):=.l .n (Yj8 lo)
def q14(lo:Lo)(fds0:List (Int×Int))(s1:Int):Option ((List Int)):=
  YxM (q13 lo fds0 s1) fun y37=>YxM (Yj9 lo (fds0,s1,y37,[])) fun y39=>some y39
def YqM:VFn:=⟨true,27,[.t 4],
 (Rg [o 4 (.mv (ke (cs [I])))]
 (Rg [o 5 (.mv (ke (cs [I])))]
 (.seq (Rg [oM 7 0,oM 8 1,oC 9 161 [7,8],oM 6 9]
 (.blk 0 (.loop 3 q14_L3_b)))
 (Rg [oM 26 5,oM 4 26]
 (Fr 4)))))⟩
def Yka(lo:Lo):FnE:=Zfe 141 true (Zsg [0,1] [.l Zc4,.i .u32] []) (.l (cs [I])) [] (fun x=>q14 lo x.1 x.2:Zt2×Int->Option ((List Int)))
def fs15(lo:Lo):List FnE:=Yka lo::fs14 lo
theorem YqN(h:GZ P fm fs14 lo)(t:Ti P fm 141 YqM):GZ P fm fs15 lo:=
  h.p (Yka lo) (YqL lo) t
def q15(lo:Lo)(rule1:Int)(lhs2:Int)(rhs3:Int)(from4:List Int)(h1:List (Int× (List Int)×Int×Int)):Option (Int×Zt0):=
  chk (h1.length+([(rule1,from4,lhs2,rhs3)]).length<=maxEl) (some ((Yx3 .i64 (((h1++([(rule1,from4,lhs2,rhs3)])).length:Int)-(1:Int))),(h1++([(rule1,from4,lhs2,rhs3)]))))
def YqO:VFn:=⟨true,32,[.t 10],
 (Rg [oK 10 0]
 (Rg [oM 11 0,oM 12 0,o 13 (.nilc 12),oF 14 0 13,oL 15 14,oM 16 1,oM 17 4,oM 18 2,oM 19 3,o 20 (.build [.i .u32 0,.i .u32 0] [(0,1,18),(1,1,19)]),o 21 (.build [.i .i64 0,.e (cs [I]),.i .u32 0,.i .u32 0] [(0,1,16),(1,1,17),(2,2,20)]),o 22 (.bsl Zc1 1 [(0,21)]),o 23 (.app Zc1 0 15 22),o 24 (.nilc 11),oF 25 0 24,oS 1 25 23]
 (Rg [oM 26 0,o 27 (.nilc 26),oF 28 0 27,oL 29 28,oN 30 29,oR 31 .sub 30 (k 1),oM 10 31]
 (.ow [(0,some 0,false)] .ret))))⟩
def Ykb(lo:Lo):FnE:=Zfe 140 false (Zsg [0,1,2,3,4] [.ptr 0 0 0,.j,.i .u32,.i .u32,.l (cs [I])] [.st [.ref 1],.sq Zc1]) (.i .i64) [.st [.ref 2],.dd,.sq Zc1] (fun x=>q15 lo x.1 x.2.1 x.2.2.1 x.2.2.2.1 x.2.2.2.2:Int×Int×Int× (List Int)×Zt0->Option (Int×Zt0))
def fs16(lo:Lo):List FnE:=Ykb lo::fs15 lo
theorem YqP(h:GZ P fm fs15 lo)(t:Ti P fm 140 YqO):GZ P fm fs16 lo:=
  h.i (Ykb lo) .n t
def q16(lo:Lo)(rule1:Int)(lhs2:Int)(rhs3:Int)(h1:List (Int× (List Int)×Int×Int)):Option (Int×Zt0):=
  chk (h1.length+([(rule1,([]:List Int),lhs2,rhs3)]).length<=maxEl) (some ((Yx3 .i64 (((h1++([(rule1,([]:List Int),lhs2,rhs3)])).length:Int)-(1:Int))),(h1++([(rule1,([]:List Int),lhs2,rhs3)]))))
def YqQ:VFn:=⟨true,32,[.t 10],
 (Rg [oK 10 0]
 (Rg [oM 11 0,oM 12 0,o 13 (.nilc 12),oF 14 0 13,oL 15 14,oM 16 1,oM 17 4,oM 18 2,oM 19 3,o 20 (.build [.i .u32 0,.i .u32 0] [(0,1,18),(1,1,19)]),o 21 (.build [.i .i64 0,.e (cs [I]),.i .u32 0,.i .u32 0] [(0,1,16),(1,1,17),(2,2,20)]),o 22 (.bsl Zc1 1 [(0,21)]),o 23 (.app Zc1 0 15 22),o 24 (.nilc 11),oF 25 0 24,oS 1 25 23]
 (Rg [oM 26 0,o 27 (.nilc 26),oF 28 0 27,oL 29 28,oN 30 29,oR 31 .sub 30 (k 1),oM 10 31]
 (.ow [(0,some 0,false)] .ret))))⟩
def Ykc(lo:Lo):FnE:=Zfe 140 false (Zsg [0,1,2,3,4] [.ptr 0 0 0,.j,.i .u32,.i .u32,.e (cs [I])] [.st [.ref 1],.sq Zc1]) (.i .i64) [.st [.ref 2],.dd,.sq Zc1] (fun x=>q16 lo x.1 x.2.1 x.2.2.1 x.2.2.2:Int×Int×Int×Zt0->Option (Int×Zt0))
def fs17(lo:Lo):List FnE:=Ykc lo::fs16 lo
theorem YqR(h:GZ P fm fs16 lo)(t:Ti P fm 140 YqQ):GZ P fm fs17 lo:=
  h.i (Ykc lo) .n t
end Go.Abs.G12
namespace Go.Abs.G12
open Go Go.Abs
set_option maxRecDepth 100000
set_option maxHeartbeats 1000000
variable{P:Program}{fm:FM}{lo:Lo}
def q17_L5_b:VCode:=
 (Rg [oR 48 .lss 47 46]
 (.seq (Ce 48 0)
 (.seq (.blk 1 (Rg [oI 49 1 45 47,oL 50 49,oM 13 50]
 (Rg [oM 51 1,oM 52 13,oI 53 2 51 52,oT 54 2 53,o 14 (.alloc [.i .u32 0,.i .u32 0]),oS 2 14 54]
 (Rg [oF 55 0 14,oL 56 55,oF 57 1 14,oL 58 57,oM 59 13,o 60 (.bsl (cs [I]) 1 [(0,59)]),oC 61 140 [9,(k 1),56,58,60],oM 15 61]
 (Rg [oM 62 10,oM 63 10,oF 64 1 14,oL 65 64,oR 66 .or 63 65,oM 67 15,o 68 (.bsl (cs [I]) 1 [(0,67)]),oC 69 140 [9,(k 3),62,66,68],oM 16 69]
 (Rg [oM 70 10,oF 71 1 14,oL 72 71,oR 73 .or 70 72,oM 10 73]
 (.reg [oF 74 0 5,oL 75 74,oM 76 10,oM 77 11,oM 78 16,o 79 (.bsl (cs [I]) 2 [(0,77),(1,78)]),oC 80 140 [9,(k 4),75,76,79],oM 11 80])))))))
 (.reg [oR 81 .add 47 (k 1),oM 47 81]))))
def Ykd(lo:Lo):Zp11->Option (Zp11⊕ ((Int×Int×Int×Int×Zt0))):=fun x=>match x with
  | (fds1,now10,last11,v45,v46,v47,goal5_0,goal5_1,h2)=>bif(decide (v47<v46))then(chk (0<=v47/\v47< (v45.length:Int)) (chk (0<=(v45.getD v47.toNat (0:Int))/\ (v45.getD v47.toNat (0:Int))< (fds1.length:Int)) (YxM (q15 lo (1:Int) ((fds1.getD ((v45.getD v47.toNat (0:Int)).toNat) ((0:Int),(0:Int))).1) ((fds1.getD ((v45.getD v47.toNat (0:Int)).toNat) ((0:Int),(0:Int))).2) ([(v45.getD v47.toNat (0:Int))]) h2) fun y41=>YxM (q15 lo (3:Int) now10 (bits .or .u32 now10 ((fds1.getD ((v45.getD v47.toNat (0:Int)).toNat) ((0:Int),(0:Int))).2)) [y41.1] y41.2) fun y42=>YxM (q15 lo (4:Int) goal5_0 (bits .or .u32 now10 ((fds1.getD ((v45.getD v47.toNat (0:Int)).toNat) ((0:Int),(0:Int))).2)) ([last11,y42.1]) y42.2) fun y43=>some (.inl (fds1,(bits .or .u32 now10 ((fds1.getD ((v45.getD v47.toNat (0:Int)).toNat) ((0:Int),(0:Int))).2)),y43.1,v45,v46,(Yx3 .i64 (v47+1)),goal5_0,goal5_1,y43.2)))))else(some (.inr (now10,last11,goal5_0,goal5_1,h2)))
def Yke(lo:Lo):Zp11->Option ((Int×Int×Int×Int×Zt0)):=lo.run (Ykd lo)
def YqS(lo:Lo):LpE:=⟨5,[],(Zsg [1,5,9,10,11,45,46,47] [.l Zc4,.ptr 0 0 0,.ptr 1 0 0,.i .u32,.j,.l (cs [I]),.j,.j] [.st [.i .u32,.i .u32],.st [.ref 2],.sq Zc1]),[⟨.exit 0,(Zsg [5,9,10,11] [.ptr 0 0 0,.ptr 1 0 0,.i .u32,.j] [.st [.i .u32,.i .u32],.st [.ref 2],.sq Zc1])⟩],Yke lo⟩
def YqT(lo:Lo):LL:=(YqS lo,.loop q17_L5_b.er)::[]
theorem YqU(lo:Lo):Lk lo pf (fs17 lo) 0 (YqT lo):=.l .n (Ykd lo)
def q17(lo:Lo)(n0:Int)(fds1:List (Int×Int))(goal2_0:Int)(goal2_1:Int):Option (Zt0×Int):=
  YxM (q4 lo n0 fds1) fun y26=>bif(!decide (y26=0))then(some (([]:List (Int× (List Int)×Int×Int)),y26))else(YxM (q5 lo n0) fun y27=>YxM (q6 lo (bits .or .u32 goal2_0 goal2_1) y27) fun y28=>bif(!y28)then(some (([]:List (Int× (List Int)×Int×Int)),(1:Int)))else(YxM (q11 lo fds1 goal2_0 goal2_1) fun y32=>bif(!y32)then(some (([]:List (Int× (List Int)×Int×Int)),(11:Int)))else(YxM (q12 lo (2:Int) goal2_0 goal2_0) fun y33=>YxM (q14 lo fds1 goal2_0) fun y40=>YxM (Yke lo (fds1,goal2_0,y33.1,y40,(y40.length:Int),(0:Int),goal2_0,goal2_1,y33.2)) fun y44=>YxM (q16 lo (2:Int) y44.1 y44.2.2.2.1 y44.2.2.2.2) fun y45=>YxM (q15 lo (4:Int) y44.2.2.1 y44.2.2.2.1 ([y44.2.1,y45.1]) y45.2) fun y46=>some (y46.2,(0:Int)))))
def YqV:VFn:=⟨true,96,[.t 6,.t 7],
 (Rg [oG 5 2,o 6 (.mv (ke Zc1)),oK 7 0]
 (.seq (Rg [oM 18 0,oM 19 1,oC 20 132 [18,19],oM 8 20]
 (Rg [oM 21 8,oR 22 .neq 21 (k 0)]
 (.cond 22 (Rg [oM 23 8,o 6 (.mv (ke Zc1)),oM 7 23]
 (.fz [6,7] .ret))
 .skip)))
 (.seq (Rg [oF 24 0 5,oL 25 24,oF 26 1 5,oL 27 26,oR 28 .or 25 27,oM 29 0,oC 30 138 [29],oC 31 137 [28,30],oX 32 31]
 (.cond 32 (Rg [o 6 (.mv (ke Zc1)),oK 7 1]
 (.fz [6,7] .ret))
 .skip))
 (.seq (Rg [oM 33 1,oT 34 2 5,oC 35 139 [33,34],oX 36 35]
 (.cond 36 (Rg [o 6 (.mv (ke Zc1)),oK 7 11]
 (.fz [6,7] .ret))
 .skip))
 (Rg [o 9 (.alloc [.e Zc1])]
 (Rg [oF 37 0 5,oL 38 37,oM 10 38]
 (Rg [oM 39 10,oM 40 10,oC 41 140 [9,(k 2),39,40,(ke (cs [I]))],oM 11 41]
 (.seq (Rg [oM 42 1,oF 43 0 5,oL 44 43,oC 45 141 [42,44],oN 46 45,oK 47 0]
 (.blk 0 (.loop 5 q17_L5_b)))
 (Rg [oM 82 10,oF 83 1 5,oL 84 83,oC 85 140 [9,(k 2),82,84,(ke (cs [I]))],oM 17 85]
 (Rg [oF 86 0 5,oL 87 86,oF 88 1 5,oL 89 88,oM 90 11,oM 91 17,o 92 (.bsl (cs [I]) 2 [(0,90),(1,91)]),oC 93 140 [9,(k 4),87,89,92]]
 (Rg [oF 94 0 9,oL 95 94,oM 6 95,oK 7 0]
 (.fz [6,7] .ret))))))))))))⟩
def Ykf(lo:Lo):FnE:=Zfe 116 true (Zsg [0,1,2] [.j,.l Zc4,.ag [.i .u32,.i .u32]] []) (.tp [.l Zc1,.j]) [] (fun x=>q17 lo x.1 x.2.1 x.2.2.1 x.2.2.2:Int×Zt2×Int×Int->Option (Zt0×Int))
def fs18(lo:Lo):List FnE:=Ykf lo::fs17 lo
theorem YqW(h:GZ P fm fs17 lo)(t:Ti P fm 116 YqV):GZ P fm fs18 lo:=
  h.p (Ykf lo) (YqU lo) t
def q18(lo:Lo)(a0:Int)(b1:Int):Option Bool:=
  some (decide ((bits .and .u32 a0 b1)=a0))
def YqX:VFn:=⟨true,10,[.t 4],
 (Rg [oB 4 false]
 (Rg [oM 5 0,oM 6 1,oR 7 .and 5 6,oM 8 0,oR 9 .eql 7 8,oM 4 9]
 (Fr 4)))⟩
def Ykg(lo:Lo):FnE:=Zfe 136 true (Zsg [0,1] [.i .u32,.i .u32] []) .b [] (fun x=>q18 lo x.1 x.2:Int×Int->Option Bool)
def fs19(lo:Lo):List FnE:=Ykg lo::fs18 lo
theorem YqY(h:GZ P fm fs18 lo)(t:Ti P fm 136 YqX):GZ P fm fs19 lo:=
  h.p (Ykg lo) .n t
def q19_L3_b:VCode:=
 (.seq (Rg [oM 18 6,oM 19 1,oN 20 19,oR 21 .lss 18 20]
 (Ce 21 0))
 (.seq (.blk 1 (Rg [oM 24 1,oM 25 6,oI 26 2 24 25,oF 27 0 26,oL 28 27,oM 29 5,oC 30 136 [28,29],oX 31 30,oM 32 31,gF 33 32 (.mv 1),gF 34 32 (.mv 6),gF 35 32 (.iad 2 33 34),gF 36 32 (.fad 1 35),gF 37 32 (.load false 1 36),gF 38 32 (.mv 5),gF 39 32 (.call 136 [37,38]),gF 40 32 (.not 39),oP 41 32 (kb true) 40]
 (.cond 41 (Rg [oK 4 1]
 (Fr 4))
 .skip)))
 (.reg [oM 22 6,oR 23 .add 22 (k 1),oM 6 23])))
def Ykh(lo:Lo):Zt2×Int×Int->Option ((Zt2×Int×Int)⊕ (Int⊕Unit)):=fun x=>match x with
  | (fds1,all5,i6)=>bif(decide (i6< (fds1.length:Int)))then(chk (0<=i6/\i6< (fds1.length:Int)) (YxM (q18 lo ((fds1.getD i6.toNat ((0:Int),(0:Int))).1) all5) fun y49=>bif(!y49)then(some (.inr (.inl (1:Int))))else(chk (0<=i6/\i6< (fds1.length:Int)) (YxM (q18 lo ((fds1.getD i6.toNat ((0:Int),(0:Int))).2) all5) fun y50=>bif(!y50)then(some (.inr (.inl (1:Int))))else(some (.inl (fds1,all5,(Yx3 .i64 (i6+1)))))))))else(some (.inr (.inr ())))
def Yki(lo:Lo):Zt2×Int×Int->Option (Int⊕Unit):=lo.run (Ykh lo)
def YqZ(lo:Lo):LpE:=⟨3,[],(Zsg [1,5,6] [.l Zc4,.i .u32,.j] []),[⟨.ret,(Zsg [4] [.j] [])⟩,⟨.exit 0,(Zsg [] [] [])⟩],Yki lo⟩
def Yq0(lo:Lo):LL:=(YqZ lo,.loop q19_L3_b.er)::[]
theorem Yq1(lo:Lo):Lk lo pf (fs19 lo) 0 (Yq0 lo):=.l .n (Ykh lo)
def q19(lo:Lo)(n0:Int)(fds1:List (Int×Int)):Option Int:=
  bif(decide (n0<0))then(some (7:Int))else(bif(decide (16<n0))then(some (7:Int))else(bif(decide ((64:Int)< (fds1.length:Int)))then(some (3:Int))else(YxM (q0 lo n0) fun y48=>YxM (Yki lo (fds1,y48,(0:Int))) fun y51=>alt2 y51 (fun y52=>some y52) (fun y53=>some (0:Int)))))
def Yq2:VFn:=⟨true,42,[.t 4],
 (Rg [oK 4 0]
 (.seq (Rg [oM 7 0,oR 8 .lss 7 (k 0),oM 9 8,gF 10 9 (.mv 0),gF 11 9 (.bin .gtr 10 (k 16)),oP 12 9 (kb true) 11]
 (.cond 12 (Rg [oK 4 7]
 (Fr 4))
 .skip))
 (.seq (Rg [oM 13 1,oN 14 13,oR 15 .gtr 14 (k 64)]
 (.cond 15 (Rg [oK 4 3]
 (Fr 4))
 .skip))
 (Rg [oM 16 0,oC 17 118 [16],oM 5 17]
 (.seq (Rg [oK 6 0]
 (.blk 0 (.loop 3 q19_L3_b)))
 (Rg [oK 4 0]
 (Fr 4)))))))⟩
def Ykj(lo:Lo):FnE:=Zfe 134 true (Zsg [0,1] [.j,.l Zc4] []) (.i .i64) [] (fun x=>q19 lo x.1 x.2:Int×Zt2->Option Int)
def fs20(lo:Lo):List FnE:=Ykj lo::fs19 lo
theorem Yq3(h:GZ P fm fs19 lo)(t:Ti P fm 134 Yq2):GZ P fm fs20 lo:=
  h.p (Ykj lo) (Yq1 lo) t
def q20_L3_b:VCode:=
 (.seq (Rg [oM 18 8,oM 19 2,oR 20 .lss 18 19]
 (Ce 20 0))
 (.seq (.blk 1 (Rg [oM 23 7,oM 24 8,oI 25 1 23 24,oL 26 25,oR 27 .lss 26 (k 0),oM 28 27,gF 29 28 (.mv 7),gF 30 28 (.mv 8),gF 31 28 (.iad 1 29 30),gF 32 28 (.load false 1 31),gF 33 28 (.mv 1),gF 34 28 (.bin .geq 32 33),oP 35 28 (kb true) 34]
 (.cond 35 (Rg [oB 6 false]
 (Fr 6))
 .skip)))
 (.reg [oM 21 8,oR 22 .add 21 (k 1),oM 8 22])))
def Ykk(lo:Lo):Int×Int× (List Int)×Int->Option ((Int×Int× (List Int)×Int)⊕ (Bool⊕Unit)):=fun x=>match x with
  | (i1,count2,f7,k8)=>bif(decide (k8<count2))then(chk (0<=k8/\k8< (f7.length:Int)) (bif(decide ((f7.getD k8.toNat (0:Int))< (0:Int)))then(some (.inr (.inl false)))else(chk (0<=k8/\k8< (f7.length:Int)) (bif(decide (i1<=(f7.getD k8.toNat (0:Int))))then(some (.inr (.inl false)))else(some (.inl (i1,count2,f7,(Yx3 .i64 (k8+1)))))))))else(some (.inr (.inr ())))
def Ykl(lo:Lo):Int×Int× (List Int)×Int->Option (Bool⊕Unit):=lo.run (Ykk lo)
def Yq4(lo:Lo):LpE:=⟨3,[],(Zsg [1,2,7,8] [.j,.j,.l (cs [I]),.j] []),[⟨.ret,(Zsg [6] [.b] [])⟩,⟨.exit 0,(Zsg [] [] [])⟩],Ykl lo⟩
def Yq5(lo:Lo):LL:=(Yq4 lo,.loop q20_L3_b.er)::[]
theorem Yq6(lo:Lo):Lk lo pf (fs20 lo) 0 (Yq5 lo):=.l .n (Ykk lo)
def q20(lo:Lo)(steps0:List (Int× (List Int)×Int×Int))(i1:Int)(count2:Int):Option Bool:=
  chk (0<=i1/\i1< (steps0.length:Int)) (bif(!decide ((((steps0.getD i1.toNat ((0:Int),[],(0:Int),(0:Int))).2.1).length:Int)=count2))then(some false)else(YxM (Ykl lo (i1,count2,(steps0.getD i1.toNat ((0:Int),[],(0:Int),(0:Int))).2.1,(0:Int))) fun y59=>alt2 y59 (fun y60=>some y60) (fun y61=>some true)))
def Yq7:VFn:=⟨true,36,[.t 6],
 (Rg [oB 6 false]
 (Rg [oM 9 0,oM 10 1,oI 11 4 9 10,oF 12 1 11,oL 13 12,oM 7 13]
 (.seq (Rg [oM 14 7,oN 15 14,oM 16 2,oR 17 .neq 15 16]
 (.cond 17 (Rg [oB 6 false]
 (Fr 6))
 .skip))
 (.seq (Rg [oK 8 0]
 (.blk 0 (.loop 3 q20_L3_b)))
 (Rg [oB 6 true]
 (Fr 6))))))⟩
def Ykm(lo:Lo):FnE:=Zfe 159 true (Zsg [0,1,2] [.l Zc1,.j,.j] []) .b [] (fun x=>q20 lo x.1 x.2.1 x.2.2:Zt0×Int×Int->Option Bool)
def fs21(lo:Lo):List FnE:=Ykm lo::fs20 lo
theorem Yq8(h:GZ P fm fs20 lo)(t:Ti P fm 159 Yq7):GZ P fm fs21 lo:=
  h.p (Ykm lo) (Yq6 lo) t
def q21_L9_b:VCode:=
 (.seq (Rg [oM 100 12,oF 101 2 9,oF 102 0 101,oL 103 102,oR 104 .leq 100 103]
 (Ce 104 1))
 (.seq (.blk 2 (Rg [oF 107 0 11,oL 108 107,oM 109 12,oR 110 .or 108 109,oF 111 2 9,oF 112 0 111,oL 113 112,oR 114 .eql 110 113,oM 115 114,gT 116 115 (.fad 1 11),gT 117 115 (.load false 1 116),gT 118 115 (.mv 12),gT 119 115 (.bin .or 117 118),gT 120 115 (.fad 2 9),gT 121 115 (.fad 1 120),gT 122 115 (.load false 1 121),gT 123 115 (.bin .eql 119 122),oP 124 115 123 (kb false)]
 (.cond 124 (Rg [oB 8 true]
 (Fr 8))
 .skip)))
 (.reg [oM 105 12,oR 106 .add 105 (ki .u32 1),oM 12 106])))
def Ykn(lo:Lo):Zp12->Option (Zp12⊕ (Bool⊕Unit)):=fun x=>match x with
  | (z12,d9_0,d9_1,d9_2,d9_3,from11_0,from11_1)=>bif(decide (z12<=d9_2))then(bif(decide ((bits .or .u32 from11_0 z12)=d9_2))then(bif(decide ((bits .or .u32 from11_1 z12)=d9_3))then(some (.inr (.inl true)))else(some (.inl ((Yx3 .u32 (z12+1)),d9_0,d9_1,d9_2,d9_3,from11_0,from11_1))))else(some (.inl ((Yx3 .u32 (z12+1)),d9_0,d9_1,d9_2,d9_3,from11_0,from11_1))))else(some (.inr (.inr ())))
def Yko(lo:Lo):Zp12->Option (Bool⊕Unit):=lo.run (Ykn lo)
def Yq9(lo:Lo):LpE:=⟨9,[],(Zsg [9,11,12] [.ptr 0 0 0,.ptr 1 0 0,.i .u32] [.st [.j,.l (cs [I]),.i .u32,.i .u32],.st [.i .u32,.i .u32]]),[⟨.ret,(Zsg [8] [.b] [])⟩,⟨.exit 1,(Zsg [] [] [])⟩],Yko lo⟩
def Yra(lo:Lo):LL:=(Yq9 lo,.loop q21_L9_b.er)::[]
theorem Yrb(lo:Lo):Lk lo pf (fs21 lo) 0 (Yra lo):=.l .n (Ykn lo)
def q21(lo:Lo)(n0:Int)(fds1:List (Int×Int))(steps2:List (Int× (List Int)×Int×Int))(i3:Int):Option Bool:=
  chk (0<=i3/\i3< (steps2.length:Int)) (YxM (q0 lo n0) fun y55=>YxM (q18 lo ((steps2.getD i3.toNat ((0:Int),[],(0:Int),(0:Int))).2.2.1) y55) fun y56=>bif(!y56)then(some false)else(YxM (q18 lo ((steps2.getD i3.toNat ((0:Int),[],(0:Int),(0:Int))).2.2.2) y55) fun y57=>bif(!y57)then(some false)else(bif(decide ((steps2.getD i3.toNat ((0:Int),[],(0:Int),(0:Int))).1=(1:Int)))then(bif(decide ((((steps2.getD i3.toNat ((0:Int),[],(0:Int),(0:Int))).2.1).length:Int)=(1:Int)))then(chk (0<=(0:Int)/\ (0:Int)< (((steps2.getD i3.toNat ((0:Int),[],(0:Int),(0:Int))).2.1).length:Int)) (bif(decide ((0:Int)<=(((steps2.getD i3.toNat ((0:Int),[],(0:Int),(0:Int))).2.1).getD 0 (0:Int))))then(chk (0<=(0:Int)/\ (0:Int)< (((steps2.getD i3.toNat ((0:Int),[],(0:Int),(0:Int))).2.1).length:Int)) (bif(decide ((((steps2.getD i3.toNat ((0:Int),[],(0:Int),(0:Int))).2.1).getD 0 (0:Int))< (fds1.length:Int)))then(chk (0<=(0:Int)/\ (0:Int)< (((steps2.getD i3.toNat ((0:Int),[],(0:Int),(0:Int))).2.1).length:Int)) (chk (0<=(((steps2.getD i3.toNat ((0:Int),[],(0:Int),(0:Int))).2.1).getD 0 (0:Int))/\ (((steps2.getD i3.toNat ((0:Int),[],(0:Int),(0:Int))).2.1).getD 0 (0:Int))< (fds1.length:Int)) (some ((decide ((fds1.getD ((((steps2.getD i3.toNat ((0:Int),[],(0:Int),(0:Int))).2.1).getD 0 (0:Int)).toNat) ((0:Int),(0:Int))).1=(steps2.getD i3.toNat ((0:Int),[],(0:Int),(0:Int))).2.2.1))&& ((decide ((fds1.getD ((((steps2.getD i3.toNat ((0:Int),[],(0:Int),(0:Int))).2.1).getD 0 (0:Int)).toNat) ((0:Int),(0:Int))).2=(steps2.getD i3.toNat ((0:Int),[],(0:Int),(0:Int))).2.2.2))&&true)))))else(some false)))else(some false)))else(some false))else(bif(decide ((steps2.getD i3.toNat ((0:Int),[],(0:Int),(0:Int))).1=(2:Int)))then(bif(decide ((((steps2.getD i3.toNat ((0:Int),[],(0:Int),(0:Int))).2.1).length:Int)=(0:Int)))then(YxM (q18 lo ((steps2.getD i3.toNat ((0:Int),[],(0:Int),(0:Int))).2.2.2) ((steps2.getD i3.toNat ((0:Int),[],(0:Int),(0:Int))).2.2.1)) fun y58=>some y58)else(some false))else(bif(decide ((steps2.getD i3.toNat ((0:Int),[],(0:Int),(0:Int))).1=(3:Int)))then(YxM (q20 lo steps2 i3 (1:Int)) fun y62=>bif(!y62)then(some false)else(chk (0<=(0:Int)/\ (0:Int)< (((steps2.getD i3.toNat ((0:Int),[],(0:Int),(0:Int))).2.1).length:Int)) (chk (0<=(((steps2.getD i3.toNat ((0:Int),[],(0:Int),(0:Int))).2.1).getD 0 (0:Int))/\ (((steps2.getD i3.toNat ((0:Int),[],(0:Int),(0:Int))).2.1).getD 0 (0:Int))< (steps2.length:Int)) (YxM (Yko lo ((0:Int),(steps2.getD i3.toNat ((0:Int),[],(0:Int),(0:Int))).1,(steps2.getD i3.toNat ((0:Int),[],(0:Int),(0:Int))).2.1,(steps2.getD i3.toNat ((0:Int),[],(0:Int),(0:Int))).2.2.1,(steps2.getD i3.toNat ((0:Int),[],(0:Int),(0:Int))).2.2.2,(steps2.getD ((((steps2.getD i3.toNat ((0:Int),[],(0:Int),(0:Int))).2.1).getD 0 (0:Int)).toNat) ((0:Int),[],(0:Int),(0:Int))).2.2.1,(steps2.getD ((((steps2.getD i3.toNat ((0:Int),[],(0:Int),(0:Int))).2.1).getD 0 (0:Int)).toNat) ((0:Int),[],(0:Int),(0:Int))).2.2.2)) fun y63=>alt2 y63 (fun y64=>some y64) (fun y65=>some false)))))else(bif(decide ((steps2.getD i3.toNat ((0:Int),[],(0:Int),(0:Int))).1=(4:Int)))then(YxM (q20 lo steps2 i3 (2:Int)) fun y66=>bif(!y66)then(some false)else(chk (0<=(0:Int)/\ (0:Int)< (((steps2.getD i3.toNat ((0:Int),[],(0:Int),(0:Int))).2.1).length:Int)) (chk (0<=(((steps2.getD i3.toNat ((0:Int),[],(0:Int),(0:Int))).2.1).getD 0 (0:Int))/\ (((steps2.getD i3.toNat ((0:Int),[],(0:Int),(0:Int))).2.1).getD 0 (0:Int))< (steps2.length:Int)) (chk (0<=(1:Int)/\ (1:Int)< (((steps2.getD i3.toNat ((0:Int),[],(0:Int),(0:Int))).2.1).length:Int)) (chk (0<=(((steps2.getD i3.toNat ((0:Int),[],(0:Int),(0:Int))).2.1).getD 1 (0:Int))/\ (((steps2.getD i3.toNat ((0:Int),[],(0:Int),(0:Int))).2.1).getD 1 (0:Int))< (steps2.length:Int)) (bif(decide ((steps2.getD ((((steps2.getD i3.toNat ((0:Int),[],(0:Int),(0:Int))).2.1).getD 0 (0:Int)).toNat) ((0:Int),[],(0:Int),(0:Int))).2.2.2=(steps2.getD ((((steps2.getD i3.toNat ((0:Int),[],(0:Int),(0:Int))).2.1).getD 1 (0:Int)).toNat) ((0:Int),[],(0:Int),(0:Int))).2.2.1))then(bif(decide ((steps2.getD ((((steps2.getD i3.toNat ((0:Int),[],(0:Int),(0:Int))).2.1).getD 0 (0:Int)).toNat) ((0:Int),[],(0:Int),(0:Int))).2.2.1=(steps2.getD i3.toNat ((0:Int),[],(0:Int),(0:Int))).2.2.1))then(some (decide ((steps2.getD ((((steps2.getD i3.toNat ((0:Int),[],(0:Int),(0:Int))).2.1).getD 1 (0:Int)).toNat) ((0:Int),[],(0:Int),(0:Int))).2.2.2=(steps2.getD i3.toNat ((0:Int),[],(0:Int),(0:Int))).2.2.2)))else(some false))else(some false)))))))else(some false)))))))
def Yrc:VFn:=⟨true,168,[.t 8],
 (Rg [oB 8 false]
 (Rg [oM 15 2,oM 16 3,oI 17 4 15 16,oT 18 4 17,o 9 (.alloc [.i .i64 0,.e (cs [I]),.i .u32 0,.i .u32 0]),oS 4 9 18]
 (Rg [oM 19 0,oC 20 118 [19],oM 10 20]
 (.seq (Rg [oF 21 2 9,oF 22 0 21,oL 23 22,oM 24 10,oC 25 136 [23,24],oX 26 25,oM 27 26,gF 28 27 (.fad 2 9),gF 29 27 (.fad 1 28),gF 30 27 (.load false 1 29),gF 31 27 (.mv 10),gF 32 27 (.call 136 [30,31]),gF 33 27 (.not 32),oP 34 27 (kb true) 33]
 (.cond 34 (Rg [oB 8 false]
 (Fr 8))
 .skip))
 (.seq (Rg [oF 35 0 9,oL 36 35]
 (.blk 0 (Rg [oR 38 .eql 36 (k 1),oM 37 38]
 (.cond 37 (Rg [oF 39 1 9,oL 40 39,oN 41 40,oR 42 .eql 41 (k 1),oM 43 42,gT 44 43 (.fad 1 9),gT 45 43 (.load false 1 44),gT 46 43 (.iad 1 45 (k 0)),gT 47 43 (.load false 1 46),gT 48 43 (.bin .geq 47 (k 0)),oP 49 43 48 (kb false),oM 50 49,gT 51 50 (.fad 1 9),gT 52 50 (.load false 1 51),gT 53 50 (.iad 1 52 (k 0)),gT 54 50 (.load false 1 53),gT 55 50 (.mv 1),gT 56 50 (.len 55),gT 57 50 (.bin .lss 54 56),oP 58 50 57 (kb false),oM 59 58,gT 60 59 (.mv 1),gT 61 59 (.fad 1 9),gT 62 59 (.load false 1 61),gT 63 59 (.iad 1 62 (k 0)),gT 64 59 (.load false 1 63),gT 65 59 (.iad 2 60 64),gT 66 59 (.load true 2 65),gT 67 59 (.fad 2 9),gT 68 59 (.load true 2 67),gT 69 59 (.eqa false [1,1] 66 68),oP 70 59 69 (kb false),oM 8 70]
 (Fr 8))
 (Rg [oR 72 .eql 36 (k 2),oM 71 72]
 (.cond 71 (Rg [oF 73 1 9,oL 74 73,oN 75 74,oR 76 .eql 75 (k 0),oM 77 76,gT 78 77 (.fad 2 9),gT 79 77 (.fad 1 78),gT 80 77 (.load false 1 79),gT 81 77 (.fad 2 9),gT 82 77 (.fad 0 81),gT 83 77 (.load false 1 82),gT 84 77 (.call 136 [80,83]),oP 85 77 84 (kb false),oM 8 85]
 (Fr 8))
 (Rg [oR 87 .eql 36 (k 3),oM 86 87]
 (.cond 86 (.seq (Rg [oM 88 2,oM 89 3,oC 90 159 [88,89,(k 1)],oX 91 90]
 (.cond 91 (Rg [oB 8 false]
 (Fr 8))
 .skip))
 (Rg [oM 92 2,oF 93 1 9,oL 94 93,o 95 (.iad 1 94 (k 0)),oL 96 95,oI 97 4 92 96,oF 98 2 97,oT 99 2 98,o 11 (.alloc [.i .u32 0,.i .u32 0]),oS 2 11 99]
 (.seq (Rg [o 12 (.mv (ki .u32 0))]
 (.blk 1 (.loop 9 q21_L9_b)))
 (Rg [oB 8 false]
 (Fr 8)))))
 (Rg [oR 126 .eql 36 (k 4),oM 125 126]
 (.cond 125 (.seq (Rg [oM 127 2,oM 128 3,oC 129 159 [127,128,(k 2)],oX 130 129]
 (.cond 130 (Rg [oB 8 false]
 (Fr 8))
 .skip))
 (Rg [oM 131 2,oF 132 1 9,⟨some 133,.load false 1 132,none,true,false⟩,⟨some 134,.iad 1 133 (k 0),none,true,false⟩,⟨some 135,.load false 1 134,none,true,false⟩,⟨some 136,.iad 4 131 135,none,true,false⟩,oF 137 2 136,⟨some 138,.load true 2 137,none,true,false⟩,oM 139 2,oF 140 1 9,⟨some 141,.load false 1 140,none,true,false⟩,⟨some 142,.iad 1 141 (k 1),none,true,false⟩,⟨some 143,.load false 1 142,none,true,false⟩,⟨some 144,.iad 4 139 143,none,true,false⟩,oF 145 2 144,⟨some 146,.load true 2 145,none,true,false⟩,o 13 (.alloc [.i .u32 0,.i .u32 0]),o 14 (.alloc [.i .u32 0,.i .u32 0]),⟨none,.store 2 13 138,none,false,true⟩,oS 2 14 146]
 (Rg [oF 147 1 13,oL 148 147,oF 149 0 14,oL 150 149,oR 151 .eql 148 150,oM 152 151,gT 153 152 (.fad 0 13),gT 154 152 (.load false 1 153),gT 155 152 (.fad 2 9),gT 156 152 (.fad 0 155),gT 157 152 (.load false 1 156),gT 158 152 (.bin .eql 154 157),oP 159 152 158 (kb false),oM 160 159,gT 161 160 (.fad 1 14),gT 162 160 (.load false 1 161),gT 163 160 (.fad 2 9),gT 164 160 (.fad 1 163),gT 165 160 (.load false 1 164),gT 166 160 (.bin .eql 162 165),oP 167 160 166 (kb false),oM 8 167]
 (Fr 8))))
 .skip))))))))))
 (Rg [oB 8 false]
 (Fr 8)))))))⟩
def Ykp(lo:Lo):FnE:=Zfe 135 true (Zsg [0,1,2,3] [.j,.l Zc4,.l Zc1,.j] []) .b [] (fun x=>q21 lo x.1 x.2.1 x.2.2.1 x.2.2.2:Int×Zt2×Zt0×Int->Option Bool)
def fs22(lo:Lo):List FnE:=Ykp lo::fs21 lo
theorem Yrd(h:GZ P fm fs21 lo)(t:Ti P fm 135 Yrc):GZ P fm fs22 lo:=
  h.p (Ykp lo) (Yrb lo) t
def q22_L3_b:VCode:=
 (.seq (Rg [oM 19 9,oM 20 2,oN 21 20,oR 22 .lss 19 21]
 (Ce 22 0))
 (.seq (.blk 1 (Rg [oM 25 0,oM 26 1,oM 27 2,oM 28 9,oC 29 135 [25,26,27,28],oX 30 29]
 (.cond 30 (Rg [oM 31 9,oM 6 31,oK 7 1]
 (.fz [6,7] .ret))
 .skip)))
 (.reg [oM 23 9,oR 24 .add 23 (k 1),oM 9 24])))
def Ykq(lo:Lo):Int×Zt2×Zt0×Int->Option ((Int×Zt2×Zt0×Int)⊕ ((Int×Int)⊕Unit)):=fun x=>match x with
  | (n0,fds1,steps2,i9)=>bif(decide (i9< (steps2.length:Int)))then(YxM (q21 lo n0 fds1 steps2 i9) fun y67=>bif(!y67)then(some (.inr (.inl (i9,(1:Int)))))else(some (.inl (n0,fds1,steps2,(Yx3 .i64 (i9+1))))))else(some (.inr (.inr ())))
def Ykr(lo:Lo):Int×Zt2×Zt0×Int->Option ((Int×Int)⊕Unit):=lo.run (Ykq lo)
def Yre(lo:Lo):LpE:=⟨3,[],(Zsg [0,1,2,9] [.j,.l Zc4,.l Zc1,.j] []),[⟨.ret,(Zsg [6,7] [.j,.j] [])⟩,⟨.exit 0,(Zsg [] [] [])⟩],Ykr lo⟩
def Yrf(lo:Lo):LL:=(Yre lo,.loop q22_L3_b.er)::[]
theorem Yrg(lo:Lo):Lk lo pf (fs22 lo) 0 (Yrf lo):=.l .n (Ykq lo)
def q22(lo:Lo)(n0:Int)(fds1:List (Int×Int))(steps2:List (Int× (List Int)×Int×Int)):Option (Int×Int):=
  YxM (q19 lo n0 fds1) fun y54=>bif(!decide (y54=0))then(some ((0:Int),y54))else(bif(decide ((steps2.length:Int)=0))then(some ((0:Int),(12:Int)))else(YxM (Ykr lo (n0,fds1,steps2,(0:Int))) fun y68=>alt2 y68 (fun y69=>some (y69.1,y69.2)) (fun y70=>some ((0:Int),(0:Int)))))
def Yrh:VFn:=⟨true,32,[.t 6,.t 7],
 (Rg [oK 6 0,oK 7 0]
 (.seq (Rg [oM 10 0,oM 11 1,oC 12 134 [10,11],oM 8 12]
 (Rg [oM 13 8,oR 14 .neq 13 (k 0)]
 (.cond 14 (Rg [oM 15 8,oK 6 0,oM 7 15]
 (.fz [6,7] .ret))
 .skip)))
 (.seq (Rg [oM 16 2,oN 17 16,oR 18 .eql 17 (k 0)]
 (.cond 18 (Rg [oK 6 0,oK 7 12]
 (.fz [6,7] .ret))
 .skip))
 (.seq (Rg [oK 9 0]
 (.blk 0 (.loop 3 q22_L3_b)))
 (Rg [oK 6 0,oK 7 0]
 (.fz [6,7] .ret))))))⟩
def Yks(lo:Lo):FnE:=Zfe 112 true (Zsg [0,1,2] [.j,.l Zc4,.l Zc1] []) (.tp [.j,.j]) [] (fun x=>q22 lo x.1 x.2.1 x.2.2:Int×Zt2×Zt0->Option (Int×Int))
def fs23(lo:Lo):List FnE:=Yks lo::fs22 lo
theorem Yri(h:GZ P fm fs22 lo)(t:Ti P fm 112 Yrh):GZ P fm fs23 lo:=
  h.p (Yks lo) (Yrg lo) t
def q23(lo:Lo)(n0:Int)(fds1:List (Int×Int))(steps2:List (Int× (List Int)×Int×Int))(goal3_0:Int)(goal3_1:Int):Option Bool:=
  YxM (q22 lo n0 fds1 steps2) fun y71=>bif(decide (y71.2=(0:Int)))then(chk (0<=(Yx3 .i64 ((steps2.length:Int)-1))/\ (Yx3 .i64 ((steps2.length:Int)-1))< (steps2.length:Int)) (some ((decide ((steps2.getD ((Yx3 .i64 ((steps2.length:Int)-1)).toNat) ((0:Int),[],(0:Int),(0:Int))).2.2.1=goal3_0))&& ((decide ((steps2.getD ((Yx3 .i64 ((steps2.length:Int)-1)).toNat) ((0:Int),[],(0:Int),(0:Int))).2.2.2=goal3_1))&&true))))else(some false)
def Yrj:VFn:=⟨true,31,[.t 8],
 (Rg [oG 7 3,oB 8 false]
 (Rg [oM 12 0,oM 13 1,oM 14 2,oC 15 112 [12,13,14],oM 11 15,oE 16 11 0,oE 17 11 1,oM 9 16,oM 10 17]
 (Rg [oM 18 10,oR 19 .eql 18 (k 0),oM 20 19,gT 21 20 (.mv 2),gT 22 20 (.mv 2),gT 23 20 (.len 22),gT 24 20 (.bin .sub 23 (k 1)),gT 25 20 (.iad 4 21 24),gT 26 20 (.fad 2 25),gT 27 20 (.load true 2 26),gT 28 20 (.load true 2 7),gT 29 20 (.eqa false [1,1] 27 28),oP 30 20 29 (kb false),oM 8 30]
 (Fr 8))))⟩
def Ykt(lo:Lo):FnE:=Zfe 114 true (Zsg [0,1,2,3] [.j,.l Zc4,.l Zc1,.ag [.i .u32,.i .u32]] []) .b [] (fun x=>q23 lo x.1 x.2.1 x.2.2.1 x.2.2.2.1 x.2.2.2.2:Int×Zt2×Zt0×Int×Int->Option Bool)
def fs24(lo:Lo):List FnE:=Ykt lo::fs23 lo
theorem Yrk(h:GZ P fm fs23 lo)(t:Ti P fm 114 Yrj):GZ P fm fs24 lo:=
  h.p (Ykt lo) .n t
def q24(lo:Lo)(n0:Int)(fds1:List (Int×Int))(steps2:List (Int× (List Int)×Int×Int))(goal3_0:Int)(goal3_1:Int):Option Bool:=
  YxM (q9 lo n0 fds1 steps2) fun y73=>bif(decide (y73.2=(0:Int)))then(chk (0<=(Yx3 .i64 ((steps2.length:Int)-1))/\ (Yx3 .i64 ((steps2.length:Int)-1))< (steps2.length:Int)) (some ((decide ((steps2.getD ((Yx3 .i64 ((steps2.length:Int)-1)).toNat) ((0:Int),[],(0:Int),(0:Int))).2.2.1=goal3_0))&& ((decide ((steps2.getD ((Yx3 .i64 ((steps2.length:Int)-1)).toNat) ((0:Int),[],(0:Int),(0:Int))).2.2.2=goal3_1))&&true))))else(some false)
def Yrl:VFn:=⟨true,31,[.t 8],
 (Rg [oG 7 3,oB 8 false]
 (Rg [oM 12 0,oM 13 1,oM 14 2,oC 15 111 [12,13,14],oM 11 15,oE 16 11 0,oE 17 11 1,oM 9 16,oM 10 17]
 (Rg [oM 18 10,oR 19 .eql 18 (k 0),oM 20 19,gT 21 20 (.mv 2),gT 22 20 (.mv 2),gT 23 20 (.len 22),gT 24 20 (.bin .sub 23 (k 1)),gT 25 20 (.iad 4 21 24),gT 26 20 (.fad 2 25),gT 27 20 (.load true 2 26),gT 28 20 (.load true 2 7),gT 29 20 (.eqa false [1,1] 27 28),oP 30 20 29 (kb false),oM 8 30]
 (Fr 8))))⟩
def Yku(lo:Lo):FnE:=Zfe 113 true (Zsg [0,1,2,3] [.j,.l Zc4,.l Zc1,.ag [.i .u32,.i .u32]] []) .b [] (fun x=>q24 lo x.1 x.2.1 x.2.2.1 x.2.2.2.1 x.2.2.2.2:Int×Zt2×Zt0×Int×Int->Option Bool)
def fs25(lo:Lo):List FnE:=Yku lo::fs24 lo
theorem Yrm(h:GZ P fm fs24 lo)(t:Ti P fm 113 Yrl):GZ P fm fs25 lo:=
  h.p (Yku lo) .n t
def q25(lo:Lo)(n:Int):Option ByteArray:=YvA n
def Yrn(lo:Lo):FnE:=vitoaE 165
def fs26(lo:Lo):List FnE:=Yrn lo::fs25 lo
theorem Yro(h:GZ P fm fs25 lo)(hG: ∀f,fm f=165->YtC P f=true/\ ∃ρ:Go.Shelf.Ren,Go.Proofs.LaysM.n171 P ρ/\ (∃q,(ρ.g 17,q)∈fm.tb/\ ∀c,q c->c=YuC)/\ρ.f 171=f):GZ P fm fs26 lo:=
  ⟨h.1,h.2,YpZ h.S rfl hG⟩
def q26(lo:Lo):Option (Zt3):=
  some ([(Yx2 #[]),(Yx2 #[103,105,118,101,110]),(Yx2 #[114,101,102,108,101,120,105,118,101]),(Yx2 #[97,117,103,109,101,110,116]),(Yx2 #[116,114,97,110,115,105,116])])
def Yrp:VFn:=⟨true,2,[.t 0],
 (Rg [o 0 (.mv (ke (cs [.s])))]
 (Rg [o 1 (.bsl (cs [.s]) 5 [(0,(ks (⟨#[]⟩))),(1,(ks (⟨#[103,105,118,101,110]⟩))),(2,(ks (⟨#[114,101,102,108,101,120,105,118,101]⟩))),(3,(ks (⟨#[97,117,103,109,101,110,116]⟩))),(4,(ks (⟨#[116,114,97,110,115,105,116]⟩)))]),oM 0 1]
 (Fr 0)))⟩
def Ykv(lo:Lo):FnE:=Zfe 168 true (Zsg [] [] []) (.l (cs [.s])) [] (fun x=>q26 lo:Unit->Option (Zt3))
def fs27(lo:Lo):List FnE:=Ykv lo::fs26 lo
theorem Yrq(h:GZ P fm fs26 lo)(t:Ti P fm 168 Yrp):GZ P fm fs27 lo:=
  h.p (Ykv lo) .n t
def q27(lo:Lo)(l:List ByteArray)(sep:ByteArray):Option ByteArray:=Yvz l sep
def Yrr(lo:Lo):FnE:=vjoinE 169
def fs28(lo:Lo):List FnE:=Yrr lo::fs27 lo
theorem Yrs(h:GZ P fm fs27 lo)(hG: ∀f,fm f=169->YtC P f=true/\ ∃ρ:Go.Shelf.Ren,Go.Proofs.Lays.n156 P ρ/\Go.Proofs.Builder.Extra P ρ/\ρ.f 156=f):GZ P fm fs28 lo:=
  ⟨h.1,h.2,YpO h.S rfl hG⟩
def q28(lo:Lo)(n b:Int):Option ByteArray:=vfuF n b
def Yrt(lo:Lo):FnE:=vfuE 167
def fs29(lo:Lo):List FnE:=Yrt lo::fs28 lo
theorem Yru(h:GZ P fm fs28 lo)(hG: ∀f,fm f=167->YtC P f=true/\FuC P fm f):GZ P fm fs29 lo:=
  ⟨h.1,h.2,Yp1 h.S rfl hG⟩
def q29(lo:Lo)(x0:Int):Option ByteArray:=
  YxM (q28 lo (Yx3 .u64 x0) (10:Int)) fun y81=>some y81
def Yrv:VFn:=⟨true,6,[.t 2],
 (Rg [o 2 (.mv (ks (⟨#[]⟩)))]
 (Rg [oM 3 0,o 4 (.conv .u64 3),oC 5 167 [4,(k 10)],oM 2 5]
 (Fr 2)))⟩
def Ykw(lo:Lo):FnE:=Zfe 166 true (Zsg [0] [.i .u32] []) .s [] (fun x=>q29 lo x:Int->Option ByteArray)
def fs30(lo:Lo):List FnE:=Ykw lo::fs29 lo
theorem Yrw(h:GZ P fm fs29 lo)(t:Ti P fm 166 Yrv):GZ P fm fs30 lo:=
  h.p (Ykw lo) .n t
def q30_L7_b:VCode:=
 (Rg [oR 20 .lss 19 18]
 (.seq (Ce 20 0)
 (.seq (.blk 1 (Rg [oI 21 1 17 19,oL 22 21,oM 5 22]
 (.seq (Rg [oM 23 5,oR 24 .lss 23 (k 0)]
 (.cond 24 (Rg [o 2 (.mv (ks (⟨#[]⟩)))]
 (Fr 2))
 .skip))
 (.reg [oM 25 3,oM 26 5,oC 27 165 [26],o 28 (.bsl (cs [.s]) 1 [(0,27)]),o 29 (.app (cs [.s]) 0 25 28),oM 3 29]))))
 (.reg [oR 30 .add 19 (k 1),oM 19 30]))))
def YcW(lo:Lo):Zp10->Option (Zp10⊕ (ByteArray⊕ (Int× (List Int)×Int×Int×Zt3))):=fun x=>match x with
  | (v17,v18,v19,s1_0,s1_1,s1_2,s1_3,from3)=>bif(decide (v19<v18))then(chk (0<=v19/\v19< (v17.length:Int)) (bif(decide ((v17.getD v19.toNat (0:Int))< (0:Int)))then(some (.inr (.inl (Yx2 #[]))))else(YxM (q25 lo (v17.getD v19.toNat (0:Int))) fun y75=>chk (from3.length+[y75].length<=maxEl) (some (.inl (v17,v18,(Yx3 .i64 (v19+1)),s1_0,s1_1,s1_2,s1_3,(from3++[y75])))))))else(some (.inr (.inr (s1_0,s1_1,s1_2,s1_3,from3))))
def Ycg(lo:Lo):Zp10->Option (ByteArray⊕ (Int× (List Int)×Int×Int×Zt3)):=lo.run (YcW lo)
def Yrx(lo:Lo):LpE:=⟨7,[(3,none,false)],(Zsg [1,3,17,18,19] [.ptr 0 0 0,.ref 1,.l (cs [I]),.j,.j] [.st [.j,.l (cs [I]),.i .u32,.i .u32],.sq (cs [.s])]),[⟨.ret,(Zsg [2] [.s] [])⟩,⟨.exit 0,(Zsg [1,3] [.ptr 0 0 0,.ref 1] [.st [.j,.l (cs [I]),.i .u32,.i .u32],.sq (cs [.s])])⟩],Ycg lo⟩
def Ykx(lo:Lo):LL:=(Yrx lo,.loop q30_L7_b.er)::[]
theorem Yry(lo:Lo):Lk lo pf (fs30 lo) 0 (Ykx lo):=.l .n (YcW lo)
def q30_J6_b:VCode:=
 (Rg [o 6 (.mv (.c (.f 166)))]
 (Rg [oC 37 168 [],oF 38 0 1,oL 39 38,oI 40 1 37 39,oL 41 40,oR 42 .add 41 (ks (⟨#[32]⟩)),oM 43 3,oC 44 169 [43,(ks (⟨#[44]⟩))],oR 45 .add 42 44,oR 46 .add 45 (ks (⟨#[32]⟩)),oM 47 6,oF 48 2 1,oF 49 0 48,oL 50 49,o 51 (.dynP 47 [50]),oR 52 .add 46 51,oR 53 .add 52 (ks (⟨#[32,45,62,32]⟩)),oM 54 6,oF 55 2 1,oF 56 1 55,oL 57 56,o 58 (.dynP 54 [57]),oR 59 .add 53 58,oR 60 .add 59 (ks (⟨#[10]⟩)),oM 2 60]
 (Fr 2)))
def YcX(lo:Lo):Int× (List Int)×Int×Int×Zt3->Option ByteArray:=fun x=>match x with
  | (s1_0,s1_1,s1_2,s1_3,from3)=>YxM (q26 lo) fun y79=>chk (0<=s1_0/\s1_0< (y79.length:Int)) (chk (YxF ((y79.getD s1_0.toNat (Yx2 #[])).size+(Yx2 #[32]).size) 9223372036854775807=true) (YxM (q27 lo from3 (Yx2 #[44])) fun y80=>chk (YxF (((y79.getD s1_0.toNat (Yx2 #[]))++(Yx2 #[32])).size+y80.size) 9223372036854775807=true) (chk (YxF ((((y79.getD s1_0.toNat (Yx2 #[]))++(Yx2 #[32]))++y80).size+(Yx2 #[32]).size) 9223372036854775807=true) (YxM (q29 lo s1_2) fun y82=>chk (YxF (((((y79.getD s1_0.toNat (Yx2 #[]))++(Yx2 #[32]))++y80)++(Yx2 #[32])).size+y82.size) 9223372036854775807=true) (chk (YxF ((((((y79.getD s1_0.toNat (Yx2 #[]))++(Yx2 #[32]))++y80)++(Yx2 #[32]))++y82).size+(Yx2 #[32,45,62,32]).size) 9223372036854775807=true) (YxM (q29 lo s1_3) fun y83=>chk (YxF (((((((y79.getD s1_0.toNat (Yx2 #[]))++(Yx2 #[32]))++y80)++(Yx2 #[32]))++y82)++(Yx2 #[32,45,62,32])).size+y83.size) 9223372036854775807=true) (chk (YxF ((((((((y79.getD s1_0.toNat (Yx2 #[]))++(Yx2 #[32]))++y80)++(Yx2 #[32]))++y82)++(Yx2 #[32,45,62,32]))++y83).size+(Yx2 #[10]).size) 9223372036854775807=true) (some ((((((((y79.getD s1_0.toNat (Yx2 #[]))++(Yx2 #[32]))++y80)++(Yx2 #[32]))++y82)++(Yx2 #[32,45,62,32]))++y83)++(Yx2 #[10]))))))))))
def Yrz(lo:Lo):LpE:=⟨6,[],(Zsg [1,3] [.ptr 0 0 0,.ref 1] [.st [.j,.l (cs [I]),.i .u32,.i .u32],.sq (cs [.s])]),[⟨.ret,(Zsg [2] [.s] [])⟩],YcX lo⟩
def YrA(lo:Lo):LL:=(Yrz lo,q30_J6_b.er)::Ykx lo
theorem YrB(lo:Lo):Lk lo pf (fs30 lo) 0 (YrA lo):=.j (Yry lo)
def q30(lo:Lo)(s0_0:Int)(s0_1:List Int)(s0_2:Int)(s0_3:Int):Option ByteArray:=
  bif(decide (s0_0<1))then(some (Yx2 #[]))else(bif(decide (4<s0_0))then(some (Yx2 #[]))else(YxM (Ycg lo (s0_1,(s0_1.length:Int),(0:Int),s0_0,s0_1,s0_2,s0_3,[])) fun y76=>alt2 y76 (fun y77=>some y77) (fun y78=>bif(decide ((y78.2.2.2.2.length:Int)=0))then(chk (y78.2.2.2.2.length+([(Yx2 #[45])]).length<=maxEl) (YxM (YcX lo (y78.1,y78.2.1,y78.2.2.1,y78.2.2.2.1,(y78.2.2.2.2++([(Yx2 #[45])])))) fun y84=>some y84))else(YxM (YcX lo (y78.1,y78.2.1,y78.2.2.1,y78.2.2.2.1,y78.2.2.2.2)) fun y85=>some y85))))
def YrC:VFn:=⟨true,61,[.t 2],
 (Rg [oG 1 0,o 2 (.mv (ks (⟨#[]⟩)))]
 (.seq (Rg [oF 7 0 1,oL 8 7,oR 9 .lss 8 (k 1),oM 10 9,gF 11 10 (.fad 0 1),gF 12 10 (.load false 1 11),gF 13 10 (.bin .gtr 12 (k 4)),oP 14 10 (kb true) 13]
 (.cond 14 (Rg [o 2 (.mv (ks (⟨#[]⟩)))]
 (Fr 2))
 .skip))
 (Rg [o 15 (.bsl (cs [.s]) 0 []),oM 3 15]
 (.seq (Rg [oF 16 1 1,oL 17 16,oN 18 17,oK 19 0]
 (.blk 0 (.loop 7 q30_L7_b)))
 (.seq (Rg [oM 31 3,oN 32 31,oR 33 .eql 32 (k 0)]
 (.cond 33 (.reg [oM 34 3,o 35 (.bsl (cs [.s]) 1 [(0,(ks (⟨#[45]⟩)))]),o 36 (.app (cs [.s]) 0 34 35),oM 3 36])
 .skip))
 (.jn 6 q30_J6_b))))))⟩
def Yky(lo:Lo):FnE:=Zfe 150 true (Zsg [0] [.ag [.j,.l (cs [I]),.i .u32,.i .u32]] []) .s [] (fun x=>q30 lo x.1 x.2.1 x.2.2.1 x.2.2.2:Int× (List Int)×Int×Int->Option ByteArray)
def fs31(lo:Lo):List FnE:=Yky lo::fs30 lo
theorem YrD(h:GZ P fm fs30 lo)(t:Ti P fm 150 YrC):GZ P fm fs31 lo:=
  h.p (Yky lo) (YrB lo) t
def q31(lo:Lo)(s:ByteArray):Option ByteArray:=some s
def YrE(lo:Lo):FnE:=vchkE2 164
def fs32(lo:Lo):List FnE:=YrE lo::fs31 lo
theorem YrF(h:GZ P fm fs31 lo)(hG: ∀f,fm f=164->YtC P f=true/\ ∃ρ:Go.Shelf.Ren,Go.Proofs.Lays.n240 P ρ/\BldOK P fm ρ/\ρ.f 240=f):GZ P fm fs32 lo:=
  ⟨h.1,h.2,Ypw h.S rfl hG⟩
def q32(lo:Lo)(s1:ByteArray)(h1:ByteArray):Option (Int×ByteArray):=
  YxM (q31 lo h1) fun y87=>chk (y87.size=h1.size) (chk (y87.size+s1.size<=maxEl) (some ((s1.size:Int),(y87++s1))))
def YrG:VFn:=⟨true,19,[.t 4,.t 5],
 (Rg [oK 4 0,o 5 (.mv (.c (.v .nilIface)))]
 (Rg [oM 6 0,oC 7 164 [6]]
 (Rg [oM 8 0,oM 9 0,o 10 (.nilc 9),oF 11 1 10,oL 12 11,oM 13 1,o 14 (.apps 12 13),o 15 (.nilc 8),oF 16 1 15,oS 1 16 14]
 (Rg [oM 17 1,o 18 (.lenS 17),oM 4 18,o 5 (.mv (.c (.v .nilIface)))]
 .ret))))⟩
def Ykz(lo:Lo):FnE:=Zfe 149 false (Zsg [0,1] [.ptr 0 0 0,.s] [.st [.np 0,.ref 1],.sb]) (.tp [.j,.u]) [.st [.np 0,.ref 2],.dd,.sb] (fun x=>q32 lo x.1 x.2:ByteArray×ByteArray->Option (Int×ByteArray))
def fs33(lo:Lo):List FnE:=Ykz lo::fs32 lo
theorem YrH(h:GZ P fm fs32 lo)(t:Ti P fm 149 YrG):GZ P fm fs33 lo:=
  h.i (Ykz lo) .n t
def q33(lo:Lo)(s:ByteArray):Option ByteArray:=some s
def YrI(lo:Lo):FnE:=vstrE 151
def fs34(lo:Lo):List FnE:=YrI lo::fs33 lo
theorem YrJ(h:GZ P fm fs33 lo)(hG: ∀f,fm f=151->YtC P f=true/\ ∃ρ:Go.Shelf.Ren,Go.Proofs.Lays.n169 P ρ/\BldOK P fm ρ/\fm.bu=ρ.t 5/\ρ.f 169=f):GZ P fm fs34 lo:=
  ⟨h.1,h.2,YpD h.S rfl hG⟩
def q34_L3_b:VCode:=
 (Rg [oR 9 .lss 8 7]
 (.seq (Ce 9 0)
 (.seq (.blk 1 (Rg [oI 10 4 6 8,oT 11 4 10,o 5 (.alloc [.i .i64 0,.e (cs [I]),.i .u32 0,.i .u32 0]),oS 4 5 11]
 (.reg [oT 12 4 5,oC 13 150 [12],oC 14 149 [3,13]])))
 (.reg [oR 15 .add 8 (k 1),oM 8 15]))))
def YkA(lo:Lo):Zt0×Int×Int×ByteArray->Option ((Zt0×Int×Int×ByteArray)⊕ByteArray):=fun x=>match x with
  | (v6,v7,v8,h1)=>bif(decide (v8<v7))then(chk (0<=v8/\v8< (v6.length:Int)) (YxM (q30 lo ((v6.getD v8.toNat ((0:Int),[],(0:Int),(0:Int))).1) ((v6.getD v8.toNat ((0:Int),[],(0:Int),(0:Int))).2.1) ((v6.getD v8.toNat ((0:Int),[],(0:Int),(0:Int))).2.2.1) ((v6.getD v8.toNat ((0:Int),[],(0:Int),(0:Int))).2.2.2)) fun y86=>YxM (q32 lo y86 h1) fun y88=>some (.inl (v6,v7,(Yx3 .i64 (v8+1)),y88.2))))else(some (.inr h1))
def YkB(lo:Lo):Zt0×Int×Int×ByteArray->Option ByteArray:=lo.run (YkA lo)
def YrK(lo:Lo):LpE:=⟨3,[],(Zsg [3,6,7,8] [.ptr 0 0 0,.l Zc1,.j,.j] [.st [.np 0,.ref 1],.sb]),[⟨.exit 0,(Zsg [3] [.ptr 0 0 0] [.st [.np 0,.ref 1],.sb])⟩],YkB lo⟩
def YrL(lo:Lo):LL:=(YrK lo,.loop q34_L3_b.er)::[]
theorem YrM(lo:Lo):Lk lo pf (fs34 lo) 0 (YrL lo):=.l .n (YkA lo)
def q34(lo:Lo)(steps0:List (Int× (List Int)×Int×Int)):Option ByteArray:=
  YxM (YkB lo (steps0,(steps0.length:Int),(0:Int),(Yx2 #[]))) fun y89=>YxM (q33 lo y89) fun y90=>some y90
def YrN:VFn:=⟨true,17,[.t 2],
 (Rg [o 2 (.mv (ks (⟨#[]⟩)))]
 (Rg [o 3 (.bld)]
 (.ow [(3,some 1,false)] (.seq (Rg [oM 6 0,oN 7 6,oK 8 0]
 (.blk 0 (.loop 3 q34_L3_b)))
 (Rg [oC 16 151 [3],oM 2 16]
 (Fr 2))))))⟩
def YkC(lo:Lo):FnE:=Zfe 125 true (Zsg [0] [.l Zc1] []) .s [] (fun x=>q34 lo x:Zt0->Option ByteArray)
def fs35(lo:Lo):List FnE:=YkC lo::fs34 lo
theorem YrO(h:GZ P fm fs34 lo)(t:Ti P fm 125 YrN):GZ P fm fs35 lo:=
  h.p (YkC lo) (YrM lo) t
end Go.Abs.G12
namespace Go.Abs.G12
open Go Go.Abs
set_option maxRecDepth 100000
set_option maxHeartbeats 1000000
variable{P:Program}{fm:FM}{lo:Lo}
def q35(lo:Lo):Option Bool:=
  YxM (q3 lo) fun y5=>YxM (q9 lo (3:Int) y5.1 y5.2) fun y24=>YxM (q9 lo (3:Int) y5.1 ([((2:Int),([]:List Int),(1:Int),(3:Int))])) fun y25=>YxM (q17 lo (3:Int) y5.1 (1:Int) (4:Int)) fun y47=>bif(decide (y24.2=(0:Int)))then(bif(decide (y24.1=(0:Int)))then(bif(decide (y25.2=(1:Int)))then(bif(decide (y25.1=(0:Int)))then(bif(decide (y47.2=(0:Int)))then(YxM (q23 lo (3:Int) y5.1 y47.1 (1:Int) (4:Int)) fun y72=>bif y72 then(YxM (q24 lo (3:Int) y5.1 y5.2 (1:Int) (4:Int)) fun y74=>bif y74 then(YxM (q34 lo y5.2) fun y91=>some (decide (y91=(Yx2 #[103,105,118,101,110,32,48,32,49,32,45,62,32,50,10,103,105,118,101,110,32,49,32,50,32,45,62,32,52,10,116,114,97,110,115,105,116,32,48,44,49,32,49,32,45,62,32,52,10]))))else(some false))else(some false))else(some false))else(some false))else(some false))else(some false))else(some false)
def YrP:VFn:=⟨true,68,[.t 0],
 (Rg [oB 0 false]
 (Rg [oC 10 131 [],oM 9 10,oE 11 9 0,oE 12 9 1,oM 1 11,oM 2 12]
 (Rg [oM 14 1,oM 15 2,oC 16 111 [(k 3),14,15],oM 13 16,oE 17 13 0,oE 18 13 1,oM 3 17,oM 4 18]
 (Rg [oM 20 1,o 21 (.build [.i .u32 0,.i .u32 0] [(0,1,(ki .u32 1)),(1,1,(ki .u32 3))]),o 22 (.build [.i .i64 0,.e (cs [I]),.i .u32 0,.i .u32 0] [(0,1,(k 2)),(2,2,21)]),o 23 (.bsl Zc1 1 [(0,22)]),oC 24 111 [(k 3),20,23],oM 19 24,oE 25 19 0,oE 26 19 1,oM 5 25,oM 6 26]
 (Rg [oM 28 1,o 29 (.build [.i .u32 0,.i .u32 0] [(0,1,(ki .u32 1)),(1,1,(ki .u32 4))]),oC 30 116 [(k 3),28,29],oM 27 30,oE 31 27 0,oE 32 27 1,oM 7 31,oM 8 32]
 (Rg [oM 33 4,oR 34 .eql 33 (k 0),oM 35 34,gT 36 35 (.mv 3),gT 37 35 (.bin .eql 36 (k 0)),oP 38 35 37 (kb false),oM 39 38,gT 40 39 (.mv 6),gT 41 39 (.bin .eql 40 (k 1)),oP 42 39 41 (kb false),oM 43 42,gT 44 43 (.mv 5),gT 45 43 (.bin .eql 44 (k 0)),oP 46 43 45 (kb false),oM 47 46,gT 48 47 (.mv 8),gT 49 47 (.bin .eql 48 (k 0)),oP 50 47 49 (kb false),oM 51 50,gT 52 51 (.mv 1),gT 53 51 (.mv 7),gT 54 51 (.build [.i .u32 0,.i .u32 0] [(0,1,(ki .u32 1)),(1,1,(ki .u32 4))]),gT 55 51 (.call 114 [(k 3),52,53,54]),oP 56 51 55 (kb false),oM 57 56,gT 58 57 (.mv 1),gT 59 57 (.mv 2),gT 60 57 (.build [.i .u32 0,.i .u32 0] [(0,1,(ki .u32 1)),(1,1,(ki .u32 4))]),gT 61 57 (.call 113 [(k 3),58,59,60]),oP 62 57 61 (kb false),oM 63 62,gT 64 63 (.mv 2),gT 65 63 (.call 125 [64]),gT 66 63 (.bin .eql 65 (ks (⟨#[103,105,118,101,110,32,48,32,49,32,45,62,32,50,10,103,105,118,101,110,32,49,32,50,32,45,62,32,52,10,116,114,97,110,115,105,116,32,48,44,49,32,49,32,45,62,32,52,10]⟩))),oP 67 63 66 (kb false),oM 0 67]
 (Fr 0)))))))⟩
def YkD(lo:Lo):FnE:=Zfe 109 true (Zsg [] [] []) .b [] (fun x=>q35 lo:Unit->Option Bool)
def fs36(lo:Lo):List FnE:=YkD lo::fs35 lo
theorem YrQ(h:GZ P fm fs35 lo)(t:Ti P fm 109 YrP):GZ P fm fs36 lo:=
  h.p (YkD lo) .n t
def fs37(lo:Lo):List FnE:=fs36 lo
def fs38(lo:Lo):List FnE:=fs37 lo
def fs39(lo:Lo):List FnE:=fs38 lo
def fs40(lo:Lo):List FnE:=fs39 lo
def fs41(lo:Lo):List FnE:=fs40 lo
def fs42(lo:Lo):List FnE:=fs41 lo
def fs43(lo:Lo):List FnE:=fs42 lo
def fs44(lo:Lo):List FnE:=fs43 lo
def fs45(lo:Lo):List FnE:=fs44 lo
def fs46(lo:Lo):List FnE:=fs45 lo
def fs47(lo:Lo):List FnE:=fs46 lo
def fs48(lo:Lo):List FnE:=fs47 lo
def fs49(lo:Lo):List FnE:=fs48 lo
def fs50(lo:Lo):List FnE:=fs49 lo
def fs51(lo:Lo):List FnE:=fs50 lo
def fs52(lo:Lo):List FnE:=fs51 lo
def fs53(lo:Lo):List FnE:=fs52 lo
def fs54(lo:Lo):List FnE:=fs53 lo
def fs55(lo:Lo):List FnE:=fs54 lo
def fs56(lo:Lo):List FnE:=fs55 lo
def fs57(lo:Lo):List FnE:=fs56 lo
def fs58(lo:Lo):List FnE:=fs57 lo
end Go.Abs.G12
namespace Go.Abs.G12
open Go Go.Abs
set_option maxRecDepth 100000
set_option maxHeartbeats 1000000
variable{P:Program}{fm:FM}{lo:Lo}
def fs59(lo:Lo):List FnE:=fs58 lo
def fs60(lo:Lo):List FnE:=fs59 lo
def fs61(lo:Lo):List FnE:=fs60 lo
def fs62(lo:Lo):List FnE:=fs61 lo
def fs63(lo:Lo):List FnE:=fs62 lo
def fs64(lo:Lo):List FnE:=fs63 lo
def q64_L3_b:VCode:=
 (.seq (Rg [oM 11 5,oM 12 0,oN 13 12,oR 14 .lss 11 13]
 (Ce 14 0))
 (.seq (.blk 1 (Rg [oM 17 0,oM 18 5,oI 19 1 17 18,oL 20 19,oM 21 1,oM 22 5,oI 23 1 21 22,oL 24 23,oR 25 .neq 20 24]
 (.cond 25 (Rg [oB 4 false]
 (Fr 4))
 .skip)))
 (.reg [oM 15 5,oR 16 .add 15 (k 1),oM 5 16])))
def YcY(lo:Lo):(List Int)× (List Int)×Int->Option (((List Int)× (List Int)×Int)⊕ (Bool⊕Unit)):=fun x=>match x with
  | (a0,b1,i5)=>bif(decide (i5< (a0.length:Int)))then(chk (0<=i5/\i5< (a0.length:Int)) (chk (0<=i5/\i5< (b1.length:Int)) (bif(!decide ((a0.getD i5.toNat (0:Int))=(b1.getD i5.toNat (0:Int))))then(some (.inr (.inl false)))else(some (.inl (a0,b1,(Yx3 .i64 (i5+1))))))))else(some (.inr (.inr ())))
def YfK(lo:Lo):(List Int)× (List Int)×Int->Option (Bool⊕Unit):=lo.run (YcY lo)
def YrR(lo:Lo):LpE:=⟨3,[],(Zsg [0,1,5] [.l (cs [I]),.l (cs [I]),.j] []),[⟨.ret,(Zsg [4] [.b] [])⟩,⟨.exit 0,(Zsg [] [] [])⟩],YfK lo⟩
def YrS(lo:Lo):LL:=(YrR lo,.loop q64_L3_b.er)::[]
theorem YrT(lo:Lo):Lk lo pf (fs64 lo) 0 (YrS lo):=.l .n (YcY lo)
def q64(lo:Lo)(a0:List Int)(b1:List Int):Option Bool:=
  bif(!decide ((a0.length:Int)=(b1.length:Int)))then(some false)else(YxM (YfK lo (a0,b1,(0:Int))) fun y235=>alt2 y235 (fun y236=>some y236) (fun y237=>some true))
def YrU:VFn:=⟨true,26,[.t 4],
 (Rg [oB 4 false]
 (.seq (Rg [oM 6 0,oN 7 6,oM 8 1,oN 9 8,oR 10 .neq 7 9]
 (.cond 10 (Rg [oB 4 false]
 (Fr 4))
 .skip))
 (.seq (Rg [oK 5 0]
 (.blk 0 (.loop 3 q64_L3_b)))
 (Rg [oB 4 true]
 (Fr 4)))))⟩
def YkE(lo:Lo):FnE:=Zfe 123 true (Zsg [0,1] [.l (cs [I]),.l (cs [I])] []) .b [] (fun x=>q64 lo x.1 x.2:(List Int)× (List Int)->Option Bool)
def fs65(lo:Lo):List FnE:=YkE lo::fs64 lo
theorem YrV(h:GZ P fm fs64 lo)(t:Ti P fm 123 YrU):GZ P fm fs65 lo:=
  h.p (YkE lo) (YrT lo) t
def fs66(lo:Lo):List FnE:=fs65 lo
def q66(lo:Lo)(rule0:Int):Option ByteArray:=
  bif(decide (rule0=1))then(some (Yx2 #[103,105,118,101,110]))else(bif(decide (rule0=2))then(some (Yx2 #[114,101,102,108,101,120,105,118,101]))else(bif(decide (rule0=3))then(some (Yx2 #[97,117,103,109,101,110,116]))else(bif(decide (rule0=4))then(some (Yx2 #[116,114,97,110,115,105,116]))else(some (Yx2 #[])))))
def YrW:VFn:=⟨true,12,[.t 2],
 (Rg [o 2 (.mv (ks (⟨#[]⟩)))]
 (.seq (Rg [oM 3 0]
 (.blk 0 (Rg [oR 5 .eql 3 (k 1),oM 4 5]
 (.cond 4 (Rg [o 2 (.mv (ks (⟨#[103,105,118,101,110]⟩)))]
 (Fr 2))
 (Rg [oR 7 .eql 3 (k 2),oM 6 7]
 (.cond 6 (Rg [o 2 (.mv (ks (⟨#[114,101,102,108,101,120,105,118,101]⟩)))]
 (Fr 2))
 (Rg [oR 9 .eql 3 (k 3),oM 8 9]
 (.cond 8 (Rg [o 2 (.mv (ks (⟨#[97,117,103,109,101,110,116]⟩)))]
 (Fr 2))
 (Rg [oR 11 .eql 3 (k 4),oM 10 11]
 (.cond 10 (Rg [o 2 (.mv (ks (⟨#[116,114,97,110,115,105,116]⟩)))]
 (Fr 2))
 .skip))))))))))
 (Rg [o 2 (.mv (ks (⟨#[]⟩)))]
 (Fr 2))))⟩
def YkF(lo:Lo):FnE:=Zfe 152 true (Zsg [0] [.j] []) .s [] (fun x=>q66 lo x:Int->Option ByteArray)
def fs67(lo:Lo):List FnE:=YkF lo::fs66 lo
theorem YrX(h:GZ P fm fs66 lo)(t:Ti P fm 152 YrW):GZ P fm fs67 lo:=
  h.p (YkF lo) .n t
def fs68(lo:Lo):List FnE:=fs67 lo
def fs69(lo:Lo):List FnE:=fs68 lo
end Go.Abs.G12
namespace Go.Abs.G12
open Go Go.Abs
set_option maxRecDepth 100000
set_option maxHeartbeats 1000000
variable{P:Program}{fm:FM}{lo:Lo}
def fs70(lo:Lo):List FnE:=fs69 lo
def q70(lo:Lo)(s0:ByteArray)(suffix1:ByteArray):Option Bool:=
  bif(decide ((suffix1.size:Int)<=(s0.size:Int)))then(chk (0<=(Yx3 .i64 ((s0.size:Int)-(suffix1.size:Int)))/\ (Yx3 .i64 ((s0.size:Int)-(suffix1.size:Int)))<=(s0.size:Int)/\ (s0.size:Int)<=(s0.size:Int)) (some (decide ((s0.extract (Yx3 .i64 ((s0.size:Int)-(suffix1.size:Int))).toNat (s0.size:Int).toNat)=suffix1))))else(some false)
def YrY:VFn:=⟨true,21,[.t 4],
 (Rg [oB 4 false]
 (Rg [oM 5 0,o 6 (.lenS 5),oM 7 1,o 8 (.lenS 7),oR 9 .geq 6 8,oM 10 9,gT 11 10 (.mv 0),gT 12 10 (.mv 0),gT 13 10 (.lenS 12),gT 14 10 (.mv 1),gT 15 10 (.lenS 14),gT 16 10 (.bin .sub 13 15),gT 17 10 (.slcS 11 (some 16) none),gT 18 10 (.mv 1),gT 19 10 (.bin .eql 17 18),oP 20 10 19 (kb false),oM 4 20]
 (Fr 4)))⟩
def YkG(lo:Lo):FnE:=Zfe 1087 true (Zsg [0,1] [.s,.s] []) .b [] (fun x=>q70 lo x.1 x.2:ByteArray×ByteArray->Option Bool)
def fs71(lo:Lo):List FnE:=YkG lo::fs70 lo
theorem YrZ(h:GZ P fm fs70 lo)(t:Ti P fm 1087 YrY):GZ P fm fs71 lo:=
  h.p (YkG lo) .n t
def q71(lo:Lo)(s0:ByteArray)(suffix1:ByteArray):Option ByteArray:=
  YxM (q70 lo s0 suffix1) fun y273=>bif y273 then(chk (0<=(0:Int)/\ (0:Int)<=(Yx3 .i64 ((s0.size:Int)-(suffix1.size:Int)))/\ (Yx3 .i64 ((s0.size:Int)-(suffix1.size:Int)))<=(s0.size:Int)) (some (s0.extract 0 (Yx3 .i64 ((s0.size:Int)-(suffix1.size:Int))).toNat)))else(some s0)
def Yr0:VFn:=⟨true,16,[.t 4],
 (Rg [o 4 (.mv (ks (⟨#[]⟩)))]
 (.seq (Rg [oM 5 0,oM 6 1,oC 7 1087 [5,6]]
 (.cond 7 (Rg [oM 8 0,oM 9 0,o 10 (.lenS 9),oM 11 1,o 12 (.lenS 11),oR 13 .sub 10 12,o 14 (.slcS 8 none (some 13)),oM 4 14]
 (Fr 4))
 .skip))
 (Rg [oM 15 0,oM 4 15]
 (Fr 4))))⟩
def YkH(lo:Lo):FnE:=Zfe 1078 true (Zsg [0,1] [.s,.s] []) .s [] (fun x=>q71 lo x.1 x.2:ByteArray×ByteArray->Option ByteArray)
def fs72(lo:Lo):List FnE:=YkH lo::fs71 lo
theorem Yr1(h:GZ P fm fs71 lo)(t:Ti P fm 1078 Yr0):GZ P fm fs72 lo:=
  h.p (YkH lo) .n t
def q72(lo:Lo)(s0:ByteArray)(suffix1:ByteArray):Option ByteArray:=
  YxM (q71 lo s0 suffix1) fun y274=>some y274
def Yr2:VFn:=⟨true,8,[.t 4],
 (Rg [o 4 (.mv (ks (⟨#[]⟩)))]
 (Rg [oM 5 0,oM 6 1,oC 7 1078 [5,6],oM 4 7]
 (Fr 4)))⟩
def YkI(lo:Lo):FnE:=Zfe 172 true (Zsg [0,1] [.s,.s] []) .s [] (fun x=>q72 lo x.1 x.2:ByteArray×ByteArray->Option ByteArray)
def fs73(lo:Lo):List FnE:=YkI lo::fs72 lo
theorem Yr3(h:GZ P fm fs72 lo)(t:Ti P fm 172 Yr2):GZ P fm fs73 lo:=
  h.p (YkI lo) .n t
def q73(lo:Lo)(s sep:ByteArray):Option Zt3:=Yu9 s sep
def Yr4(lo:Lo):FnE:=vsplitE 171
def fs74(lo:Lo):List FnE:=Yr4 lo::fs73 lo
theorem Yr5(h:GZ P fm fs73 lo)(hG: ∀f,fm f=171->YtC P f=true/\ ∃ρ:Go.Shelf.Ren,Go.Proofs.Lays.n146 P ρ/\ (P.info? (ρ.t 9)).map (fun i=>(i.zero,i.size,i.bytes))=some (some (.string ByteArray.empty),1,16)/\ (∃q,(ρ.g 1,q)∈fm.tb/\ ∀c,q c-> ∃m,c= #[.int .i64 m])/\ρ.f 146=f):GZ P fm fs74 lo:=
  ⟨h.1,h.2,YpU h.S rfl hG⟩
def q74_L3_b:VCode:=
 (Rg [oR 9 .lss 8 7]
 (.seq (Ce 9 0)
 (.seq (.blk 1 (Rg [oM 10 8,oM 5 10]
 (Rg [oM 11 1,oM 12 0,oM 13 5,oI 14 1 12 13,oL 15 14,oR 16 .eql 11 15]
 (.cond 16 (Rg [oM 17 5,oM 4 17]
 (Fr 4))
 .skip))))
 (.reg [oR 18 .add 8 (k 1),oM 8 18]))))
def Ybq(lo:Lo):Zt3×ByteArray×Int×Int->Option ((Zt3×ByteArray×Int×Int)⊕ (Int⊕Unit)):=fun x=>match x with
  | (s0,v1,v7,v8)=>bif(decide (v8<v7))then(chk (0<=v8/\v8< (s0.length:Int)) (bif(decide (v1=(s0.getD v8.toNat (Yx2 #[]))))then(some (.inr (.inl v8)))else(some (.inl (s0,v1,v7,(Yx3 .i64 (v8+1)))))))else(some (.inr (.inr ())))
def YfL(lo:Lo):Zt3×ByteArray×Int×Int->Option (Int⊕Unit):=lo.run (Ybq lo)
def Yr6(lo:Lo):LpE:=⟨3,[],(Zsg [0,1,7,8] [.l (cs [.s]),.s,.j,.j] []),[⟨.ret,(Zsg [4] [.j] [])⟩,⟨.exit 0,(Zsg [] [] [])⟩],YfL lo⟩
def Yr7(lo:Lo):LL:=(Yr6 lo,.loop q74_L3_b.er)::[]
theorem Yr8(lo:Lo):Lk lo pf (fs74 lo) 0 (Yr7 lo):=.l .n (Ybq lo)
def q74(lo:Lo)(s0:List ByteArray)(v1:ByteArray):Option Int:=
  YxM (YfL lo (s0,v1,(s0.length:Int),(0:Int))) fun y278=>alt2 y278 (fun y279=>some y279) (fun y280=>some (-1:Int))
def Yr9:VFn:=⟨true,19,[.t 4],
 (Rg [oK 4 0]
 (.seq (Rg [oM 6 0,oN 7 6,oK 8 0]
 (.blk 0 (.loop 3 q74_L3_b)))
 (Rg [oK 4 (-1)]
 (Fr 4))))⟩
def YkJ(lo:Lo):FnE:=Zfe 173 true (Zsg [0,1] [.l (cs [.s]),.s] []) (.i .i64) [] (fun x=>q74 lo x.1 x.2:Zt3×ByteArray->Option Int)
def fs75(lo:Lo):List FnE:=YkJ lo::fs74 lo
theorem Ysa(h:GZ P fm fs74 lo)(t:Ti P fm 173 Yr9):GZ P fm fs75 lo:=
  h.p (YkJ lo) (Yr8 lo) t
def q75(lo:Lo)(s:ByteArray)(b bs:Int):Option (Int×Bool):=YvE 64 Yue s b bs
def Ysb(lo:Lo):FnE:=YwO 174
def fs76(lo:Lo):List FnE:=Ysb lo::fs75 lo
theorem Ysc(h:GZ P fm fs75 lo)(hG: ∀f,fm f=174->YtC P f=true/\NumC P fm f .i64 64 Yue):GZ P fm fs76 lo:=
  ⟨h.1,h.2,YjH h.S .i64 64 Yue rfl hG⟩
def q76(lo:Lo)(s:ByteArray)(b bs:Int):Option (Int×Bool):=YvE 32 YtJ s b bs
def Ysd(lo:Lo):FnE:=Ywz 175
def fs77(lo:Lo):List FnE:=Ysd lo::fs76 lo
theorem Yse(h:GZ P fm fs76 lo)(hG: ∀f,fm f=175->YtC P f=true/\NumC P fm f .u64 32 YtJ):GZ P fm fs77 lo:=
  ⟨h.1,h.2,YjH h.S .u64 32 YtJ rfl hG⟩
def q77_L9_b:VCode:=
 (Rg [oR 37 .lss 36 35]
 (.seq (Ce 37 0)
 (.seq (.blk 1 (Rg [oI 38 1 34 36,oL 39 38,oM 7 39]
 (Rg [oM 41 7,oC 42 174 [41,(k 10),(k 64)],oM 40 42,oE 43 40 0,oE 44 40 1,oM 8 43,oM 9 44]
 (.seq (Rg [oM 45 9,o 46 (.isi true 45),oM 47 46,gF 48 47 (.mv 8),gF 49 47 (.bin .gtr 48 (k 1000000000)),oP 50 47 (kb true) 49]
 (.cond 50 (Rg [o 51 (.build [.i .i64 0,.e (cs [I]),.i .u32 0,.i .u32 0] []),oS 4 2 51,oB 3 false]
 (.fz [2,3] .ret))
 .skip))
 (.reg [oF 52 1 5,oL 53 52,oM 54 8,o 55 (.bsl (cs [I]) 1 [(0,54)]),o 56 (.app (cs [I]) 0 53 55),oF 57 1 5,oS 1 57 56])))))
 (.reg [oR 58 .add 36 (k 1),oM 36 58]))))
def YcZ(lo:Lo):Zp5->Option (Zp5⊕ ((Bool×Int× (List Int)×Int×Int)⊕Zp6)):=fun x=>match x with
  | (s0,words4,v34,v35,v36,v2_0,v2_1,v2_2,v2_3,d5_0,d5_1,d5_2,h2)=>bif(decide (v36<v35))then(chk (0<=v36/\v36< (v34.length:Int)) (YxM (q75 lo (v34.getD v36.toNat (Yx2 #[])) (10:Int) (64:Int)) fun y283=>bif y283.2 then(some (.inr (.inl (false,(0:Int),([]:List Int),(0:Int),(0:Int)))))else(bif(decide ((1000000000:Int)<y283.1))then(some (.inr (.inl (false,(0:Int),([]:List Int),(0:Int),(0:Int)))))else(chk (h2.length+[y283.1].length<=maxEl) (some (.inl (s0,words4,v34,v35,(Yx3 .i64 (v36+1)),v2_0,v2_1,v2_2,v2_3,d5_0,d5_1,d5_2,(h2++[y283.1]))))))))else(some (.inr (.inr (s0,words4,v2_0,v2_1,v2_2,v2_3,d5_0,d5_1,d5_2,h2))))
def Ych(lo:Lo):Zp5->Option ((Bool×Int× (List Int)×Int×Int)⊕Zp6):=lo.run (YcZ lo)
def Ysf(lo:Lo):LpE:=⟨9,[(5,some 1,false)],(Zsg [0,2,4,5,34,35,36] [.s,.ptr 0 0 0,.l (cs [.s]),.ptr 1 0 0,.l (cs [.s]),.j,.j] [.st [.j,.l (cs [I]),.i .u32,.i .u32],.st [.j,.ref 2,.i .u32,.i .u32],.sq (cs [I])]),[⟨.ret,(Zsg [2,3] [.ptr 0 0 0,.b] [.st [.j,.l (cs [I]),.i .u32,.i .u32]])⟩,⟨.exit 0,(Zsg [0,2,4,5] [.s,.ptr 0 0 0,.l (cs [.s]),.ptr 1 0 0] [.st [.j,.l (cs [I]),.i .u32,.i .u32],.st [.j,.ref 2,.i .u32,.i .u32],.sq (cs [I])])⟩],Ych lo⟩
def YkK(lo:Lo):LL:=(Ysf lo,.loop q77_L9_b.er)::[]
theorem Ysg(lo:Lo):Lk lo pf (fs77 lo) 0 (YkK lo):=.l .n (YcZ lo)
def q77_J21_b:VCode:=
 (Rg [oM 60 4,o 61 (.iad 1 60 (k 2)),oL 62 61,oC 63 175 [62,(k 10),(k 32)],oM 59 63,oE 64 59 0,oE 65 59 1,oM 10 64,oM 11 65]
 (Rg [oM 67 4,o 68 (.iad 1 67 (k 4)),oL 69 68,oC 70 175 [69,(k 10),(k 32)],oM 66 70,oE 71 66 0,oE 72 66 1,oM 12 71,oM 13 72]
 (.seq (Rg [oM 73 11,o 74 (.isi true 73),oM 75 74,gF 76 75 (.mv 13),gF 77 75 (.isi true 76),oP 78 75 (kb true) 77]
 (.cond 78 (Rg [o 79 (.build [.i .i64 0,.e (cs [I]),.i .u32 0,.i .u32 0] []),oS 4 2 79,oB 3 false]
 (.fz [2,3] .ret))
 .skip))
 (Rg [oM 80 10,o 81 (.conv .u32 80),oM 82 12,o 83 (.conv .u32 82),o 84 (.build [.i .u32 0,.i .u32 0] [(0,1,81),(1,1,83)]),oF 85 2 5,oS 2 85 84]
 (Rg [oT 86 4 5,oT 87 4 5,oC 88 150 [87],oM 89 0,oR 90 .eql 88 89,oS 4 2 86,oM 3 90]
 (.fz [2,3] .ret))))))
def Yc0(lo:Lo):Zp6->Option ((Bool×Int× (List Int)×Int×Int)):=fun x=>match x with
  | (s0,words4,v2_0,v2_1,v2_2,v2_3,d5_0,d5_1,d5_2,h2)=>chk (0<=(2:Int)/\ (2:Int)< (words4.length:Int)) (YxM (q76 lo (words4.getD 2 (Yx2 #[])) (10:Int) (32:Int)) fun y287=>chk (0<=(4:Int)/\ (4:Int)< (words4.length:Int)) (YxM (q76 lo (words4.getD 4 (Yx2 #[])) (10:Int) (32:Int)) fun y288=>bif y287.2 then(some (false,(0:Int),([]:List Int),(0:Int),(0:Int)))else(bif y288.2 then(some (false,(0:Int),([]:List Int),(0:Int),(0:Int)))else(YxM (q30 lo d5_0 h2 (Yx3 .u32 y287.1) (Yx3 .u32 y288.1)) fun y289=>some ((decide (y289=s0)),d5_0,h2,(Yx3 .u32 y287.1),(Yx3 .u32 y288.1))))))
def Ysh(lo:Lo):LpE:=⟨21,[(5,some 1,false)],(Zsg [0,2,4,5] [.s,.ptr 0 0 0,.l (cs [.s]),.ptr 1 0 0] [.st [.j,.l (cs [I]),.i .u32,.i .u32],.st [.j,.ref 2,.i .u32,.i .u32],.sq (cs [I])]),[⟨.ret,(Zsg [2,3] [.ptr 0 0 0,.b] [.st [.j,.l (cs [I]),.i .u32,.i .u32]])⟩],Yc0 lo⟩
def Ysi(lo:Lo):LL:=(Ysh lo,q77_J21_b.er)::YkK lo
theorem Ysj(lo:Lo):Lk lo pf (fs77 lo) 0 (Ysi lo):=.j (Ysg lo)
def q77(lo:Lo)(s0:ByteArray):Option (Int× (List Int)×Int×Int×Bool):=
  YxM (q72 lo s0 (Yx2 #[10])) fun y275=>YxM (q73 lo y275 (Yx2 #[32])) fun y276=>bif(!decide ((y276.length:Int)=5))then(some ((0:Int),([]:List Int),(0:Int),(0:Int),false))else(YxM (q26 lo) fun y277=>chk (0<=(0:Int)/\ (0:Int)< (y276.length:Int)) (YxM (q74 lo y277 (y276.getD 0 (Yx2 #[]))) fun y281=>chk (0<=(1:Int)/\ (1:Int)< (y276.length:Int)) (bif(!decide ((y276.getD 1 (Yx2 #[]))=(Yx2 #[45])))then(chk (0<=(1:Int)/\ (1:Int)< (y276.length:Int)) (YxM (q73 lo (y276.getD 1 (Yx2 #[])) (Yx2 #[44])) fun y282=>YxM (Ych lo (s0,y276,y282,(y282.length:Int),(0:Int),(0:Int),([]:List Int),(0:Int),(0:Int),y281,(0:Int),(0:Int),[])) fun y284=>alt2 y284 (fun y285=>some (y285.2.1,y285.2.2.1,y285.2.2.2.1,y285.2.2.2.2,y285.1)) (fun y286=>YxM (Yc0 lo (y286.1,y286.2.1,y286.2.2.1,y286.2.2.2.1,y286.2.2.2.2.1,y286.2.2.2.2.2.1,y286.2.2.2.2.2.2.1,y286.2.2.2.2.2.2.2.1,y286.2.2.2.2.2.2.2.2.1,y286.2.2.2.2.2.2.2.2.2)) fun y290=>some (y290.2.1,y290.2.2.1,y290.2.2.2.1,y290.2.2.2.2,y290.1))))else(YxM (Yc0 lo (s0,y276,(0:Int),([]:List Int),(0:Int),(0:Int),y281,(0:Int),(0:Int),[])) fun y291=>some (y291.2.1,y291.2.2.1,y291.2.2.2.1,y291.2.2.2.2,y291.1)))))
def Ysk:VFn:=⟨true,91,[.c 2 true 4,.t 3],
 (Rg [o 2 (.alloc [.i .i64 0,.e (cs [I]),.i .u32 0,.i .u32 0]),oB 3 false]
 (Rg [oM 14 0,oC 15 172 [14,(ks (⟨#[10]⟩))],oC 16 171 [15,(ks (⟨#[32]⟩))],oM 4 16]
 (.seq (Rg [oM 17 4,oN 18 17,oR 19 .neq 18 (k 5)]
 (.cond 19 (Rg [o 20 (.build [.i .i64 0,.e (cs [I]),.i .u32 0,.i .u32 0] []),oS 4 2 20,oB 3 false]
 (.fz [2,3] .ret))
 .skip))
 (Rg [⟨some 21,.call 168 [],none,true,false⟩,oM 22 4,⟨some 23,.iad 1 22 (k 0),none,true,false⟩,⟨some 24,.load false 1 23,none,true,false⟩,⟨some 25,.call 173 [21,24],none,true,false⟩,o 26 (.build [.i .i64 0,.e (cs [I]),.i .u32 0,.i .u32 0] [(0,1,25)]),o 5 (.alloc [.i .i64 0,.e (cs [I]),.i .u32 0,.i .u32 0]),oS 4 5 26]
 (.seq (Rg [oM 27 4,o 28 (.iad 1 27 (k 1)),oL 29 28,oR 30 .neq 29 (ks (⟨#[45]⟩))]
 (.cond 30 (Rg [oM 31 4,o 32 (.iad 1 31 (k 1)),oL 33 32,oC 34 171 [33,(ks (⟨#[44]⟩))],oN 35 34,oK 36 0]
 (.blk 0 (.loop 9 q77_L9_b)))
 .skip))
 (.jn 21 q77_J21_b))))))⟩
def YfM(lo:Lo):FnE:=Zfe 155 true (Zsg [0] [.s] []) (.tp [.ag [.j,.l (cs [I]),.i .u32,.i .u32],.b]) [] (fun x=>q77 lo x:ByteArray->Option (Int× (List Int)×Int×Int×Bool))
def fs78(lo:Lo):List FnE:=YfM lo::fs77 lo
theorem Ysl(h:GZ P fm fs77 lo)(t:Ti P fm 155 Ysk):GZ P fm fs78 lo:=
  h.p (YfM lo) (Ysj lo) t
def q78(lo:Lo)(s:ByteArray):Option (Zt0×Int×Int):=YuT (q77 lo) s
def Ysm(lo:Lo):FnE:=(fun g=>parseE g (q77 lo)) 128
def fs79(lo:Lo):List FnE:=Ysm lo::fs78 lo
theorem Ysn(h:GZ P fm fs78 lo)(hG: ∀f,fm f=128->YtC P f=true/\YvX P fm f 155):GZ P fm fs79 lo:=
  ⟨h.1,h.2,Yp3 h.S (F:=q77 lo) (e:=YfM lo) (g:=128) (by first|exact Yxn .. |simp[FnIn]) rfl rfl rfl hG⟩
def q79_L3_b:VCode:=
 (.seq (Rg [oM 11 5,oM 12 0,oN 13 12,oR 14 .lss 11 13]
 (Ce 14 0))
 (.seq (.blk 1 (Rg [oM 17 0,oM 18 5,oI 19 4 17 18,oF 20 0 19,oL 21 20,oM 22 1,oM 23 5,oI 24 4 22 23,oF 25 0 24,oL 26 25,oR 27 .neq 21 26,oM 28 27,gF 29 28 (.mv 0),gF 30 28 (.mv 5),gF 31 28 (.iad 4 29 30),gF 32 28 (.fad 2 31),gF 33 28 (.load true 2 32),gF 34 28 (.mv 1),gF 35 28 (.mv 5),gF 36 28 (.iad 4 34 35),gF 37 28 (.fad 2 36),gF 38 28 (.load true 2 37),gF 39 28 (.eqa true [1,1] 33 38),oP 40 28 (kb true) 39,oM 41 40,gF 42 41 (.mv 0),gF 43 41 (.mv 5),gF 44 41 (.iad 4 42 43),gF 45 41 (.fad 1 44),gF 46 41 (.load false 1 45),gF 47 41 (.mv 1),gF 48 41 (.mv 5),gF 49 41 (.iad 4 47 48),gF 50 41 (.fad 1 49),gF 51 41 (.load false 1 50),gF 52 41 (.call 123 [46,51]),gF 53 41 (.not 52),oP 54 41 (kb true) 53]
 (.cond 54 (Rg [oB 4 false]
 (Fr 4))
 .skip)))
 (.reg [oM 15 5,oR 16 .add 15 (k 1),oM 5 16])))
def Yc1(lo:Lo):Zt0×Zt0×Int->Option ((Zt0×Zt0×Int)⊕ (Bool⊕Unit)):=fun x=>match x with
  | (a0,b1,i5)=>bif(decide (i5< (a0.length:Int)))then(chk (0<=i5/\i5< (a0.length:Int)) (chk (0<=i5/\i5< (b1.length:Int)) (bif(!decide ((a0.getD i5.toNat ((0:Int),[],(0:Int),(0:Int))).1=(b1.getD i5.toNat ((0:Int),[],(0:Int),(0:Int))).1))then(some (.inr (.inl false)))else(chk (0<=i5/\i5< (a0.length:Int)) (chk (0<=i5/\i5< (b1.length:Int)) (bif(!((decide ((a0.getD i5.toNat ((0:Int),[],(0:Int),(0:Int))).2.2.1=(b1.getD i5.toNat ((0:Int),[],(0:Int),(0:Int))).2.2.1))&& ((decide ((a0.getD i5.toNat ((0:Int),[],(0:Int),(0:Int))).2.2.2=(b1.getD i5.toNat ((0:Int),[],(0:Int),(0:Int))).2.2.2))&&true)))then(some (.inr (.inl false)))else(chk (0<=i5/\i5< (a0.length:Int)) (chk (0<=i5/\i5< (b1.length:Int)) (YxM (q64 lo ((a0.getD i5.toNat ((0:Int),[],(0:Int),(0:Int))).2.1) ((b1.getD i5.toNat ((0:Int),[],(0:Int),(0:Int))).2.1)) fun y293=>bif(!y293)then(some (.inr (.inl false)))else(some (.inl (a0,b1,(Yx3 .i64 (i5+1))))))))))))))else(some (.inr (.inr ())))
def YfN(lo:Lo):Zt0×Zt0×Int->Option (Bool⊕Unit):=lo.run (Yc1 lo)
def Yso(lo:Lo):LpE:=⟨3,[],(Zsg [0,1,5] [.l Zc1,.l Zc1,.j] []),[⟨.ret,(Zsg [4] [.b] [])⟩,⟨.exit 0,(Zsg [] [] [])⟩],YfN lo⟩
def Ysp(lo:Lo):LL:=(Yso lo,.loop q79_L3_b.er)::[]
theorem Ysq(lo:Lo):Lk lo pf (fs79 lo) 0 (Ysp lo):=.l .n (Yc1 lo)
def q79(lo:Lo)(a0:List (Int× (List Int)×Int×Int))(b1:List (Int× (List Int)×Int×Int)):Option Bool:=
  bif(!decide ((a0.length:Int)=(b1.length:Int)))then(some false)else(YxM (YfN lo (a0,b1,(0:Int))) fun y294=>alt2 y294 (fun y295=>some y295) (fun y296=>some true))
def Ysr:VFn:=⟨true,55,[.t 4],
 (Rg [oB 4 false]
 (.seq (Rg [oM 6 0,oN 7 6,oM 8 1,oN 9 8,oR 10 .neq 7 9]
 (.cond 10 (Rg [oB 4 false]
 (Fr 4))
 .skip))
 (.seq (Rg [oK 5 0]
 (.blk 0 (.loop 3 q79_L3_b)))
 (Rg [oB 4 true]
 (Fr 4)))))⟩
def YkL(lo:Lo):FnE:=Zfe 120 true (Zsg [0,1] [.l Zc1,.l Zc1] []) .b [] (fun x=>q79 lo x.1 x.2:Zt0×Zt0->Option Bool)
def fs80(lo:Lo):List FnE:=YkL lo::fs79 lo
theorem Yss(h:GZ P fm fs79 lo)(t:Ti P fm 120 Ysr):GZ P fm fs80 lo:=
  h.p (YkL lo) (Ysq lo) t
def fs81(lo:Lo):List FnE:=fs80 lo
def q81_L3_b:VCode:=
 (.seq (Rg [oM 8 7,oM 9 0,o 10 (.lenS 9),oR 11 .lss 8 10]
 (Ce 11 0))
 (.seq (.blk 1 (Rg [oM 14 0,oM 15 7,o 16 (.idx 14 15),oM 17 1,oR 18 .eql 16 17]
 (.cond 18 (Rg [oM 19 5,oM 20 0,oM 21 6,oM 22 7,o 23 (.slcS 20 (some 21) (some 22)),o 24 (.bsl (cs [.s]) 1 [(0,23)]),o 25 (.app (cs [.s]) 0 19 24),oM 5 25]
 (.reg [oM 26 7,oR 27 .add 26 (k 1),oM 6 27]))
 .skip)))
 (.reg [oM 12 7,oR 13 .add 12 (k 1),oM 7 13])))
def YbM(lo:Lo):ByteArray×Int×Int×Int×Zt3->Option ((ByteArray×Int×Int×Int×Zt3)⊕ ((ByteArray×Int×Zt3))):=fun x=>match x with
  | (s0,c1,begin6,i7,out5)=>bif(decide (i7< (s0.size:Int)))then(chk (0<=i7/\i7< (s0.size:Int)) (bif(decide ((Yuo s0 i7)=c1))then(chk (0<=begin6/\begin6<=i7/\i7<=(s0.size:Int)) (chk (out5.length+([(s0.extract begin6.toNat i7.toNat)]).length<=maxEl) (some (.inl (s0,c1,(Yx3 .i64 (i7+1)),(Yx3 .i64 (i7+1)),(out5++([(s0.extract begin6.toNat i7.toNat)])))))))else(some (.inl (s0,c1,begin6,(Yx3 .i64 (i7+1)),out5)))))else(some (.inr (s0,begin6,out5)))
def YbN(lo:Lo):ByteArray×Int×Int×Int×Zt3->Option ((ByteArray×Int×Zt3)):=lo.run (YbM lo)
def Yst(lo:Lo):LpE:=⟨3,[(5,none,false)],(Zsg [0,1,5,6,7] [.s,.i .u8,.ref 0,.j,.j] [.sq (cs [.s])]),[⟨.exit 0,(Zsg [0,5,6] [.s,.ref 0,.j] [.sq (cs [.s])])⟩],YbN lo⟩
def Ysu(lo:Lo):LL:=(Yst lo,.loop q81_L3_b.er)::[]
theorem Ysv(lo:Lo):Lk lo pf (fs81 lo) 0 (Ysu lo):=.l .n (YbM lo)
def q81(lo:Lo)(s0:ByteArray)(c1:Int):Option (Zt3):=
  YxM (YbN lo (s0,c1,(0:Int),(0:Int),[])) fun y302=>chk (0<=y302.2.1/\y302.2.1<=(y302.1.size:Int)/\ (y302.1.size:Int)<=(y302.1.size:Int)) (chk (y302.2.2.length+([(y302.1.extract y302.2.1.toNat (y302.1.size:Int).toNat)]).length<=maxEl) (some (y302.2.2++([(y302.1.extract y302.2.1.toNat (y302.1.size:Int).toNat)]))))
def Ysw:VFn:=⟨true,34,[.t 4],
 (Rg [o 4 (.mv (ke (cs [.s])))]
 (Rg [o 5 (.mv (ke (cs [.s])))]
 (Rg [oK 6 0]
 (.seq (Rg [oK 7 0]
 (.blk 0 (.loop 3 q81_L3_b)))
 (Rg [oM 28 5,oM 29 0,oM 30 6,o 31 (.slcS 29 (some 30) none),o 32 (.bsl (cs [.s]) 1 [(0,31)]),o 33 (.app (cs [.s]) 0 28 32),oM 4 33]
 (Fr 4))))))⟩
def YkM(lo:Lo):FnE:=Zfe 156 true (Zsg [0,1] [.s,.i .u8] []) (.l (cs [.s])) [] (fun x=>q81 lo x.1 x.2:ByteArray×Int->Option (Zt3))
def fs82(lo:Lo):List FnE:=YkM lo::fs81 lo
theorem Ysx(h:GZ P fm fs81 lo)(t:Ti P fm 156 Ysw):GZ P fm fs82 lo:=
  h.p (YkM lo) (Ysv lo) t
def q82_L3_b:VCode:=
 (.seq (Rg [oM 25 7,oM 26 0,o 27 (.lenS 26),oR 28 .lss 25 27]
 (Ce 28 0))
 (.seq (.blk 1 (.seq (Rg [oM 31 0,oM 32 7,o 33 (.idx 31 32),oR 34 .lss 33 (ki .u8 48),oM 35 34,gF 36 35 (.mv 0),gF 37 35 (.mv 7),gF 38 35 (.idx 36 37),gF 39 35 (.bin .gtr 38 (ki .u8 57)),oP 40 35 (kb true) 39]
 (.cond 40 (Rg [oK 4 0,oB 5 false]
 (.fz [4,5] .ret))
 .skip))
 (.reg [oM 41 6,oR 42 .mul (k 10) 41,oM 43 0,oM 44 7,o 45 (.idx 43 44),oR 46 .sub 45 (ki .u8 48),o 47 (.conv .i64 46),oR 48 .add 42 47,oM 6 48])))
 (.reg [oM 29 7,oR 30 .add 29 (k 1),oM 7 30])))
def Yc2(lo:Lo):ByteArray×Int×Int×Int->Option ((ByteArray×Int×Int×Int)⊕ ((Int×Bool)⊕ (Int×Int))):=fun x=>match x with
  | (s0,most1,n6,i7)=>bif(decide (i7< (s0.size:Int)))then(chk (0<=i7/\i7< (s0.size:Int)) (bif(decide ((Yuo s0 i7)< (48:Int)))then(some (.inr (.inl ((0:Int),false))))else(chk (0<=i7/\i7< (s0.size:Int)) (bif(decide ((57:Int)< (Yuo s0 i7)))then(some (.inr (.inl ((0:Int),false))))else(chk (0<=i7/\i7< (s0.size:Int)) (some (.inl (s0,most1,(Yx3 .i64 ((Yx3 .i64 ((10:Int)*n6))+(Yx3 .i64 (Yx3 .u8 ((Yuo s0 i7)-(48:Int)))))),(Yx3 .i64 (i7+1))))))))))else(some (.inr (.inr (most1,n6))))
def Ybr(lo:Lo):ByteArray×Int×Int×Int->Option ((Int×Bool)⊕ (Int×Int)):=lo.run (Yc2 lo)
def Ysy(lo:Lo):LpE:=⟨3,[],(Zsg [0,1,6,7] [.s,.j,.j,.j] []),[⟨.ret,(Zsg [4,5] [.j,.b] [])⟩,⟨.exit 0,(Zsg [1,6] [.j,.j] [])⟩],Ybr lo⟩
def Ysz(lo:Lo):LL:=(Ysy lo,.loop q82_L3_b.er)::[]
theorem YsA(lo:Lo):Lk lo pf (fs82 lo) 0 (Ysz lo):=.l .n (Yc2 lo)
def q82(lo:Lo)(s0:ByteArray)(most1:Int):Option (Int×Bool):=
  bif(decide (s0=(Yx2 #[])))then(some ((0:Int),false))else(bif(decide ((10:Int)< (s0.size:Int)))then(some ((0:Int),false))else(bif(decide ((1:Int)< (s0.size:Int)))then(chk (0<=(0:Int)/\ (0:Int)< (s0.size:Int)) (bif(decide ((Yuo s0 (0:Int))=(48:Int)))then(some ((0:Int),false))else(YxM (Ybr lo (s0,most1,(0:Int),(0:Int))) fun y308=>alt2 y308 (fun y309=>some (y309.1,y309.2)) (fun y310=>some (y310.2,(decide (y310.2<=y310.1)))))))else(YxM (Ybr lo (s0,most1,(0:Int),(0:Int))) fun y311=>alt2 y311 (fun y312=>some (y312.1,y312.2)) (fun y313=>some (y313.2,(decide (y313.2<=y313.1)))))))
def YsB:VFn:=⟨true,53,[.t 4,.t 5],
 (Rg [oK 4 0,oB 5 false]
 (.seq (Rg [oM 8 0,oR 9 .eql 8 (ks (⟨#[]⟩)),oM 10 9,gF 11 10 (.mv 0),gF 12 10 (.lenS 11),gF 13 10 (.bin .gtr 12 (k 10)),oP 14 10 (kb true) 13,oM 15 14,gF 16 15 (.mv 0),gF 17 15 (.lenS 16),gF 18 15 (.bin .gtr 17 (k 1)),gF 19 15 (.mv 18),gT 20 19 (.mv 0),gT 21 19 (.idx 20 (k 0)),gT 22 19 (.bin .eql 21 (ki .u8 48)),gF 23 15 (.pick 19 22 (kb false)),oP 24 15 (kb true) 23]
 (.cond 24 (Rg [oK 4 0,oB 5 false]
 (.fz [4,5] .ret))
 .skip))
 (Rg [oK 6 0]
 (.seq (Rg [oK 7 0]
 (.blk 0 (.loop 3 q82_L3_b)))
 (Rg [oM 49 6,oM 50 6,oM 51 1,oR 52 .leq 50 51,oM 4 49,oM 5 52]
 (.fz [4,5] .ret))))))⟩
def YkN(lo:Lo):FnE:=Zfe 176 true (Zsg [0,1] [.s,.j] []) (.tp [.j,.b]) [] (fun x=>q82 lo x.1 x.2:ByteArray×Int->Option (Int×Bool))
def fs83(lo:Lo):List FnE:=YkN lo::fs82 lo
theorem YsC(h:GZ P fm fs82 lo)(t:Ti P fm 176 YsB):GZ P fm fs83 lo:=
  h.p (YkN lo) (YsA lo) t
def q83_L19_b:VCode:=
 (.seq (Rg [oM 27 6,oR 28 .leq 27 (k 4)]
 (Ce 28 0))
 (.seq (.blk 1 (Rg [oM 31 6,oC 32 152 [31],oM 33 4,o 34 (.iad 1 33 (k 0)),oL 35 34,oR 36 .eql 32 35]
 (.cond 36 (.reg [oM 37 6,oF 38 0 5,oS 1 38 37])
 .skip)))
 (.reg [oM 29 6,oR 30 .add 29 (k 1),oM 6 30])))
def YbO(lo:Lo):Zp8->Option (Zp8⊕ (Zp9)):=fun x=>match x with
  | (w4,k6,v2_0,v2_1,v2_2,v2_3,d5_0,d5_1,d5_2,h2)=>bif(decide (k6<=4))then(YxM (q66 lo k6) fun y305=>chk (0<=(0:Int)/\ (0:Int)< (w4.length:Int)) (bif(decide (y305=(w4.getD 0 (Yx2 #[]))))then(some (.inl (w4,(Yx3 .i64 (k6+1)),v2_0,v2_1,v2_2,v2_3,k6,d5_1,d5_2,h2)))else(some (.inl (w4,(Yx3 .i64 (k6+1)),v2_0,v2_1,v2_2,v2_3,d5_0,d5_1,d5_2,h2)))))else(some (.inr (w4,v2_0,v2_1,v2_2,v2_3,d5_0,d5_1,d5_2,h2)))
def YfO(lo:Lo):Zp8->Option (Zp9):=lo.run (YbO lo)
def YsD(lo:Lo):LpE:=⟨19,[(5,some 1,false)],(Zsg [2,4,5,6] [.ptr 0 0 0,.l (cs [.s]),.ptr 1 0 0,.j] [.st [.j,.l (cs [I]),.i .u32,.i .u32],.st [.j,.ref 2,.i .u32,.i .u32],.sq (cs [I])]),[⟨.exit 0,(Zsg [2,4,5] [.ptr 0 0 0,.l (cs [.s]),.ptr 1 0 0] [.st [.j,.l (cs [I]),.i .u32,.i .u32],.st [.j,.ref 2,.i .u32,.i .u32],.sq (cs [I])])⟩],YfO lo⟩
def YkO(lo:Lo):LL:=(YsD lo,.loop q83_L19_b.er)::[]
theorem YsE(lo:Lo):Lk lo pf (fs83 lo) 0 (YkO lo):=.l .n (YbO lo)
def q83_L6_b:VCode:=
 (.seq (Rg [oM 47 8,oM 48 7,oN 49 48,oR 50 .lss 47 49]
 (Ce 50 2))
 (.seq (.blk 3 (Rg [oM 54 7,oM 55 8,oI 56 1 54 55,oL 57 56,oC 58 176 [57,(k 1000000000)],oM 53 58,oE 59 53 0,oE 60 53 1,oM 9 59,oM 10 60]
 (.seq (Rg [oM 61 10,oX 62 61]
 (.cond 62 (Rg [o 63 (.build [.i .i64 0,.e (cs [I]),.i .u32 0,.i .u32 0] []),oS 4 2 63,oB 3 false]
 (.fz [2,3] .ret))
 .skip))
 (.reg [oF 64 1 5,oL 65 64,oM 66 9,o 67 (.bsl (cs [I]) 1 [(0,66)]),o 68 (.app (cs [I]) 0 65 67),oF 69 1 5,oS 1 69 68]))))
 (.reg [oM 51 8,oR 52 .add 51 (k 1),oM 8 52])))
def Yc3(lo:Lo):Zp7->Option (Zp7⊕ ((Bool×Int× (List Int)×Int×Int)⊕Zp9)):=fun x=>match x with
  | (w4,l7,i8,v2_0,v2_1,v2_2,v2_3,d5_0,d5_1,d5_2,h2)=>bif(decide (i8< (l7.length:Int)))then(chk (0<=i8/\i8< (l7.length:Int)) (YxM (q82 lo (l7.getD i8.toNat (Yx2 #[])) (1000000000:Int)) fun y314=>bif(!y314.2)then(some (.inr (.inl (false,(0:Int),([]:List Int),(0:Int),(0:Int)))))else(chk (h2.length+[y314.1].length<=maxEl) (some (.inl (w4,l7,(Yx3 .i64 (i8+1)),v2_0,v2_1,v2_2,v2_3,d5_0,d5_1,d5_2,(h2++[y314.1])))))))else(some (.inr (.inr (w4,v2_0,v2_1,v2_2,v2_3,d5_0,d5_1,d5_2,h2))))
def Yci(lo:Lo):Zp7->Option ((Bool×Int× (List Int)×Int×Int)⊕Zp9):=lo.run (Yc3 lo)
def YsF(lo:Lo):LpE:=⟨6,[(5,some 1,false)],(Zsg [2,4,5,7,8] [.ptr 0 0 0,.l (cs [.s]),.ptr 1 0 0,.l (cs [.s]),.j] [.st [.j,.l (cs [I]),.i .u32,.i .u32],.st [.j,.ref 2,.i .u32,.i .u32],.sq (cs [I])]),[⟨.ret,(Zsg [2,3] [.ptr 0 0 0,.b] [.st [.j,.l (cs [I]),.i .u32,.i .u32]])⟩,⟨.exit 2,(Zsg [2,4,5] [.ptr 0 0 0,.l (cs [.s]),.ptr 1 0 0] [.st [.j,.l (cs [I]),.i .u32,.i .u32],.st [.j,.ref 2,.i .u32,.i .u32],.sq (cs [I])])⟩],Yci lo⟩
def YkP(lo:Lo):LL:=(YsF lo,.loop q83_L6_b.er)::YkO lo
theorem YsG(lo:Lo):Lk lo pf (fs83 lo) 0 (YkP lo):=.l (YsE lo) (Yc3 lo)
def q83_J18_b:VCode:=
 (Rg [oM 71 4,o 72 (.iad 1 71 (k 2)),oL 73 72,oC 74 176 [73,(k 4294967295)],oM 70 74,oE 75 70 0,oE 76 70 1,oM 11 75,oM 12 76]
 (Rg [oM 78 4,o 79 (.iad 1 78 (k 4)),oL 80 79,oC 81 176 [80,(k 4294967295)],oM 77 81,oE 82 77 0,oE 83 77 1,oM 13 82,oM 14 83]
 (Rg [oM 84 11,o 85 (.conv .u32 84),oM 86 13,o 87 (.conv .u32 86),o 88 (.build [.i .u32 0,.i .u32 0] [(0,1,85),(1,1,87)]),oF 89 2 5,oS 2 89 88]
 (.seq (.regN [2] [oT 90 4 5,oM 91 12,oM 92 91,gT 93 92 (.mv 14),oP 94 92 93 (kb false),oM 95 94,gT 96 95 (.fad 0 5),⟨some 97,.load false 1 96,some (95,true),true,false⟩,gT 98 95 (.bin .neq 97 (k 0)),oP 99 95 98 (kb false),⟨none,.store 4 2 90,none,false,true⟩,oM 3 99])
 (.fz [2,3] .ret)))))
def Yc4(lo:Lo):Zp9->Option ((Bool×Int× (List Int)×Int×Int)):=fun x=>match x with
  | (w4,v2_0,v2_1,v2_2,v2_3,d5_0,d5_1,d5_2,h2)=>chk (0<=(2:Int)/\ (2:Int)< (w4.length:Int)) (YxM (q82 lo (w4.getD 2 (Yx2 #[])) (4294967295:Int)) fun y318=>chk (0<=(4:Int)/\ (4:Int)< (w4.length:Int)) (YxM (q82 lo (w4.getD 4 (Yx2 #[])) (4294967295:Int)) fun y319=>bif y318.2 then(bif y319.2 then(some ((!decide (d5_0=0)),d5_0,h2,(Yx3 .u32 y318.1),(Yx3 .u32 y319.1)))else(some (false,d5_0,h2,(Yx3 .u32 y318.1),(Yx3 .u32 y319.1))))else(some (false,d5_0,h2,(Yx3 .u32 y318.1),(Yx3 .u32 y319.1)))))
def YsH(lo:Lo):LpE:=⟨18,[(5,some 1,false)],(Zsg [2,4,5] [.ptr 0 0 0,.l (cs [.s]),.ptr 1 0 0] [.st [.j,.l (cs [I]),.i .u32,.i .u32],.st [.j,.ref 2,.i .u32,.i .u32],.sq (cs [I])]),[⟨.ret,(Zsg [2,3] [.ptr 0 0 0,.b] [.st [.j,.l (cs [I]),.i .u32,.i .u32]])⟩],Yc4 lo⟩
def YsI(lo:Lo):LL:=(YsH lo,q83_J18_b.er)::YkP lo
theorem YsJ(lo:Lo):Lk lo pf (fs83 lo) 0 (YsI lo):=.j (YsG lo)
def q83(lo:Lo)(line0:ByteArray):Option (Int× (List Int)×Int×Int×Bool):=
  YxM (q81 lo line0 (32:Int)) fun y304=>bif(!decide ((y304.length:Int)=5))then(some ((0:Int),([]:List Int),(0:Int),(0:Int),false))else(chk (0<=(3:Int)/\ (3:Int)< (y304.length:Int)) (bif(!decide ((y304.getD 3 (Yx2 #[]))=(Yx2 #[45,62])))then(some ((0:Int),([]:List Int),(0:Int),(0:Int),false))else(YxM (YfO lo (y304,(1:Int),(0:Int),([]:List Int),(0:Int),(0:Int),(0:Int),(0:Int),(0:Int),[])) fun y306=>chk (0<=(1:Int)/\ (1:Int)< (y306.1.length:Int)) (bif(!decide ((y306.1.getD 1 (Yx2 #[]))=(Yx2 #[45])))then(chk (0<=(1:Int)/\ (1:Int)< (y306.1.length:Int)) (YxM (q81 lo (y306.1.getD 1 (Yx2 #[])) (44:Int)) fun y307=>YxM (Yci lo (y306.1,y307,(0:Int),y306.2.1,y306.2.2.1,y306.2.2.2.1,y306.2.2.2.2.1,y306.2.2.2.2.2.1,y306.2.2.2.2.2.2.1,y306.2.2.2.2.2.2.2.1,y306.2.2.2.2.2.2.2.2)) fun y315=>alt2 y315 (fun y316=>some (y316.2.1,y316.2.2.1,y316.2.2.2.1,y316.2.2.2.2,y316.1)) (fun y317=>YxM (Yc4 lo (y317.1,y317.2.1,y317.2.2.1,y317.2.2.2.1,y317.2.2.2.2.1,y317.2.2.2.2.2.1,y317.2.2.2.2.2.2.1,y317.2.2.2.2.2.2.2.1,y317.2.2.2.2.2.2.2.2)) fun y320=>some (y320.2.1,y320.2.2.1,y320.2.2.2.1,y320.2.2.2.2,y320.1))))else(YxM (Yc4 lo (y306.1,y306.2.1,y306.2.2.1,y306.2.2.2.1,y306.2.2.2.2.1,y306.2.2.2.2.2.1,y306.2.2.2.2.2.2.1,y306.2.2.2.2.2.2.2.1,y306.2.2.2.2.2.2.2.2)) fun y321=>some (y321.2.1,y321.2.2.1,y321.2.2.2.1,y321.2.2.2.2,y321.1))))))
def YsK:VFn:=⟨true,100,[.c 2 true 4,.t 3],
 (Rg [o 2 (.alloc [.i .i64 0,.e (cs [I]),.i .u32 0,.i .u32 0]),oB 3 false]
 (Rg [oM 15 0,oC 16 156 [15,(ki .u8 32)],oM 4 16]
 (.seq (Rg [oM 17 4,oN 18 17,oR 19 .neq 18 (k 5),oM 20 19,gF 21 20 (.mv 4),gF 22 20 (.iad 1 21 (k 3)),gF 23 20 (.load false 1 22),gF 24 20 (.bin .neq 23 (ks (⟨#[45,62]⟩))),oP 25 20 (kb true) 24]
 (.cond 25 (Rg [o 26 (.build [.i .i64 0,.e (cs [I]),.i .u32 0,.i .u32 0] []),oS 4 2 26,oB 3 false]
 (.fz [2,3] .ret))
 .skip))
 (Rg [o 5 (.alloc [.i .i64 0,.e (cs [I]),.i .u32 0,.i .u32 0])]
 (.seq (Rg [oK 6 1]
 (.blk 0 (.loop 19 q83_L19_b)))
 (.seq (Rg [oM 39 4,o 40 (.iad 1 39 (k 1)),oL 41 40,oR 42 .neq 41 (ks (⟨#[45]⟩))]
 (.cond 42 (Rg [oM 43 4,o 44 (.iad 1 43 (k 1)),oL 45 44,oC 46 156 [45,(ki .u8 44)],oM 7 46]
 (Rg [oK 8 0]
 (.blk 2 (.loop 6 q83_L6_b))))
 .skip))
 (.jn 18 q83_J18_b)))))))⟩
def YkQ(lo:Lo):FnE:=Zfe 157 true (Zsg [0] [.s] []) (.tp [.ag [.j,.l (cs [I]),.i .u32,.i .u32],.b]) [] (fun x=>q83 lo x:ByteArray->Option (Int× (List Int)×Int×Int×Bool))
def fs84(lo:Lo):List FnE:=YkQ lo::fs83 lo
theorem YsL(h:GZ P fm fs83 lo)(t:Ti P fm 157 YsK):GZ P fm fs84 lo:=
  h.p (YkQ lo) (YsJ lo) t
end Go.Abs.G12
namespace Go.Abs.G12
open Go Go.Abs
set_option maxRecDepth 100000
set_option maxHeartbeats 1000000
variable{P:Program}{fm:FM}{lo:Lo}
def q84_L3_b:VCode:=
 (.seq (Rg [oM 15 7,oM 16 5,oN 17 16,oR 18 .lss 15 17]
 (Ce 18 0))
 (.seq (.blk 1 (.seq (Rg [oM 21 7,oM 22 5,oN 23 22,oR 24 .sub 23 (k 1),oR 25 .eql 21 24,oM 26 25,gT 27 26 (.mv 5),gT 28 26 (.mv 7),gT 29 26 (.iad 1 27 28),gT 30 26 (.load false 1 29),gT 31 26 (.bin .eql 30 (ks (⟨#[]⟩))),oP 32 26 31 (kb false)]
 (.cond 32 (.exit 0)
 .skip))
 (Rg [oM 34 5,oM 35 7,oI 36 1 34 35,oL 37 36,oC 38 157 [37],oM 33 38,oE 39 33 0,oE 40 33 1,o 8 (.alloc [.i .i64 0,.e (cs [I]),.i .u32 0,.i .u32 0]),oS 4 8 39,oM 9 40]
 (.seq (Rg [oM 41 9,oX 42 41,oM 43 42,gF 44 43 (.mv 7),gF 45 43 (.mv 5),gF 46 43 (.len 45),gF 47 43 (.bin .sub 46 (k 1)),gF 48 43 (.bin .eql 44 47),oP 49 43 (kb true) 48]
 (.cond 49 (Rg [oM 50 7,oR 51 .add 50 (k 1),o 2 (.mv (ke Zc1)),oM 3 51,oK 4 2]
 (.fz [2,3,4] .ret))
 .skip))
 (.reg [oM 52 6,oT 53 4 8,o 54 (.bsl Zc1 1 [(0,53)]),o 55 (.app Zc1 0 52 54),oM 6 55])))))
 (.reg [oM 19 7,oR 20 .add 19 (k 1),oM 7 20])))
def Yed(lo:Lo):Zt3×Int×Zt0->Option ((Zt3×Int×Zt0)⊕ ((Zt0)⊕ (Zt0×Int×Int))):=fun x=>match x with
  | (l5,i7,out6)=>bif(decide (i7< (l5.length:Int)))then(bif(decide (i7=(Yx3 .i64 ((l5.length:Int)-1))))then(chk (0<=i7/\i7< (l5.length:Int)) (bif(decide ((l5.getD i7.toNat (Yx2 #[]))=(Yx2 #[])))then(some (.inr (.inl out6)))else(chk (0<=i7/\i7< (l5.length:Int)) (YxM (q83 lo (l5.getD i7.toNat (Yx2 #[]))) fun y322=>bif(!y322.2.2.2.2)then(some (.inr (.inr (([]:List (Int× (List Int)×Int×Int)),(Yx3 .i64 (i7+1)),(2:Int)))))else(bif(decide (i7=(Yx3 .i64 ((l5.length:Int)-1))))then(some (.inr (.inr (([]:List (Int× (List Int)×Int×Int)),(Yx3 .i64 (i7+1)),(2:Int)))))else(chk (out6.length+([(y322.1,y322.2.1,y322.2.2.1,y322.2.2.2.1)]).length<=maxEl) (some (.inl (l5,(Yx3 .i64 (i7+1)),(out6++([(y322.1,y322.2.1,y322.2.2.1,y322.2.2.2.1)])))))))))))else(chk (0<=i7/\i7< (l5.length:Int)) (YxM (q83 lo (l5.getD i7.toNat (Yx2 #[]))) fun y323=>bif(!y323.2.2.2.2)then(some (.inr (.inr (([]:List (Int× (List Int)×Int×Int)),(Yx3 .i64 (i7+1)),(2:Int)))))else(bif(decide (i7=(Yx3 .i64 ((l5.length:Int)-1))))then(some (.inr (.inr (([]:List (Int× (List Int)×Int×Int)),(Yx3 .i64 (i7+1)),(2:Int)))))else(chk (out6.length+([(y323.1,y323.2.1,y323.2.2.1,y323.2.2.2.1)]).length<=maxEl) (some (.inl (l5,(Yx3 .i64 (i7+1)),(out6++([(y323.1,y323.2.1,y323.2.2.1,y323.2.2.2.1)]))))))))))else(some (.inr (.inl out6)))
def Yc5(lo:Lo):Zt3×Int×Zt0->Option ((Zt0)⊕ (Zt0×Int×Int)):=lo.run (Yed lo)
def YsM(lo:Lo):LpE:=⟨3,[(6,none,false)],(Zsg [5,6,7] [.l (cs [.s]),.ref 0,.j] [.sq Zc1]),[⟨.exit 0,(Zsg [6] [.ref 0] [.sq Zc1])⟩,⟨.ret,(Zsg [2,3,4] [.l Zc1,.j,.j] [])⟩],Yc5 lo⟩
def YsN(lo:Lo):LL:=(YsM lo,.loop q84_L3_b.er)::[]
theorem YsO(lo:Lo):Lk lo pf (fs84 lo) 0 (YsN lo):=.l .n (Yed lo)
def q84(lo:Lo)(s0:ByteArray):Option (Zt0×Int×Int):=
  bif(decide ((65536:Int)< (s0.size:Int)))then(some (([]:List (Int× (List Int)×Int×Int)),(0:Int),(3:Int)))else(YxM (q81 lo s0 (10:Int)) fun y303=>YxM (Yc5 lo (y303,(0:Int),[])) fun y324=>alt2 y324 (fun y325=>some (y325,(0:Int),(0:Int))) (fun y326=>some (y326.1,y326.2.1,y326.2.2)))
def YsP:VFn:=⟨true,57,[.t 2,.t 3,.t 4],
 (Rg [o 2 (.mv (ke Zc1)),oK 3 0,oK 4 0]
 (.seq (Rg [oM 10 0,o 11 (.lenS 10),oR 12 .gtr 11 (k 65536)]
 (.cond 12 (Rg [o 2 (.mv (ke Zc1)),oK 3 0,oK 4 3]
 (.fz [2,3,4] .ret))
 .skip))
 (Rg [oM 13 0,oC 14 156 [13,(ki .u8 10)],oM 5 14]
 (Rg [o 6 (.mv (ke Zc1))]
 (.seq (Rg [oK 7 0]
 (.blk 0 (.loop 3 q84_L3_b)))
 (Rg [oM 56 6,oM 2 56,oK 3 0,oK 4 0]
 (.fz [2,3,4] .ret)))))))⟩
def YkR(lo:Lo):FnE:=Zfe 129 true (Zsg [0] [.s] []) (.tp [.l Zc1,.j,.j]) [] (fun x=>q84 lo x:ByteArray->Option (Zt0×Int×Int))
def fs85(lo:Lo):List FnE:=YkR lo::fs84 lo
theorem YsQ(h:GZ P fm fs84 lo)(t:Ti P fm 129 YsP):GZ P fm fs85 lo:=
  h.p (YkR lo) (YsO lo) t
def q85(lo:Lo)(s0:ByteArray):Option Bool:=
  YxM (q35 lo) fun y298=>bif(!y298)then(YxM (q35 lo) fun y299=>some y299)else(bif(decide ((500:Int)< (s0.size:Int)))then(YxM (q35 lo) fun y300=>some y300)else(YxM (q78 lo s0) fun y301=>YxM (q84 lo s0) fun y327=>bif(decide (y301.2.1=y327.2.1))then(bif(decide (y301.2.2=y327.2.2))then(YxM (q79 lo y301.1 y327.1) fun y328=>some y328)else(some false))else(some false)))
def YsR:VFn:=⟨true,42,[.t 2],
 (Rg [oB 2 false]
 (.seq (Rg [oC 9 109 [],oX 10 9,oM 11 10,gF 12 11 (.mv 0),gF 13 11 (.lenS 12),gF 14 11 (.bin .gtr 13 (k 500)),oP 15 11 (kb true) 14]
 (.cond 15 (Rg [oC 16 109 [],oM 2 16]
 (Fr 2))
 .skip))
 (Rg [oM 18 0,oC 19 128 [18],oM 17 19,oE 20 17 0,oE 21 17 1,oE 22 17 2,oM 3 20,oM 4 21,oM 5 22]
 (Rg [oM 24 0,oC 25 129 [24],oM 23 25,oE 26 23 0,oE 27 23 1,oE 28 23 2,oM 6 26,oM 7 27,oM 8 28]
 (Rg [oM 29 4,oM 30 7,oR 31 .eql 29 30,oM 32 31,gT 33 32 (.mv 5),gT 34 32 (.mv 8),gT 35 32 (.bin .eql 33 34),oP 36 32 35 (kb false),oM 37 36,gT 38 37 (.mv 3),gT 39 37 (.mv 6),gT 40 37 (.call 120 [38,39]),oP 41 37 40 (kb false),oM 2 41]
 (Fr 2))))))⟩
def q85_f(lo:Lo):FnE:=Zfe 107 true (Zsg [0] [.s] []) .b [] (fun x=>q85 lo x:ByteArray->Option Bool)
def fs86(lo:Lo):List FnE:=q85_f lo::fs85 lo
theorem YsS(h:GZ P fm fs85 lo)(t:Ti P fm 107 YsR):GZ P fm fs86 lo:=
  h.p (q85_f lo) .n t
end Go.Abs.G12
