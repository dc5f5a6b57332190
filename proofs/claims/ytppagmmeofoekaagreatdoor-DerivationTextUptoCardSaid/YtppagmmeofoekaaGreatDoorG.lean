/- Functions of the program as functions of data (written by program). No condition. -/
import Derived.Test.YtppagmmeofoekaaGreatDoorB
set_option linter.unusedVariables false
set_option linter.unusedSimpArgs false
set_option linter.unusedSectionVars false
open List renaming mem_cons_self → Yxt
open Nat renaming beq → YxH, ble → YxL
open Option renaming bind → YxU
open ByteArray renaming mk → Yx9
open Go.IntKind renaming wrap → Yya
namespace Go.Abs.G12
open Go Go.Abs
abbrev _root_.Go.Abs.SV.j:SV:=.i .i64
mutual
def ZtS:SV->List Ty
 | .i k=>[.i k]
 | .b=>[.b]
 | .s=>[.s]
 | .l c=>[.l c]
 | .pre _=>[I]
 | .ag l=>ZtL l
 | .tp l=>ZtL l
 | .clo _ l=>ZtL l
 |_=>[]
def ZtL:List SV->List Ty
 | []=>[]
 |a::r=>ZtS a++ZtL r
end
def ZtO:List SO->List Ty
 | []=>[]
 | .sq c::r=>.l c::ZtO r
 | .fm A _ c::r=>.l (sn c A)::ZtO r
 | .fp o c::r=>I:: .l (mapC o (.l c) .nil)::ZtO r
 | .st l::r=>ZtL l++ZtO r
 | .sb::r=>.s::ZtO r
 | .dd::r=>ZtO r
abbrev Zsg(t:List Nat)(v:List SV)(o:List SO):Sg:=⟨t,v,o,cs (ZtL v++ZtO o)⟩
abbrev Zfe(g:Nat)(p:Bool)(a:Sg)(r:SV)(o:List SO)(F:a.c.den->Option (cs (ZtS r++ZtO o)).den):FnE:=⟨g,p,a,r,o,_,F⟩
abbrev Zt0:Type:=List (Int× (List Int)×Int×Int)
abbrev Zc1:Cs:=cs [I,.l (cs [I]),.i .u32,.i .u32]
abbrev Zt2:Type:=List (Int×Int)
abbrev Zc3:Cs:=cs [.i .u32,.i .u32]
abbrev Zt4:Type:=List ByteArray
abbrev Zp5:Type:=ByteArray×Zt4×Zt4×Int×Int×Int× (List Int)×Int×Int×Int×Int×Int× (List Int)
abbrev Zp6:Type:=ByteArray×Zt4×Int× (List Int)×Int×Int×Int×Int×Int× (List Int)
abbrev Zp7:Type:=(List Int)×Int×Int×Int× (List Int)×Int×Int×Zt4
abbrev Zp8:Type:=Zt2×Int×Int× (List Int)×Int×Int×Int×Int×Zt0
abbrev Zp9:Type:=Zt0×ByteArray×Zt0×Int×Int× (List Int)×Int×Int
abbrev Zp10:Type:=Int×Int× (List Int)×Int×Int×Int×Int
abbrev Zp11:Type:=ByteArray×Int×Int× (List Int)×Int×Int
abbrev Zp12:Type:=ByteArray×Int× (List Int)×Int×Int
abbrev Zp13:Type:=Zt0×ByteArray×Zt0×Int×Int
instance{n:Nat}:OfNat VOpd n:=⟨.t n⟩
abbrev Rg(l:List VI)(b:VCode):VCode:=.seq (.reg l) b
abbrev Fr(n:Nat):VCode:=.fz [n] .ret
abbrev Ce(c e:Nat):VCode:=.cond (t c) .skip (.exit e)
abbrev oM(n a:Nat):VI:=o n (.mv (t a))
abbrev oL(n a:Nat):VI:=o n (.load false 1 (t a))
abbrev oT(n s a:Nat):VI:=o n (.load true s (t a))
abbrev oF(n i a:Nat):VI:=o n (.fad i (t a))
abbrev oE(n a i:Nat):VI:=o n (.ext (t a) i)
abbrev oN(n a:Nat):VI:=o n (.len (t a))
abbrev oI(n e a i:Nat):VI:=o n (.iad e (t a) (t i))
abbrev oS(n a b:Nat):VI:=on (.store n (t a) (t b))
abbrev oP(n c:Nat)(a b:VOpd):VI:=o n (.pick (t c) a b)
abbrev oK(n:Nat)(a:Int):VI:=o n (.mv (k a))
abbrev oB(n:Nat)(a:Bool):VI:=o n (.mv (kb a))
abbrev oC(n f:Nat)(l:List VOpd):VI:=o n (.call f l)
abbrev oX(n a:Nat):VI:=o n (.not (t a))
abbrev oG(n a:Nat):VI:=o n (.box (t a))
abbrev oR(n:Nat)(p:BinOp)(a b:VOpd):VI:=o n (.bin p a b)
abbrev gT(n g:Nat)(p:VOp):VI:=og n g true p
abbrev gF(n g:Nat)(p:VOp):VI:=og n g false p
set_option maxRecDepth 100000
set_option maxHeartbeats 1000000
variable{P:Program}{fm:FM}{lo:Lo}
abbrev pf:Nat->Bool:=fun g=> !(List.any ([140,149,151,154,158,164,170,188,189,1079,193,1080,196,197,198,200,204,205,206,207,208,211,147,148,162,177,178,179,181,182,184,185,194,1084,143]:List Nat) (YxH g))
abbrev GZ(P:Program)(fm:FM)(fs:Lo->List FnE)(lo:Lo):Prop:=GS P fm pf (fs lo) lo
abbrev Ti(P:Program)(fm:FM)(g:Nat)(F:VFn):Prop:=TieF P fm pf g F
def fs0(_:Lo):List FnE:=[]
def q0_L3_b:VCode:=
 (.seq (Rg [oM 5 4,oM 6 0,oR 7 .lss 5 6,oM 8 7,gT 9 8 (.mv 4),gT 10 8 (.bin .lss 9 (k 32)),oP 11 8 10 (kb false)]
 (Ce 11 0))
 (.seq (.blk 1 (.reg [oM 14 3,oM 15 4,oR 16 .shl (ki .u32 1) 15,oR 17 .or 14 16,oM 3 17]))
 (.reg [oM 12 4,oR 13 .add 12 (k 1),oM 4 13])))
def YjG(lo:Lo):Int×Int×Int->Option ((Int×Int×Int)⊕Int):=fun x=>match x with
  | (n0,s3,i4)=>bif(decide (i4<n0))then(bif(decide (i4<32))then(chk (0<=i4) (some (.inl (n0,(bits .or .u32 s3 (Yya .u32 ((1:Int)*2^(min i4.toNat (IntKind.bits .u32))))),(Yya .i64 (i4+1))))))else(some (.inr s3)))else(some (.inr s3))
def YjH(lo:Lo):Int×Int×Int->Option Int:=lo.run (YjG lo)
def YpZ(lo:Lo):LpE:=⟨3,[],(Zsg [0,3,4] [.j,.i .u32,.j] []),[⟨.exit 0,(Zsg [3] [.i .u32] [])⟩],YjH lo⟩
def Yp0(lo:Lo):LL:=(YpZ lo,.loop q0_L3_b.er)::[]
theorem Yp1(lo:Lo):Lk lo pf (fs0 lo) 0 (Yp0 lo):=.l .n (YjG lo)
def q0(lo:Lo)(n0:Int):Option Int:=
  YxU (YjH lo (n0,(0:Int),(0:Int))) fun y0=>some y0
def Yp2:VFn:=⟨true,19,[.t 2],
 (Rg [o 2 (.mv (ki .u32 0))]
 (Rg [o 3 (.mv (ki .u32 0))]
 (.seq (Rg [oK 4 0]
 (.blk 0 (.loop 3 q0_L3_b)))
 (Rg [oM 18 3,oM 2 18]
 (Fr 2)))))⟩
def YjI(lo:Lo):FnE:=Zfe 118 true (Zsg [0] [.j] []) (.i .u32) [] (fun x=>q0 lo x:Int->Option Int)
def fs1(lo:Lo):List FnE:=YjI lo::fs0 lo
theorem Yp3(h:GZ P fm fs0 lo)(t:Ti P fm 118 Yp2):GZ P fm fs1 lo:=
  h.p (YjI lo) (Yp1 lo) t
def fs2(lo:Lo):List FnE:=fs1 lo
def fs3(lo:Lo):List FnE:=fs2 lo
def q3(lo:Lo):Option (Zt2×Zt0):=
  chk (0<=(0:Int)/\ (0:Int)< (([((1:Int),(2:Int)),((2:Int),(4:Int))]).length:Int)) (chk (0<=(1:Int)/\ (1:Int)< (([((1:Int),(2:Int)),((2:Int),(4:Int))]).length:Int)) (some ([((1:Int),(2:Int)),((2:Int),(4:Int))],[((1:Int),[(0:Int)],(([((1:Int),(2:Int)),((2:Int),(4:Int))]).getD 0 ((0:Int),(0:Int))).1,(([((1:Int),(2:Int)),((2:Int),(4:Int))]).getD 0 ((0:Int),(0:Int))).2),((1:Int),[(1:Int)],(([((1:Int),(2:Int)),((2:Int),(4:Int))]).getD 1 ((0:Int),(0:Int))).1,(([((1:Int),(2:Int)),((2:Int),(4:Int))]).getD 1 ((0:Int),(0:Int))).2),((4:Int),[(0:Int),(1:Int)],(1:Int),(4:Int))])))
def Yp4:VFn:=⟨true,21,[.t 0,.t 1],
 (Rg [o 0 (.mv (ke Zc3)),o 1 (.mv (ke Zc1))]
 (Rg [o 3 (.build [.i .u32 0,.i .u32 0] [(0,1,(ki .u32 1)),(1,1,(ki .u32 2))]),o 4 (.build [.i .u32 0,.i .u32 0] [(0,1,(ki .u32 2)),(1,1,(ki .u32 4))]),o 5 (.bsl Zc3 2 [(0,3),(1,4)]),oM 2 5]
 (Rg [oM 6 2,o 7 (.bsl (cs [I]) 1 [(0,(k 0))]),oM 8 2,o 9 (.iad 2 8 (k 0)),oT 10 2 9,o 11 (.build [.i .i64 0,.e (cs [I]),.i .u32 0,.i .u32 0] [(0,1,(k 1)),(1,1,7),(2,2,10)]),o 12 (.bsl (cs [I]) 1 [(0,(k 1))]),oM 13 2,o 14 (.iad 2 13 (k 1)),oT 15 2 14,o 16 (.build [.i .i64 0,.e (cs [I]),.i .u32 0,.i .u32 0] [(0,1,(k 1)),(1,1,12),(2,2,15)]),o 17 (.bsl (cs [I]) 2 [(0,(k 0)),(1,(k 1))]),o 18 (.build [.i .u32 0,.i .u32 0] [(0,1,(ki .u32 1)),(1,1,(ki .u32 4))]),o 19 (.build [.i .i64 0,.e (cs [I]),.i .u32 0,.i .u32 0] [(0,1,(k 4)),(1,1,17),(2,2,18)]),o 20 (.bsl Zc1 3 [(0,11),(1,16),(2,19)]),oM 0 6,oM 1 20]
 (.fz [0,1] .ret))))⟩
def YjJ(lo:Lo):FnE:=Zfe 131 true (Zsg [] [] []) (.tp [.l Zc3,.l Zc1]) [] (fun x=>q3 lo:Unit->Option (Zt2×Zt0))
def fs4(lo:Lo):List FnE:=YjJ lo::fs3 lo
theorem Yp5(h:GZ P fm fs3 lo)(t:Ti P fm 131 Yp4):GZ P fm fs4 lo:=
  h.p (YjJ lo) .n t
def q4_L3_b:VCode:=
 (Rg [oR 19 .lss 18 17]
 (.seq (Ce 19 0)
 (.seq (.blk 1 (Rg [oI 20 2 16 18,oT 21 2 20,o 6 (.alloc [.i .u32 0,.i .u32 0]),oS 2 6 21]
 (Rg [oF 22 0 6,oL 23 22,oF 24 1 6,oL 25 24,oR 26 .or 23 25,oM 27 0,oR 28 .shr 26 27,oR 29 .neq 28 (ki .u32 0)]
 (.cond 29 (Rg [oK 4 1]
 (Fr 4))
 .skip))))
 (.reg [oR 30 .add 18 (k 1),oM 18 30]))))
def YjK(lo:Lo):Int×Zt2×Int×Int->Option ((Int×Zt2×Int×Int)⊕ (Int⊕Unit)):=fun x=>match x with
  | (n0,v16,v17,v18)=>bif(decide (v18<v17))then(chk (0<=v18/\v18< (v16.length:Int)) (chk (0<=n0) (bif(!decide (((bits .or .u32 ((v16.getD v18.toNat ((0:Int),(0:Int))).1) ((v16.getD v18.toNat ((0:Int),(0:Int))).2)).fdiv (2^(min n0.toNat (IntKind.bits .u32))))=(0:Int)))then(some (.inr (.inl (1:Int))))else(some (.inl (n0,v16,v17,(Yya .i64 (v18+1))))))))else(some (.inr (.inr ())))
def YjL(lo:Lo):Int×Zt2×Int×Int->Option (Int⊕Unit):=lo.run (YjK lo)
def Yp6(lo:Lo):LpE:=⟨3,[],(Zsg [0,16,17,18] [.j,.l Zc3,.j,.j] []),[⟨.ret,(Zsg [4] [.j] [])⟩,⟨.exit 0,(Zsg [] [] [])⟩],YjL lo⟩
def Yp7(lo:Lo):LL:=(Yp6 lo,.loop q4_L3_b.er)::[]
theorem Yp8(lo:Lo):Lk lo pf (fs4 lo) 0 (Yp7 lo):=.l .n (YjK lo)
def q4(lo:Lo)(n0:Int)(fds1:List (Int×Int)):Option Int:=
  bif(decide (n0<0))then(some (7:Int))else(bif(decide (16<n0))then(some (7:Int))else(bif(decide ((64:Int)< (fds1.length:Int)))then(some (3:Int))else(YxU (YjL lo (n0,fds1,(fds1.length:Int),(0:Int))) fun y6=>alt2 y6 (fun y7=>some y7) (fun y8=>some (0:Int)))))
def Yp9:VFn:=⟨true,31,[.t 4],
 (Rg [oK 4 0]
 (.seq (Rg [oM 7 0,oR 8 .lss 7 (k 0),oM 9 8,gF 10 9 (.mv 0),gF 11 9 (.bin .gtr 10 (k 16)),oP 12 9 (kb true) 11]
 (.cond 12 (Rg [oK 4 7]
 (Fr 4))
 .skip))
 (.seq (Rg [oM 13 1,oN 14 13,oR 15 .gtr 14 (k 64)]
 (.cond 15 (Rg [oK 4 3]
 (Fr 4))
 .skip))
 (.seq (Rg [oM 16 1,oN 17 16,oK 18 0]
 (.blk 0 (.loop 3 q4_L3_b)))
 (Rg [oK 4 0]
 (Fr 4))))))⟩
def YjM(lo:Lo):FnE:=Zfe 132 true (Zsg [0,1] [.j,.l Zc3] []) (.i .i64) [] (fun x=>q4 lo x.1 x.2:Int×Zt2->Option Int)
def fs5(lo:Lo):List FnE:=YjM lo::fs4 lo
theorem Yqa(h:GZ P fm fs4 lo)(t:Ti P fm 132 Yp9):GZ P fm fs5 lo:=
  h.p (YjM lo) (Yp8 lo) t
def q5(lo:Lo)(n0:Int):Option Int:=
  chk (0<=n0) (some (Yya .u32 ((Yya .u32 ((1:Int)*2^(min n0.toNat (IntKind.bits .u32))))-(1:Int))))
def Yqb:VFn:=⟨true,6,[.t 2],
 (Rg [o 2 (.mv (ki .u32 0))]
 (Rg [oM 3 0,oR 4 .shl (ki .u32 1) 3,oR 5 .sub 4 (ki .u32 1),oM 2 5]
 (Fr 2)))⟩
def YjN(lo:Lo):FnE:=Zfe 138 true (Zsg [0] [.j] []) (.i .u32) [] (fun x=>q5 lo x:Int->Option Int)
def fs6(lo:Lo):List FnE:=YjN lo::fs5 lo
theorem Yqc(h:GZ P fm fs5 lo)(t:Ti P fm 138 Yqb):GZ P fm fs6 lo:=
  h.p (YjN lo) .n t
def q6(lo:Lo)(a0:Int)(b1:Int):Option Bool:=
  some (decide ((bits .andNot .u32 a0 b1)=(0:Int)))
def Yqd:VFn:=⟨true,9,[.t 4],
 (Rg [oB 4 false]
 (Rg [oM 5 0,oM 6 1,oR 7 .andNot 5 6,oR 8 .eql 7 (ki .u32 0),oM 4 8]
 (Fr 4)))⟩
def YjO(lo:Lo):FnE:=Zfe 137 true (Zsg [0,1] [.i .u32,.i .u32] []) .b [] (fun x=>q6 lo x.1 x.2:Int×Int->Option Bool)
def fs7(lo:Lo):List FnE:=YjO lo::fs6 lo
theorem Yqe(h:GZ P fm fs6 lo)(t:Ti P fm 137 Yqd):GZ P fm fs7 lo:=
  h.p (YjO lo) .n t
def q7(lo:Lo)(k0:Int)(v1:Int)(v2:List (Int× (List Int)×Int×Int)):Option (Int×Int×Bool×Int×Zt0):=
  bif(decide (k0<0))then(some ((0:Int),(0:Int),false,v1,v2))else(bif(decide (v1<=k0))then(some ((0:Int),(0:Int),false,v1,v2))else(chk (0<=k0/\k0< (v2.length:Int)) (some ((v2.getD k0.toNat ((0:Int),[],(0:Int),(0:Int))).2.2.1,(v2.getD k0.toNat ((0:Int),[],(0:Int),(0:Int))).2.2.2,true,v1,v2))))
def Yqf:VFn:=⟨true,19,[.c 4 true 2,.t 5],
 (Rg [o 4 (.alloc [.i .u32 0,.i .u32 0]),oB 5 false]
 (.seq (Rg [oM 6 0,oR 7 .lss 6 (k 0),oM 8 7,gF 9 8 (.mv 0),gF 10 8 (.load false 1 1),gF 11 8 (.bin .geq 9 10),oP 12 8 (kb true) 11]
 (.cond 12 (Rg [o 13 (.build [.i .u32 0,.i .u32 0] []),oS 2 4 13,oB 5 false]
 .ret)
 .skip))
 (Rg [oL 14 2,oM 15 0,oI 16 4 14 15,oF 17 2 16,oT 18 2 17,oS 2 4 18,oB 5 true]
 .ret)))⟩
def YjP(lo:Lo):FnE:=Zfe 158 false (Zsg [0,1,2] [.j,.ptr 0 0 0,.ptr 1 0 0] [.st [.j],.st [.l Zc1]]) (.tp [.ag [.i .u32,.i .u32],.b]) [.st [.j],.st [.l Zc1]] (fun x=>q7 lo x.1 x.2.1 x.2.2:Int×Int×Zt0->Option (Int×Int×Bool×Int×Zt0))
def fs8(lo:Lo):List FnE:=YjP lo::fs7 lo
theorem Yqg(h:GZ P fm fs7 lo)(t:Ti P fm 158 Yqf):GZ P fm fs8 lo:=
  h.i (YjP lo) .n t
def q8(lo:Lo)(n0:Int)(fds1:List (Int×Int))(steps2:List (Int× (List Int)×Int×Int))(i3:Int):Option Bool:=
  chk (0<=i3/\i3< (steps2.length:Int)) (YxU (q5 lo n0) fun y10=>YxU (q6 lo (bits .or .u32 ((steps2.getD i3.toNat ((0:Int),[],(0:Int),(0:Int))).2.2.1) ((steps2.getD i3.toNat ((0:Int),[],(0:Int),(0:Int))).2.2.2)) y10) fun y11=>bif(!y11)then(some false)else(bif(decide ((steps2.getD i3.toNat ((0:Int),[],(0:Int),(0:Int))).1=(1:Int)))then(bif(decide ((((steps2.getD i3.toNat ((0:Int),[],(0:Int),(0:Int))).2.1).length:Int)=(1:Int)))then(chk (0<=(0:Int)/\ (0:Int)< (((steps2.getD i3.toNat ((0:Int),[],(0:Int),(0:Int))).2.1).length:Int)) (bif(decide ((0:Int)<=(((steps2.getD i3.toNat ((0:Int),[],(0:Int),(0:Int))).2.1).getD 0 (0:Int))))then(chk (0<=(0:Int)/\ (0:Int)< (((steps2.getD i3.toNat ((0:Int),[],(0:Int),(0:Int))).2.1).length:Int)) (bif(decide ((((steps2.getD i3.toNat ((0:Int),[],(0:Int),(0:Int))).2.1).getD 0 (0:Int))< (fds1.length:Int)))then(chk (0<=(0:Int)/\ (0:Int)< (((steps2.getD i3.toNat ((0:Int),[],(0:Int),(0:Int))).2.1).length:Int)) (chk (0<=(((steps2.getD i3.toNat ((0:Int),[],(0:Int),(0:Int))).2.1).getD 0 (0:Int))/\ (((steps2.getD i3.toNat ((0:Int),[],(0:Int),(0:Int))).2.1).getD 0 (0:Int))< (fds1.length:Int)) (some ((decide ((fds1.getD ((((steps2.getD i3.toNat ((0:Int),[],(0:Int),(0:Int))).2.1).getD 0 (0:Int)).toNat) ((0:Int),(0:Int))).1=(steps2.getD i3.toNat ((0:Int),[],(0:Int),(0:Int))).2.2.1))&& ((decide ((fds1.getD ((((steps2.getD i3.toNat ((0:Int),[],(0:Int),(0:Int))).2.1).getD 0 (0:Int)).toNat) ((0:Int),(0:Int))).2=(steps2.getD i3.toNat ((0:Int),[],(0:Int),(0:Int))).2.2.2))&&true)))))else(some false)))else(some false)))else(some false))else(bif(decide ((steps2.getD i3.toNat ((0:Int),[],(0:Int),(0:Int))).1=(2:Int)))then(bif(decide ((((steps2.getD i3.toNat ((0:Int),[],(0:Int),(0:Int))).2.1).length:Int)=(0:Int)))then(YxU (q6 lo ((steps2.getD i3.toNat ((0:Int),[],(0:Int),(0:Int))).2.2.2) ((steps2.getD i3.toNat ((0:Int),[],(0:Int),(0:Int))).2.2.1)) fun y12=>some y12)else(some false))else(bif(decide ((steps2.getD i3.toNat ((0:Int),[],(0:Int),(0:Int))).1=(3:Int)))then(bif(!decide ((((steps2.getD i3.toNat ((0:Int),[],(0:Int),(0:Int))).2.1).length:Int)=(1:Int)))then(some false)else(chk (0<=(0:Int)/\ (0:Int)< (((steps2.getD i3.toNat ((0:Int),[],(0:Int),(0:Int))).2.1).length:Int)) (YxU (q7 lo (((steps2.getD i3.toNat ((0:Int),[],(0:Int),(0:Int))).2.1).getD 0 (0:Int)) i3 steps2) fun y13=>bif y13.2.2.1 then(YxU (q6 lo y13.1 ((steps2.getD i3.toNat ((0:Int),[],(0:Int),(0:Int))).2.2.1)) fun y14=>bif y14 then(YxU (q6 lo y13.2.1 ((steps2.getD i3.toNat ((0:Int),[],(0:Int),(0:Int))).2.2.2)) fun y15=>bif y15 then(YxU (q6 lo (bits .andNot .u32 ((steps2.getD i3.toNat ((0:Int),[],(0:Int),(0:Int))).2.2.1) y13.1) ((steps2.getD i3.toNat ((0:Int),[],(0:Int),(0:Int))).2.2.2)) fun y16=>bif y16 then(YxU (q6 lo (bits .andNot .u32 ((steps2.getD i3.toNat ((0:Int),[],(0:Int),(0:Int))).2.2.2) y13.2.1) ((steps2.getD i3.toNat ((0:Int),[],(0:Int),(0:Int))).2.2.1)) fun y17=>some y17)else(some false))else(some false))else(some false))else(some false))))else(bif(decide ((steps2.getD i3.toNat ((0:Int),[],(0:Int),(0:Int))).1=(4:Int)))then(bif(!decide ((((steps2.getD i3.toNat ((0:Int),[],(0:Int),(0:Int))).2.1).length:Int)=(2:Int)))then(some false)else(chk (0<=(0:Int)/\ (0:Int)< (((steps2.getD i3.toNat ((0:Int),[],(0:Int),(0:Int))).2.1).length:Int)) (YxU (q7 lo (((steps2.getD i3.toNat ((0:Int),[],(0:Int),(0:Int))).2.1).getD 0 (0:Int)) i3 steps2) fun y18=>chk (0<=(1:Int)/\ (1:Int)< (((steps2.getD i3.toNat ((0:Int),[],(0:Int),(0:Int))).2.1).length:Int)) (YxU (q7 lo (((steps2.getD i3.toNat ((0:Int),[],(0:Int),(0:Int))).2.1).getD 1 (0:Int)) y18.2.2.2.1 y18.2.2.2.2) fun y19=>bif y18.2.2.1 then(bif y19.2.2.1 then(bif(decide (y18.2.1=y19.1))then(some ((decide ((steps2.getD i3.toNat ((0:Int),[],(0:Int),(0:Int))).2.2.1=y18.1))&& ((decide ((steps2.getD i3.toNat ((0:Int),[],(0:Int),(0:Int))).2.2.2=y19.2.1))&&true)))else(some false))else(some false))else(some false)))))else(some false))))))
def Yqh:VFn:=⟨true,176,[.t 8],
 (Rg [oG 6 2,oG 7 3,oB 8 false]
 (Rg [oL 18 6,oL 19 7,oI 20 4 18 19,oT 21 4 20,o 9 (.alloc [.i .i64 0,.e (cs [I]),.i .u32 0,.i .u32 0]),oS 4 9 21]
 (Rg [oF 22 2 9,oT 23 2 22,o 10 (.alloc [.i .u32 0,.i .u32 0]),oS 2 10 23]
 (.seq (Rg [oF 24 0 10,oL 25 24,oF 26 1 10,oL 27 26,oR 28 .or 25 27,oM 29 0,oC 30 138 [29],oC 31 137 [28,30],oX 32 31]
 (.cond 32 (Rg [oB 8 false]
 (Fr 8))
 .skip))
 (Rg [o 33 (.mkf 158 [7,6]),oM 11 33]
 (.seq (Rg [oF 34 0 9,oL 35 34]
 (.blk 0 (Rg [oR 37 .eql 35 (k 1),oM 36 37]
 (.cond 36 (Rg [oF 38 1 9,oL 39 38,oN 40 39,oR 41 .eql 40 (k 1),oM 42 41,gT 43 42 (.fad 1 9),gT 44 42 (.load false 1 43),gT 45 42 (.iad 1 44 (k 0)),gT 46 42 (.load false 1 45),gT 47 42 (.bin .geq 46 (k 0)),oP 48 42 47 (kb false),oM 49 48,gT 50 49 (.fad 1 9),gT 51 49 (.load false 1 50),gT 52 49 (.iad 1 51 (k 0)),gT 53 49 (.load false 1 52),gT 54 49 (.mv 1),gT 55 49 (.len 54),gT 56 49 (.bin .lss 53 55),oP 57 49 56 (kb false),oM 58 57,gT 59 58 (.mv 1),gT 60 58 (.fad 1 9),gT 61 58 (.load false 1 60),gT 62 58 (.iad 1 61 (k 0)),gT 63 58 (.load false 1 62),gT 64 58 (.iad 2 59 63),gT 65 58 (.load true 2 64),gT 66 58 (.load true 2 10),gT 67 58 (.eqa false [1,1] 65 66),oP 68 58 67 (kb false),oM 8 68]
 (Fr 8))
 (Rg [oR 70 .eql 35 (k 2),oM 69 70]
 (.cond 69 (Rg [oF 71 1 9,oL 72 71,oN 73 72,oR 74 .eql 73 (k 0),oM 75 74,gT 76 75 (.fad 1 10),gT 77 75 (.load false 1 76),gT 78 75 (.fad 0 10),gT 79 75 (.load false 1 78),gT 80 75 (.call 137 [77,79]),oP 81 75 80 (kb false),oM 8 81]
 (Fr 8))
 (Rg [oR 83 .eql 35 (k 3),oM 82 83]
 (.cond 82 (.seq (Rg [oF 84 1 9,oL 85 84,oN 86 85,oR 87 .neq 86 (k 1)]
 (.cond 87 (Rg [oB 8 false]
 (Fr 8))
 .skip))
 (Rg [oM 89 11,oF 90 1 9,oL 91 90,o 92 (.iad 1 91 (k 0)),oL 93 92,o 94 (.dyn 89 [93]),oM 88 94,oE 95 88 0,oE 96 88 1,o 12 (.alloc [.i .u32 0,.i .u32 0]),oS 2 12 95,oM 13 96]
 (Rg [oM 97 13,oM 98 97,gT 99 98 (.fad 0 12),gT 100 98 (.load false 1 99),gT 101 98 (.fad 0 10),gT 102 98 (.load false 1 101),gT 103 98 (.call 137 [100,102]),oP 104 98 103 (kb false),oM 105 104,gT 106 105 (.fad 1 12),gT 107 105 (.load false 1 106),gT 108 105 (.fad 1 10),gT 109 105 (.load false 1 108),gT 110 105 (.call 137 [107,109]),oP 111 105 110 (kb false),oM 112 111,gT 113 112 (.fad 0 10),gT 114 112 (.load false 1 113),gT 115 112 (.fad 0 12),gT 116 112 (.load false 1 115),gT 117 112 (.bin .andNot 114 116),gT 118 112 (.fad 1 10),gT 119 112 (.load false 1 118),gT 120 112 (.call 137 [117,119]),oP 121 112 120 (kb false),oM 122 121,gT 123 122 (.fad 1 10),gT 124 122 (.load false 1 123),gT 125 122 (.fad 1 12),gT 126 122 (.load false 1 125),gT 127 122 (.bin .andNot 124 126),gT 128 122 (.fad 0 10),gT 129 122 (.load false 1 128),gT 130 122 (.call 137 [127,129]),oP 131 122 130 (kb false),oM 8 131]
 (Fr 8))))
 (Rg [oR 133 .eql 35 (k 4),oM 132 133]
 (.cond 132 (.seq (Rg [oF 134 1 9,oL 135 134,oN 136 135,oR 137 .neq 136 (k 2)]
 (.cond 137 (Rg [oB 8 false]
 (Fr 8))
 .skip))
 (Rg [oM 139 11,oF 140 1 9,oL 141 140,o 142 (.iad 1 141 (k 0)),oL 143 142,o 144 (.dyn 139 [143]),oM 138 144,oE 145 138 0,oE 146 138 1,o 14 (.alloc [.i .u32 0,.i .u32 0]),oS 2 14 145,oM 15 146]
 (Rg [oM 148 11,oF 149 1 9,oL 150 149,o 151 (.iad 1 150 (k 1)),oL 152 151,o 153 (.dyn 148 [152]),oM 147 153,oE 154 147 0,oE 155 147 1,o 16 (.alloc [.i .u32 0,.i .u32 0]),oS 2 16 154,oM 17 155]
 (Rg [oM 156 15,oM 157 156,gT 158 157 (.mv 17),oP 159 157 158 (kb false),oM 160 159,gT 161 160 (.fad 1 14),gT 162 160 (.load false 1 161),gT 163 160 (.fad 0 16),gT 164 160 (.load false 1 163),gT 165 160 (.bin .eql 162 164),oP 166 160 165 (kb false),oM 167 166,gT 168 167 (.load true 2 10),gT 169 167 (.fad 0 14),gT 170 167 (.load false 1 169),gT 171 167 (.fad 1 16),gT 172 167 (.load false 1 171),gT 173 167 (.build [.i .u32 0,.i .u32 0] [(0,1,170),(1,1,172)]),gT 174 167 (.eqa false [1,1] 168 173),oP 175 167 174 (kb false),oM 8 175]
 (Fr 8)))))
 .skip))))))))))
 (Rg [oB 8 false]
 (Fr 8))))))))⟩
def YjQ(lo:Lo):FnE:=Zfe 133 true (Zsg [0,1,2,3] [.j,.l Zc3,.l Zc1,.j] []) .b [] (fun x=>q8 lo x.1 x.2.1 x.2.2.1 x.2.2.2:Int×Zt2×Zt0×Int->Option Bool)
def fs9(lo:Lo):List FnE:=YjQ lo::fs8 lo
theorem Yqi(h:GZ P fm fs8 lo)(t:Ti P fm 133 Yqh):GZ P fm fs9 lo:=
  h.p (YjQ lo) .n t
def q9_L3_b:VCode:=
 (Rg [oR 22 .lss 21 20]
 (.seq (Ce 22 0)
 (.seq (.blk 1 (Rg [oM 23 21,oM 9 23]
 (Rg [oM 24 0,oM 25 1,oM 26 2,oM 27 9,oC 28 133 [24,25,26,27],oX 29 28]
 (.cond 29 (Rg [oM 30 9,oM 6 30,oK 7 1]
 (.fz [6,7] .ret))
 .skip))))
 (.reg [oR 31 .add 21 (k 1),oM 21 31]))))
def YjR(lo:Lo):Int×Zt2×Zt0×Int×Int->Option ((Int×Zt2×Zt0×Int×Int)⊕ ((Int×Int)⊕Unit)):=fun x=>match x with
  | (n0,fds1,steps2,v20,v21)=>bif(decide (v21<v20))then(YxU (q8 lo n0 fds1 steps2 v21) fun y20=>bif(!y20)then(some (.inr (.inl (v21,(1:Int)))))else(some (.inl (n0,fds1,steps2,v20,(Yya .i64 (v21+1))))))else(some (.inr (.inr ())))
def YjS(lo:Lo):Int×Zt2×Zt0×Int×Int->Option ((Int×Int)⊕Unit):=lo.run (YjR lo)
def Yqj(lo:Lo):LpE:=⟨3,[],(Zsg [0,1,2,20,21] [.j,.l Zc3,.l Zc1,.j,.j] []),[⟨.ret,(Zsg [6,7] [.j,.j] [])⟩,⟨.exit 0,(Zsg [] [] [])⟩],YjS lo⟩
def Yqk(lo:Lo):LL:=(Yqj lo,.loop q9_L3_b.er)::[]
theorem Yql(lo:Lo):Lk lo pf (fs9 lo) 0 (Yqk lo):=.l .n (YjR lo)
def q9(lo:Lo)(n0:Int)(fds1:List (Int×Int))(steps2:List (Int× (List Int)×Int×Int)):Option (Int×Int):=
  YxU (q4 lo n0 fds1) fun y9=>bif(!decide (y9=0))then(some ((0:Int),y9))else(bif(decide ((steps2.length:Int)=0))then(some ((0:Int),(12:Int)))else(YxU (YjS lo (n0,fds1,steps2,(steps2.length:Int),(0:Int))) fun y21=>alt2 y21 (fun y22=>some (y22.1,y22.2)) (fun y23=>some ((0:Int),(0:Int)))))
def Yqm:VFn:=⟨true,32,[.t 6,.t 7],
 (Rg [oK 6 0,oK 7 0]
 (.seq (Rg [oM 10 0,oM 11 1,oC 12 132 [10,11],oM 8 12]
 (Rg [oM 13 8,oR 14 .neq 13 (k 0)]
 (.cond 14 (Rg [oM 15 8,oK 6 0,oM 7 15]
 (.fz [6,7] .ret))
 .skip)))
 (.seq (Rg [oM 16 2,oN 17 16,oR 18 .eql 17 (k 0)]
 (.cond 18 (Rg [oK 6 0,oK 7 12]
 (.fz [6,7] .ret))
 .skip))
 (.seq (Rg [oM 19 2,oN 20 19,oK 21 0]
 (.blk 0 (.loop 3 q9_L3_b)))
 (Rg [oK 6 0,oK 7 0]
 (.fz [6,7] .ret))))))⟩
def YjT(lo:Lo):FnE:=Zfe 111 true (Zsg [0,1,2] [.j,.l Zc3,.l Zc1] []) (.tp [.j,.j]) [] (fun x=>q9 lo x.1 x.2.1 x.2.2:Int×Zt2×Zt0->Option (Int×Int))
def fs10(lo:Lo):List FnE:=YjT lo::fs9 lo
theorem Yqn(h:GZ P fm fs9 lo)(t:Ti P fm 111 Yqm):GZ P fm fs10 lo:=
  h.p (YjT lo) (Yql lo) t
def q10_L5_b:VCode:=
 (Rg [oR 12 .lss 11 10]
 (.seq (Ce 12 2)
 (.seq (.blk 3 (Rg [oI 13 2 9 11,oT 14 2 13,o 7 (.alloc [.i .u32 0,.i .u32 0]),oS 2 7 14]
 (Rg [oF 15 0 7,oL 16 15,oM 17 1,oR 18 .andNot 16 17,oR 19 .eql 18 (ki .u32 0)]
 (.cond 19 (.reg [oM 20 1,oF 21 1 7,oL 22 21,oR 23 .or 20 22,oM 1 23])
 .skip))))
 (.reg [oR 24 .add 11 (k 1),oM 11 24]))))
def YjU(lo:Lo):Zt2×Int×Int×Zt2×Int×Int->Option ((Zt2×Int×Int×Zt2×Int×Int)⊕ ((Zt2×Int×Int))):=fun x=>match x with
  | (fds0,s1,before5,v9,v10,v11)=>bif(decide (v11<v10))then(chk (0<=v11/\v11< (v9.length:Int)) (bif(decide ((bits .andNot .u32 ((v9.getD v11.toNat ((0:Int),(0:Int))).1) s1)=(0:Int)))then(some (.inl (fds0,(bits .or .u32 s1 ((v9.getD v11.toNat ((0:Int),(0:Int))).2)),before5,v9,v10,(Yya .i64 (v11+1)))))else(some (.inl (fds0,s1,before5,v9,v10,(Yya .i64 (v11+1)))))))else(some (.inr (fds0,s1,before5)))
def YjV(lo:Lo):Zt2×Int×Int×Zt2×Int×Int->Option ((Zt2×Int×Int)):=lo.run (YjU lo)
def Yqo(lo:Lo):LpE:=⟨5,[],(Zsg [0,1,5,9,10,11] [.l Zc3,.i .u32,.i .u32,.l Zc3,.j,.j] []),[⟨.exit 2,(Zsg [0,1,5] [.l Zc3,.i .u32,.i .u32] [])⟩],YjV lo⟩
def YjW(lo:Lo):LL:=(Yqo lo,.loop q10_L5_b.er)::[]
theorem Yqp(lo:Lo):Lk lo pf (fs10 lo) 0 (YjW lo):=.l .n (YjU lo)
def q10_L1_b:VCode:=
 (.blk 1 (Rg [oM 8 1,oM 5 8]
 (.seq (Rg [oM 9 0,oN 10 9,oK 11 0]
 (.blk 2 (.loop 5 q10_L5_b)))
 (Rg [oM 25 1,oM 26 5,oR 27 .eql 25 26]
 (.cond 27 (Rg [oM 28 1,oM 4 28]
 (Fr 4))
 .skip)))))
def YjX(lo:Lo):Zt2×Int->Option ((Zt2×Int)⊕Int):=fun x=>match x with
  | (fds0,s1)=>YxU (YjV lo (fds0,s1,s1,fds0,(fds0.length:Int),(0:Int))) fun y29=>bif(decide (y29.2.1=y29.2.2))then(some (.inr y29.2.1))else(some (.inl (y29.1,y29.2.1)))
def YjY(lo:Lo):Zt2×Int->Option Int:=lo.run (YjX lo)
def Yqq(lo:Lo):LpE:=⟨1,[],(Zsg [0,1] [.l Zc3,.i .u32] []),[⟨.ret,(Zsg [4] [.i .u32] [])⟩],YjY lo⟩
def Yqr(lo:Lo):LL:=(Yqq lo,.loop q10_L1_b.er)::YjW lo
theorem Yqs(lo:Lo):Lk lo pf (fs10 lo) 0 (Yqr lo):=.l (Yqp lo) (YjX lo)
def q10(lo:Lo)(fds0:List (Int×Int))(s1:Int):Option Int:=
  YxU (YjY lo (fds0,s1)) fun y30=>some y30
def Yqt:VFn:=⟨true,29,[.t 4],
 (Rg [o 4 (.mv (ki .u32 0))]
 (.blk 0 (.loop 1 q10_L1_b)))⟩
def YjZ(lo:Lo):FnE:=Zfe 160 true (Zsg [0,1] [.l Zc3,.i .u32] []) (.i .u32) [] (fun x=>q10 lo x.1 x.2:Zt2×Int->Option Int)
def fs11(lo:Lo):List FnE:=YjZ lo::fs10 lo
theorem Yqu(h:GZ P fm fs10 lo)(t:Ti P fm 160 Yqt):GZ P fm fs11 lo:=
  h.p (YjZ lo) (Yqs lo) t
def q11(lo:Lo)(fds0:List (Int×Int))(fd1_0:Int)(fd1_1:Int):Option Bool:=
  YxU (q10 lo fds0 fd1_0) fun y31=>some (decide ((bits .andNot .u32 fd1_1 y31)=(0:Int)))
def Yqv:VFn:=⟨true,13,[.t 4],
 (Rg [oG 3 1,oB 4 false]
 (Rg [oF 5 1 3,oL 6 5,oM 7 0,oF 8 0 3,oL 9 8,oC 10 160 [7,9],oR 11 .andNot 6 10,oR 12 .eql 11 (ki .u32 0),oM 4 12]
 (Fr 4)))⟩
def Yj0(lo:Lo):FnE:=Zfe 139 true (Zsg [0,1] [.l Zc3,.ag [.i .u32,.i .u32]] []) .b [] (fun x=>q11 lo x.1 x.2.1 x.2.2:Zt2×Int×Int->Option Bool)
def fs12(lo:Lo):List FnE:=Yj0 lo::fs11 lo
theorem Yqw(h:GZ P fm fs11 lo)(t:Ti P fm 139 Yqv):GZ P fm fs12 lo:=
  h.p (Yj0 lo) .n t
def q12(lo:Lo)(rule1:Int)(lhs2:Int)(rhs3:Int):Option (Int×Zt0):=
  chk (([(rule1,([]:List Int),lhs2,rhs3)]).length<=maxEl) (some ((Yya .i64 ((([(rule1,([]:List Int),lhs2,rhs3)]).length:Int)-(1:Int))),[(rule1,([]:List Int),lhs2,rhs3)]))
def Yqx:VFn:=⟨true,32,[.t 10],
 (Rg [oK 10 0]
 (Rg [oM 11 0,oM 12 0,o 13 (.nilc 12),oF 14 0 13,oL 15 14,oM 16 1,oM 17 4,oM 18 2,oM 19 3,o 20 (.build [.i .u32 0,.i .u32 0] [(0,1,18),(1,1,19)]),o 21 (.build [.i .i64 0,.e (cs [I]),.i .u32 0,.i .u32 0] [(0,1,16),(1,1,17),(2,2,20)]),o 22 (.bsl Zc1 1 [(0,21)]),o 23 (.app Zc1 0 15 22),o 24 (.nilc 11),oF 25 0 24,oS 1 25 23]
 (Rg [oM 26 0,o 27 (.nilc 26),oF 28 0 27,oL 29 28,oN 30 29,oR 31 .sub 30 (k 1),oM 10 31]
 (.ow [(0,some 0,false)] .ret))))⟩
def Yj1(lo:Lo):FnE:=Zfe 140 false (Zsg [0,1,2,3,4] [.ptr 0 0 0,.j,.i .u32,.i .u32,.e (cs [I])] [.st [.e Zc1]]) (.i .i64) [.st [.ref 1],.sq Zc1] (fun x=>q12 lo x.1 x.2.1 x.2.2:Int×Int×Int->Option (Int×Zt0))
def fs13(lo:Lo):List FnE:=Yj1 lo::fs12 lo
theorem Yqy(h:GZ P fm fs12 lo)(t:Ti P fm 140 Yqx):GZ P fm fs13 lo:=
  h.i (Yj1 lo) .n t
def q13_L3_b:VCode:=
 (Rg [oR 10 .lss 9 8]
 (.seq (Ce 10 0)
 (.seq (.blk 1 (Rg [oM 11 9,oI 12 2 7 9,oT 13 2 12,o 6 (.alloc [.i .u32 0,.i .u32 0]),oM 5 11,oS 2 6 13]
 (Rg [oF 14 0 6,oL 15 14,oM 16 1,oR 17 .andNot 15 16,oR 18 .eql 17 (ki .u32 0),oM 19 18,gT 20 19 (.fad 1 6),gT 21 19 (.load false 1 20),gT 22 19 (.mv 1),gT 23 19 (.bin .andNot 21 22),gT 24 19 (.bin .neq 23 (ki .u32 0)),oP 25 19 24 (kb false)]
 (.cond 25 (Rg [oM 26 5,oM 4 26]
 (Fr 4))
 .skip))))
 (.reg [oR 27 .add 9 (k 1),oM 9 27]))))
def Yj2(lo:Lo):Int×Zt2×Int×Int->Option ((Int×Zt2×Int×Int)⊕ (Int⊕Unit)):=fun x=>match x with
  | (s1,v7,v8,v9)=>bif(decide (v9<v8))then(chk (0<=v9/\v9< (v7.length:Int)) (bif(decide ((bits .andNot .u32 ((v7.getD v9.toNat ((0:Int),(0:Int))).1) s1)=(0:Int)))then(bif(!decide ((bits .andNot .u32 ((v7.getD v9.toNat ((0:Int),(0:Int))).2) s1)=(0:Int)))then(some (.inr (.inl v9)))else(some (.inl (s1,v7,v8,(Yya .i64 (v9+1))))))else(some (.inl (s1,v7,v8,(Yya .i64 (v9+1)))))))else(some (.inr (.inr ())))
def Yj3(lo:Lo):Int×Zt2×Int×Int->Option (Int⊕Unit):=lo.run (Yj2 lo)
def Yqz(lo:Lo):LpE:=⟨3,[],(Zsg [1,7,8,9] [.i .u32,.l Zc3,.j,.j] []),[⟨.ret,(Zsg [4] [.j] [])⟩,⟨.exit 0,(Zsg [] [] [])⟩],Yj3 lo⟩
def YqA(lo:Lo):LL:=(Yqz lo,.loop q13_L3_b.er)::[]
theorem YqB(lo:Lo):Lk lo pf (fs13 lo) 0 (YqA lo):=.l .n (Yj2 lo)
def q13(lo:Lo)(fds0:List (Int×Int))(s1:Int):Option Int:=
  YxU (Yj3 lo (s1,fds0,(fds0.length:Int),(0:Int))) fun y34=>alt2 y34 (fun y35=>some y35) (fun y36=>some (-1:Int))
def YqC:VFn:=⟨true,28,[.t 4],
 (Rg [oK 4 0]
 (.seq (Rg [oM 7 0,oN 8 7,oK 9 0]
 (.blk 0 (.loop 3 q13_L3_b)))
 (Rg [oK 4 (-1)]
 (Fr 4))))⟩
def Yj4(lo:Lo):FnE:=Zfe 161 true (Zsg [0,1] [.l Zc3,.i .u32] []) (.i .i64) [] (fun x=>q13 lo x.1 x.2:Zt2×Int->Option Int)
def fs14(lo:Lo):List FnE:=Yj4 lo::fs13 lo
theorem YqD(h:GZ P fm fs13 lo)(t:Ti P fm 161 YqC):GZ P fm fs14 lo:=
  h.p (Yj4 lo) (YqB lo) t
def q14_L3_b:VCode:=
 (.seq (Rg [oM 10 6,oR 11 .geq 10 (k 0)]
 (Ce 11 0))
 (.seq (.blk 1 (Rg [oM 15 1,oM 16 0,oM 17 6,oI 18 2 16 17,oF 19 1 18,oL 20 19,oR 21 .or 15 20,oM 1 21]
 (.reg [oM 22 5,oM 23 6,o 24 (.bsl (cs [I]) 1 [(0,23)]),o 25 (.app (cs [I]) 0 22 24),oM 5 25])))
 (.reg [oM 12 0,oM 13 1,oC 14 161 [12,13],oM 6 14])))
def Yj5(lo:Lo):Zt2×Int×Int× (List Int)->Option ((Zt2×Int×Int× (List Int))⊕ (((List Int)))):=fun x=>match x with
  | (fds0,s1,i6,out5)=>bif(decide (0<=i6))then(chk (0<=i6/\i6< (fds0.length:Int)) (chk (out5.length+[i6].length<=maxEl) (YxU (q13 lo fds0 (bits .or .u32 s1 ((fds0.getD i6.toNat ((0:Int),(0:Int))).2))) fun y38=>some (.inl (fds0,(bits .or .u32 s1 ((fds0.getD i6.toNat ((0:Int),(0:Int))).2)),y38,(out5++[i6]))))))else(some (.inr out5))
def Yj6(lo:Lo):Zt2×Int×Int× (List Int)->Option (((List Int))):=lo.run (Yj5 lo)
def YqE(lo:Lo):LpE:=⟨3,[(5,none,false)],(Zsg [0,1,5,6] [.l Zc3,.i .u32,.ref 0,.j] [.sq (cs [I])]),[⟨.exit 0,(Zsg [5] [.ref 0] [.sq (cs [I])])⟩],Yj6 lo⟩
def YqF(lo:Lo):LL:=(YqE lo,.loop q14_L3_b.er)::[]
theorem YqG(lo:Lo):Lk lo pf (fs14 lo) 0 (YqF lo):=.l .n (Yj5 lo)
def q14(lo:Lo)(fds0:List (Int×Int))(s1:Int):Option ((List Int)):=
  YxU (q13 lo fds0 s1) fun y37=>YxU (Yj6 lo (fds0,s1,y37,[])) fun y39=>some y39
def YqH:VFn:=⟨true,27,[.t 4],
 (Rg [o 4 (.mv (ke (cs [I])))]
 (Rg [o 5 (.mv (ke (cs [I])))]
 (.seq (Rg [oM 7 0,oM 8 1,oC 9 161 [7,8],oM 6 9]
 (.blk 0 (.loop 3 q14_L3_b)))
 (Rg [oM 26 5,oM 4 26]
 (Fr 4)))))⟩
def Yj7(lo:Lo):FnE:=Zfe 141 true (Zsg [0,1] [.l Zc3,.i .u32] []) (.l (cs [I])) [] (fun x=>q14 lo x.1 x.2:Zt2×Int->Option ((List Int)))
def fs15(lo:Lo):List FnE:=Yj7 lo::fs14 lo
theorem YqI(h:GZ P fm fs14 lo)(t:Ti P fm 141 YqH):GZ P fm fs15 lo:=
  h.p (Yj7 lo) (YqG lo) t
def q15(lo:Lo)(rule1:Int)(lhs2:Int)(rhs3:Int)(from4:List Int)(h1:List (Int× (List Int)×Int×Int)):Option (Int×Zt0):=
  chk (h1.length+([(rule1,from4,lhs2,rhs3)]).length<=maxEl) (some ((Yya .i64 (((h1++([(rule1,from4,lhs2,rhs3)])).length:Int)-(1:Int))),(h1++([(rule1,from4,lhs2,rhs3)]))))
def YqJ:VFn:=⟨true,32,[.t 10],
 (Rg [oK 10 0]
 (Rg [oM 11 0,oM 12 0,o 13 (.nilc 12),oF 14 0 13,oL 15 14,oM 16 1,oM 17 4,oM 18 2,oM 19 3,o 20 (.build [.i .u32 0,.i .u32 0] [(0,1,18),(1,1,19)]),o 21 (.build [.i .i64 0,.e (cs [I]),.i .u32 0,.i .u32 0] [(0,1,16),(1,1,17),(2,2,20)]),o 22 (.bsl Zc1 1 [(0,21)]),o 23 (.app Zc1 0 15 22),o 24 (.nilc 11),oF 25 0 24,oS 1 25 23]
 (Rg [oM 26 0,o 27 (.nilc 26),oF 28 0 27,oL 29 28,oN 30 29,oR 31 .sub 30 (k 1),oM 10 31]
 (.ow [(0,some 0,false)] .ret))))⟩
def Yj8(lo:Lo):FnE:=Zfe 140 false (Zsg [0,1,2,3,4] [.ptr 0 0 0,.j,.i .u32,.i .u32,.l (cs [I])] [.st [.ref 1],.sq Zc1]) (.i .i64) [.st [.ref 2],.dd,.sq Zc1] (fun x=>q15 lo x.1 x.2.1 x.2.2.1 x.2.2.2.1 x.2.2.2.2:Int×Int×Int× (List Int)×Zt0->Option (Int×Zt0))
def fs16(lo:Lo):List FnE:=Yj8 lo::fs15 lo
theorem YqK(h:GZ P fm fs15 lo)(t:Ti P fm 140 YqJ):GZ P fm fs16 lo:=
  h.i (Yj8 lo) .n t
def q16(lo:Lo)(rule1:Int)(lhs2:Int)(rhs3:Int)(h1:List (Int× (List Int)×Int×Int)):Option (Int×Zt0):=
  chk (h1.length+([(rule1,([]:List Int),lhs2,rhs3)]).length<=maxEl) (some ((Yya .i64 (((h1++([(rule1,([]:List Int),lhs2,rhs3)])).length:Int)-(1:Int))),(h1++([(rule1,([]:List Int),lhs2,rhs3)]))))
def YqL:VFn:=⟨true,32,[.t 10],
 (Rg [oK 10 0]
 (Rg [oM 11 0,oM 12 0,o 13 (.nilc 12),oF 14 0 13,oL 15 14,oM 16 1,oM 17 4,oM 18 2,oM 19 3,o 20 (.build [.i .u32 0,.i .u32 0] [(0,1,18),(1,1,19)]),o 21 (.build [.i .i64 0,.e (cs [I]),.i .u32 0,.i .u32 0] [(0,1,16),(1,1,17),(2,2,20)]),o 22 (.bsl Zc1 1 [(0,21)]),o 23 (.app Zc1 0 15 22),o 24 (.nilc 11),oF 25 0 24,oS 1 25 23]
 (Rg [oM 26 0,o 27 (.nilc 26),oF 28 0 27,oL 29 28,oN 30 29,oR 31 .sub 30 (k 1),oM 10 31]
 (.ow [(0,some 0,false)] .ret))))⟩
def Yj9(lo:Lo):FnE:=Zfe 140 false (Zsg [0,1,2,3,4] [.ptr 0 0 0,.j,.i .u32,.i .u32,.e (cs [I])] [.st [.ref 1],.sq Zc1]) (.i .i64) [.st [.ref 2],.dd,.sq Zc1] (fun x=>q16 lo x.1 x.2.1 x.2.2.1 x.2.2.2:Int×Int×Int×Zt0->Option (Int×Zt0))
def fs17(lo:Lo):List FnE:=Yj9 lo::fs16 lo
theorem YqM(h:GZ P fm fs16 lo)(t:Ti P fm 140 YqL):GZ P fm fs17 lo:=
  h.i (Yj9 lo) .n t
end Go.Abs.G12
namespace Go.Abs.G12
open Go Go.Abs
set_option maxRecDepth 100000
set_option maxHeartbeats 1000000
variable{P:Program}{fm:FM}{lo:Lo}
def q17_L5_b:VCode:=
 (Rg [oR 48 .lss 47 46]
 (.seq (Ce 48 0)
 (.seq (.blk 1 (Rg [oI 49 1 45 47,oL 50 49,oM 13 50]
 (Rg [oM 51 1,oM 52 13,oI 53 2 51 52,oT 54 2 53,o 14 (.alloc [.i .u32 0,.i .u32 0]),oS 2 14 54]
 (Rg [oF 55 0 14,oL 56 55,oF 57 1 14,oL 58 57,oM 59 13,o 60 (.bsl (cs [I]) 1 [(0,59)]),oC 61 140 [9,(k 1),56,58,60],oM 15 61]
 (Rg [oM 62 10,oM 63 10,oF 64 1 14,oL 65 64,oR 66 .or 63 65,oM 67 15,o 68 (.bsl (cs [I]) 1 [(0,67)]),oC 69 140 [9,(k 3),62,66,68],oM 16 69]
 (Rg [oM 70 10,oF 71 1 14,oL 72 71,oR 73 .or 70 72,oM 10 73]
 (.reg [oF 74 0 5,oL 75 74,oM 76 10,oM 77 11,oM 78 16,o 79 (.bsl (cs [I]) 2 [(0,77),(1,78)]),oC 80 140 [9,(k 4),75,76,79],oM 11 80])))))))
 (.reg [oR 81 .add 47 (k 1),oM 47 81]))))
def Yka(lo:Lo):Zp8->Option (Zp8⊕ ((Int×Int×Int×Int×Zt0))):=fun x=>match x with
  | (fds1,now10,last11,v45,v46,v47,goal5_0,goal5_1,h2)=>bif(decide (v47<v46))then(chk (0<=v47/\v47< (v45.length:Int)) (chk (0<=(v45.getD v47.toNat (0:Int))/\ (v45.getD v47.toNat (0:Int))< (fds1.length:Int)) (YxU (q15 lo (1:Int) ((fds1.getD ((v45.getD v47.toNat (0:Int)).toNat) ((0:Int),(0:Int))).1) ((fds1.getD ((v45.getD v47.toNat (0:Int)).toNat) ((0:Int),(0:Int))).2) ([(v45.getD v47.toNat (0:Int))]) h2) fun y41=>YxU (q15 lo (3:Int) now10 (bits .or .u32 now10 ((fds1.getD ((v45.getD v47.toNat (0:Int)).toNat) ((0:Int),(0:Int))).2)) [y41.1] y41.2) fun y42=>YxU (q15 lo (4:Int) goal5_0 (bits .or .u32 now10 ((fds1.getD ((v45.getD v47.toNat (0:Int)).toNat) ((0:Int),(0:Int))).2)) ([last11,y42.1]) y42.2) fun y43=>some (.inl (fds1,(bits .or .u32 now10 ((fds1.getD ((v45.getD v47.toNat (0:Int)).toNat) ((0:Int),(0:Int))).2)),y43.1,v45,v46,(Yya .i64 (v47+1)),goal5_0,goal5_1,y43.2)))))else(some (.inr (now10,last11,goal5_0,goal5_1,h2)))
def Ykb(lo:Lo):Zp8->Option ((Int×Int×Int×Int×Zt0)):=lo.run (Yka lo)
def YqN(lo:Lo):LpE:=⟨5,[],(Zsg [1,5,9,10,11,45,46,47] [.l Zc3,.ptr 0 0 0,.ptr 1 0 0,.i .u32,.j,.l (cs [I]),.j,.j] [.st [.i .u32,.i .u32],.st [.ref 2],.sq Zc1]),[⟨.exit 0,(Zsg [5,9,10,11] [.ptr 0 0 0,.ptr 1 0 0,.i .u32,.j] [.st [.i .u32,.i .u32],.st [.ref 2],.sq Zc1])⟩],Ykb lo⟩
def YqO(lo:Lo):LL:=(YqN lo,.loop q17_L5_b.er)::[]
theorem YqP(lo:Lo):Lk lo pf (fs17 lo) 0 (YqO lo):=.l .n (Yka lo)
def q17(lo:Lo)(n0:Int)(fds1:List (Int×Int))(goal2_0:Int)(goal2_1:Int):Option (Zt0×Int):=
  YxU (q4 lo n0 fds1) fun y26=>bif(!decide (y26=0))then(some (([]:List (Int× (List Int)×Int×Int)),y26))else(YxU (q5 lo n0) fun y27=>YxU (q6 lo (bits .or .u32 goal2_0 goal2_1) y27) fun y28=>bif(!y28)then(some (([]:List (Int× (List Int)×Int×Int)),(1:Int)))else(YxU (q11 lo fds1 goal2_0 goal2_1) fun y32=>bif(!y32)then(some (([]:List (Int× (List Int)×Int×Int)),(11:Int)))else(YxU (q12 lo (2:Int) goal2_0 goal2_0) fun y33=>YxU (q14 lo fds1 goal2_0) fun y40=>YxU (Ykb lo (fds1,goal2_0,y33.1,y40,(y40.length:Int),(0:Int),goal2_0,goal2_1,y33.2)) fun y44=>YxU (q16 lo (2:Int) y44.1 y44.2.2.2.1 y44.2.2.2.2) fun y45=>YxU (q15 lo (4:Int) y44.2.2.1 y44.2.2.2.1 ([y44.2.1,y45.1]) y45.2) fun y46=>some (y46.2,(0:Int)))))
def YqQ:VFn:=⟨true,96,[.t 6,.t 7],
 (Rg [oG 5 2,o 6 (.mv (ke Zc1)),oK 7 0]
 (.seq (Rg [oM 18 0,oM 19 1,oC 20 132 [18,19],oM 8 20]
 (Rg [oM 21 8,oR 22 .neq 21 (k 0)]
 (.cond 22 (Rg [oM 23 8,o 6 (.mv (ke Zc1)),oM 7 23]
 (.fz [6,7] .ret))
 .skip)))
 (.seq (Rg [oF 24 0 5,oL 25 24,oF 26 1 5,oL 27 26,oR 28 .or 25 27,oM 29 0,oC 30 138 [29],oC 31 137 [28,30],oX 32 31]
 (.cond 32 (Rg [o 6 (.mv (ke Zc1)),oK 7 1]
 (.fz [6,7] .ret))
 .skip))
 (.seq (Rg [oM 33 1,oT 34 2 5,oC 35 139 [33,34],oX 36 35]
 (.cond 36 (Rg [o 6 (.mv (ke Zc1)),oK 7 11]
 (.fz [6,7] .ret))
 .skip))
 (Rg [o 9 (.alloc [.e Zc1])]
 (Rg [oF 37 0 5,oL 38 37,oM 10 38]
 (Rg [oM 39 10,oM 40 10,oC 41 140 [9,(k 2),39,40,(ke (cs [I]))],oM 11 41]
 (.seq (Rg [oM 42 1,oF 43 0 5,oL 44 43,oC 45 141 [42,44],oN 46 45,oK 47 0]
 (.blk 0 (.loop 5 q17_L5_b)))
 (Rg [oM 82 10,oF 83 1 5,oL 84 83,oC 85 140 [9,(k 2),82,84,(ke (cs [I]))],oM 17 85]
 (Rg [oF 86 0 5,oL 87 86,oF 88 1 5,oL 89 88,oM 90 11,oM 91 17,o 92 (.bsl (cs [I]) 2 [(0,90),(1,91)]),oC 93 140 [9,(k 4),87,89,92]]
 (Rg [oF 94 0 9,oL 95 94,oM 6 95,oK 7 0]
 (.fz [6,7] .ret))))))))))))⟩
def Ykc(lo:Lo):FnE:=Zfe 116 true (Zsg [0,1,2] [.j,.l Zc3,.ag [.i .u32,.i .u32]] []) (.tp [.l Zc1,.j]) [] (fun x=>q17 lo x.1 x.2.1 x.2.2.1 x.2.2.2:Int×Zt2×Int×Int->Option (Zt0×Int))
def fs18(lo:Lo):List FnE:=Ykc lo::fs17 lo
theorem YqR(h:GZ P fm fs17 lo)(t:Ti P fm 116 YqQ):GZ P fm fs18 lo:=
  h.p (Ykc lo) (YqP lo) t
def q18(lo:Lo)(a0:Int)(b1:Int):Option Bool:=
  some (decide ((bits .and .u32 a0 b1)=a0))
def YqS:VFn:=⟨true,10,[.t 4],
 (Rg [oB 4 false]
 (Rg [oM 5 0,oM 6 1,oR 7 .and 5 6,oM 8 0,oR 9 .eql 7 8,oM 4 9]
 (Fr 4)))⟩
def Ykd(lo:Lo):FnE:=Zfe 136 true (Zsg [0,1] [.i .u32,.i .u32] []) .b [] (fun x=>q18 lo x.1 x.2:Int×Int->Option Bool)
def fs19(lo:Lo):List FnE:=Ykd lo::fs18 lo
theorem YqT(h:GZ P fm fs18 lo)(t:Ti P fm 136 YqS):GZ P fm fs19 lo:=
  h.p (Ykd lo) .n t
def q19_L3_b:VCode:=
 (.seq (Rg [oM 18 6,oM 19 1,oN 20 19,oR 21 .lss 18 20]
 (Ce 21 0))
 (.seq (.blk 1 (Rg [oM 24 1,oM 25 6,oI 26 2 24 25,oF 27 0 26,oL 28 27,oM 29 5,oC 30 136 [28,29],oX 31 30,oM 32 31,gF 33 32 (.mv 1),gF 34 32 (.mv 6),gF 35 32 (.iad 2 33 34),gF 36 32 (.fad 1 35),gF 37 32 (.load false 1 36),gF 38 32 (.mv 5),gF 39 32 (.call 136 [37,38]),gF 40 32 (.not 39),oP 41 32 (kb true) 40]
 (.cond 41 (Rg [oK 4 1]
 (Fr 4))
 .skip)))
 (.reg [oM 22 6,oR 23 .add 22 (k 1),oM 6 23])))
def Yke(lo:Lo):Zt2×Int×Int->Option ((Zt2×Int×Int)⊕ (Int⊕Unit)):=fun x=>match x with
  | (fds1,all5,i6)=>bif(decide (i6< (fds1.length:Int)))then(chk (0<=i6/\i6< (fds1.length:Int)) (YxU (q18 lo ((fds1.getD i6.toNat ((0:Int),(0:Int))).1) all5) fun y49=>bif(!y49)then(some (.inr (.inl (1:Int))))else(chk (0<=i6/\i6< (fds1.length:Int)) (YxU (q18 lo ((fds1.getD i6.toNat ((0:Int),(0:Int))).2) all5) fun y50=>bif(!y50)then(some (.inr (.inl (1:Int))))else(some (.inl (fds1,all5,(Yya .i64 (i6+1)))))))))else(some (.inr (.inr ())))
def Ykf(lo:Lo):Zt2×Int×Int->Option (Int⊕Unit):=lo.run (Yke lo)
def YqU(lo:Lo):LpE:=⟨3,[],(Zsg [1,5,6] [.l Zc3,.i .u32,.j] []),[⟨.ret,(Zsg [4] [.j] [])⟩,⟨.exit 0,(Zsg [] [] [])⟩],Ykf lo⟩
def YqV(lo:Lo):LL:=(YqU lo,.loop q19_L3_b.er)::[]
theorem YqW(lo:Lo):Lk lo pf (fs19 lo) 0 (YqV lo):=.l .n (Yke lo)
def q19(lo:Lo)(n0:Int)(fds1:List (Int×Int)):Option Int:=
  bif(decide (n0<0))then(some (7:Int))else(bif(decide (16<n0))then(some (7:Int))else(bif(decide ((64:Int)< (fds1.length:Int)))then(some (3:Int))else(YxU (q0 lo n0) fun y48=>YxU (Ykf lo (fds1,y48,(0:Int))) fun y51=>alt2 y51 (fun y52=>some y52) (fun y53=>some (0:Int)))))
def YqX:VFn:=⟨true,42,[.t 4],
 (Rg [oK 4 0]
 (.seq (Rg [oM 7 0,oR 8 .lss 7 (k 0),oM 9 8,gF 10 9 (.mv 0),gF 11 9 (.bin .gtr 10 (k 16)),oP 12 9 (kb true) 11]
 (.cond 12 (Rg [oK 4 7]
 (Fr 4))
 .skip))
 (.seq (Rg [oM 13 1,oN 14 13,oR 15 .gtr 14 (k 64)]
 (.cond 15 (Rg [oK 4 3]
 (Fr 4))
 .skip))
 (Rg [oM 16 0,oC 17 118 [16],oM 5 17]
 (.seq (Rg [oK 6 0]
 (.blk 0 (.loop 3 q19_L3_b)))
 (Rg [oK 4 0]
 (Fr 4)))))))⟩
def Ykg(lo:Lo):FnE:=Zfe 134 true (Zsg [0,1] [.j,.l Zc3] []) (.i .i64) [] (fun x=>q19 lo x.1 x.2:Int×Zt2->Option Int)
def fs20(lo:Lo):List FnE:=Ykg lo::fs19 lo
theorem YqY(h:GZ P fm fs19 lo)(t:Ti P fm 134 YqX):GZ P fm fs20 lo:=
  h.p (Ykg lo) (YqW lo) t
def q20_L3_b:VCode:=
 (.seq (Rg [oM 18 8,oM 19 2,oR 20 .lss 18 19]
 (Ce 20 0))
 (.seq (.blk 1 (Rg [oM 23 7,oM 24 8,oI 25 1 23 24,oL 26 25,oR 27 .lss 26 (k 0),oM 28 27,gF 29 28 (.mv 7),gF 30 28 (.mv 8),gF 31 28 (.iad 1 29 30),gF 32 28 (.load false 1 31),gF 33 28 (.mv 1),gF 34 28 (.bin .geq 32 33),oP 35 28 (kb true) 34]
 (.cond 35 (Rg [oB 6 false]
 (Fr 6))
 .skip)))
 (.reg [oM 21 8,oR 22 .add 21 (k 1),oM 8 22])))
def Ykh(lo:Lo):Int×Int× (List Int)×Int->Option ((Int×Int× (List Int)×Int)⊕ (Bool⊕Unit)):=fun x=>match x with
  | (i1,count2,f7,k8)=>bif(decide (k8<count2))then(chk (0<=k8/\k8< (f7.length:Int)) (bif(decide ((f7.getD k8.toNat (0:Int))< (0:Int)))then(some (.inr (.inl false)))else(chk (0<=k8/\k8< (f7.length:Int)) (bif(decide (i1<=(f7.getD k8.toNat (0:Int))))then(some (.inr (.inl false)))else(some (.inl (i1,count2,f7,(Yya .i64 (k8+1)))))))))else(some (.inr (.inr ())))
def Yki(lo:Lo):Int×Int× (List Int)×Int->Option (Bool⊕Unit):=lo.run (Ykh lo)
def YqZ(lo:Lo):LpE:=⟨3,[],(Zsg [1,2,7,8] [.j,.j,.l (cs [I]),.j] []),[⟨.ret,(Zsg [6] [.b] [])⟩,⟨.exit 0,(Zsg [] [] [])⟩],Yki lo⟩
def Yq0(lo:Lo):LL:=(YqZ lo,.loop q20_L3_b.er)::[]
theorem Yq1(lo:Lo):Lk lo pf (fs20 lo) 0 (Yq0 lo):=.l .n (Ykh lo)
def q20(lo:Lo)(steps0:List (Int× (List Int)×Int×Int))(i1:Int)(count2:Int):Option Bool:=
  chk (0<=i1/\i1< (steps0.length:Int)) (bif(!decide ((((steps0.getD i1.toNat ((0:Int),[],(0:Int),(0:Int))).2.1).length:Int)=count2))then(some false)else(YxU (Yki lo (i1,count2,(steps0.getD i1.toNat ((0:Int),[],(0:Int),(0:Int))).2.1,(0:Int))) fun y59=>alt2 y59 (fun y60=>some y60) (fun y61=>some true)))
def Yq2:VFn:=⟨true,36,[.t 6],
 (Rg [oB 6 false]
 (Rg [oM 9 0,oM 10 1,oI 11 4 9 10,oF 12 1 11,oL 13 12,oM 7 13]
 (.seq (Rg [oM 14 7,oN 15 14,oM 16 2,oR 17 .neq 15 16]
 (.cond 17 (Rg [oB 6 false]
 (Fr 6))
 .skip))
 (.seq (Rg [oK 8 0]
 (.blk 0 (.loop 3 q20_L3_b)))
 (Rg [oB 6 true]
 (Fr 6))))))⟩
def Ykj(lo:Lo):FnE:=Zfe 159 true (Zsg [0,1,2] [.l Zc1,.j,.j] []) .b [] (fun x=>q20 lo x.1 x.2.1 x.2.2:Zt0×Int×Int->Option Bool)
def fs21(lo:Lo):List FnE:=Ykj lo::fs20 lo
theorem Yq3(h:GZ P fm fs20 lo)(t:Ti P fm 159 Yq2):GZ P fm fs21 lo:=
  h.p (Ykj lo) (Yq1 lo) t
def q21_L9_b:VCode:=
 (.seq (Rg [oM 100 12,oF 101 2 9,oF 102 0 101,oL 103 102,oR 104 .leq 100 103]
 (Ce 104 1))
 (.seq (.blk 2 (Rg [oF 107 0 11,oL 108 107,oM 109 12,oR 110 .or 108 109,oF 111 2 9,oF 112 0 111,oL 113 112,oR 114 .eql 110 113,oM 115 114,gT 116 115 (.fad 1 11),gT 117 115 (.load false 1 116),gT 118 115 (.mv 12),gT 119 115 (.bin .or 117 118),gT 120 115 (.fad 2 9),gT 121 115 (.fad 1 120),gT 122 115 (.load false 1 121),gT 123 115 (.bin .eql 119 122),oP 124 115 123 (kb false)]
 (.cond 124 (Rg [oB 8 true]
 (Fr 8))
 .skip)))
 (.reg [oM 105 12,oR 106 .add 105 (ki .u32 1),oM 12 106])))
def Ykk(lo:Lo):Zp10->Option (Zp10⊕ (Bool⊕Unit)):=fun x=>match x with
  | (z12,d9_0,d9_1,d9_2,d9_3,from11_0,from11_1)=>bif(decide (z12<=d9_2))then(bif(decide ((bits .or .u32 from11_0 z12)=d9_2))then(bif(decide ((bits .or .u32 from11_1 z12)=d9_3))then(some (.inr (.inl true)))else(some (.inl ((Yya .u32 (z12+1)),d9_0,d9_1,d9_2,d9_3,from11_0,from11_1))))else(some (.inl ((Yya .u32 (z12+1)),d9_0,d9_1,d9_2,d9_3,from11_0,from11_1))))else(some (.inr (.inr ())))
def Ykl(lo:Lo):Zp10->Option (Bool⊕Unit):=lo.run (Ykk lo)
def Yq4(lo:Lo):LpE:=⟨9,[],(Zsg [9,11,12] [.ptr 0 0 0,.ptr 1 0 0,.i .u32] [.st [.j,.l (cs [I]),.i .u32,.i .u32],.st [.i .u32,.i .u32]]),[⟨.ret,(Zsg [8] [.b] [])⟩,⟨.exit 1,(Zsg [] [] [])⟩],Ykl lo⟩
def Yq5(lo:Lo):LL:=(Yq4 lo,.loop q21_L9_b.er)::[]
theorem Yq6(lo:Lo):Lk lo pf (fs21 lo) 0 (Yq5 lo):=.l .n (Ykk lo)
def q21(lo:Lo)(n0:Int)(fds1:List (Int×Int))(steps2:List (Int× (List Int)×Int×Int))(i3:Int):Option Bool:=
  chk (0<=i3/\i3< (steps2.length:Int)) (YxU (q0 lo n0) fun y55=>YxU (q18 lo ((steps2.getD i3.toNat ((0:Int),[],(0:Int),(0:Int))).2.2.1) y55) fun y56=>bif(!y56)then(some false)else(YxU (q18 lo ((steps2.getD i3.toNat ((0:Int),[],(0:Int),(0:Int))).2.2.2) y55) fun y57=>bif(!y57)then(some false)else(bif(decide ((steps2.getD i3.toNat ((0:Int),[],(0:Int),(0:Int))).1=(1:Int)))then(bif(decide ((((steps2.getD i3.toNat ((0:Int),[],(0:Int),(0:Int))).2.1).length:Int)=(1:Int)))then(chk (0<=(0:Int)/\ (0:Int)< (((steps2.getD i3.toNat ((0:Int),[],(0:Int),(0:Int))).2.1).length:Int)) (bif(decide ((0:Int)<=(((steps2.getD i3.toNat ((0:Int),[],(0:Int),(0:Int))).2.1).getD 0 (0:Int))))then(chk (0<=(0:Int)/\ (0:Int)< (((steps2.getD i3.toNat ((0:Int),[],(0:Int),(0:Int))).2.1).length:Int)) (bif(decide ((((steps2.getD i3.toNat ((0:Int),[],(0:Int),(0:Int))).2.1).getD 0 (0:Int))< (fds1.length:Int)))then(chk (0<=(0:Int)/\ (0:Int)< (((steps2.getD i3.toNat ((0:Int),[],(0:Int),(0:Int))).2.1).length:Int)) (chk (0<=(((steps2.getD i3.toNat ((0:Int),[],(0:Int),(0:Int))).2.1).getD 0 (0:Int))/\ (((steps2.getD i3.toNat ((0:Int),[],(0:Int),(0:Int))).2.1).getD 0 (0:Int))< (fds1.length:Int)) (some ((decide ((fds1.getD ((((steps2.getD i3.toNat ((0:Int),[],(0:Int),(0:Int))).2.1).getD 0 (0:Int)).toNat) ((0:Int),(0:Int))).1=(steps2.getD i3.toNat ((0:Int),[],(0:Int),(0:Int))).2.2.1))&& ((decide ((fds1.getD ((((steps2.getD i3.toNat ((0:Int),[],(0:Int),(0:Int))).2.1).getD 0 (0:Int)).toNat) ((0:Int),(0:Int))).2=(steps2.getD i3.toNat ((0:Int),[],(0:Int),(0:Int))).2.2.2))&&true)))))else(some false)))else(some false)))else(some false))else(bif(decide ((steps2.getD i3.toNat ((0:Int),[],(0:Int),(0:Int))).1=(2:Int)))then(bif(decide ((((steps2.getD i3.toNat ((0:Int),[],(0:Int),(0:Int))).2.1).length:Int)=(0:Int)))then(YxU (q18 lo ((steps2.getD i3.toNat ((0:Int),[],(0:Int),(0:Int))).2.2.2) ((steps2.getD i3.toNat ((0:Int),[],(0:Int),(0:Int))).2.2.1)) fun y58=>some y58)else(some false))else(bif(decide ((steps2.getD i3.toNat ((0:Int),[],(0:Int),(0:Int))).1=(3:Int)))then(YxU (q20 lo steps2 i3 (1:Int)) fun y62=>bif(!y62)then(some false)else(chk (0<=(0:Int)/\ (0:Int)< (((steps2.getD i3.toNat ((0:Int),[],(0:Int),(0:Int))).2.1).length:Int)) (chk (0<=(((steps2.getD i3.toNat ((0:Int),[],(0:Int),(0:Int))).2.1).getD 0 (0:Int))/\ (((steps2.getD i3.toNat ((0:Int),[],(0:Int),(0:Int))).2.1).getD 0 (0:Int))< (steps2.length:Int)) (YxU (Ykl lo ((0:Int),(steps2.getD i3.toNat ((0:Int),[],(0:Int),(0:Int))).1,(steps2.getD i3.toNat ((0:Int),[],(0:Int),(0:Int))).2.1,(steps2.getD i3.toNat ((0:Int),[],(0:Int),(0:Int))).2.2.1,(steps2.getD i3.toNat ((0:Int),[],(0:Int),(0:Int))).2.2.2,(steps2.getD ((((steps2.getD i3.toNat ((0:Int),[],(0:Int),(0:Int))).2.1).getD 0 (0:Int)).toNat) ((0:Int),[],(0:Int),(0:Int))).2.2.1,(steps2.getD ((((steps2.getD i3.toNat ((0:Int),[],(0:Int),(0:Int))).2.1).getD 0 (0:Int)).toNat) ((0:Int),[],(0:Int),(0:Int))).2.2.2)) fun y63=>alt2 y63 (fun y64=>some y64) (fun y65=>some false)))))else(bif(decide ((steps2.getD i3.toNat ((0:Int),[],(0:Int),(0:Int))).1=(4:Int)))then(YxU (q20 lo steps2 i3 (2:Int)) fun y66=>bif(!y66)then(some false)else(chk (0<=(0:Int)/\ (0:Int)< (((steps2.getD i3.toNat ((0:Int),[],(0:Int),(0:Int))).2.1).length:Int)) (chk (0<=(((steps2.getD i3.toNat ((0:Int),[],(0:Int),(0:Int))).2.1).getD 0 (0:Int))/\ (((steps2.getD i3.toNat ((0:Int),[],(0:Int),(0:Int))).2.1).getD 0 (0:Int))< (steps2.length:Int)) (chk (0<=(1:Int)/\ (1:Int)< (((steps2.getD i3.toNat ((0:Int),[],(0:Int),(0:Int))).2.1).length:Int)) (chk (0<=(((steps2.getD i3.toNat ((0:Int),[],(0:Int),(0:Int))).2.1).getD 1 (0:Int))/\ (((steps2.getD i3.toNat ((0:Int),[],(0:Int),(0:Int))).2.1).getD 1 (0:Int))< (steps2.length:Int)) (bif(decide ((steps2.getD ((((steps2.getD i3.toNat ((0:Int),[],(0:Int),(0:Int))).2.1).getD 0 (0:Int)).toNat) ((0:Int),[],(0:Int),(0:Int))).2.2.2=(steps2.getD ((((steps2.getD i3.toNat ((0:Int),[],(0:Int),(0:Int))).2.1).getD 1 (0:Int)).toNat) ((0:Int),[],(0:Int),(0:Int))).2.2.1))then(bif(decide ((steps2.getD ((((steps2.getD i3.toNat ((0:Int),[],(0:Int),(0:Int))).2.1).getD 0 (0:Int)).toNat) ((0:Int),[],(0:Int),(0:Int))).2.2.1=(steps2.getD i3.toNat ((0:Int),[],(0:Int),(0:Int))).2.2.1))then(some (decide ((steps2.getD ((((steps2.getD i3.toNat ((0:Int),[],(0:Int),(0:Int))).2.1).getD 1 (0:Int)).toNat) ((0:Int),[],(0:Int),(0:Int))).2.2.2=(steps2.getD i3.toNat ((0:Int),[],(0:Int),(0:Int))).2.2.2)))else(some false))else(some false)))))))else(some false)))))))
def Yq7:VFn:=⟨true,168,[.t 8],
 (Rg [oB 8 false]
 (Rg [oM 15 2,oM 16 3,oI 17 4 15 16,oT 18 4 17,o 9 (.alloc [.i .i64 0,.e (cs [I]),.i .u32 0,.i .u32 0]),oS 4 9 18]
 (Rg [oM 19 0,oC 20 118 [19],oM 10 20]
 (.seq (Rg [oF 21 2 9,oF 22 0 21,oL 23 22,oM 24 10,oC 25 136 [23,24],oX 26 25,oM 27 26,gF 28 27 (.fad 2 9),gF 29 27 (.fad 1 28),gF 30 27 (.load false 1 29),gF 31 27 (.mv 10),gF 32 27 (.call 136 [30,31]),gF 33 27 (.not 32),oP 34 27 (kb true) 33]
 (.cond 34 (Rg [oB 8 false]
 (Fr 8))
 .skip))
 (.seq (Rg [oF 35 0 9,oL 36 35]
 (.blk 0 (Rg [oR 38 .eql 36 (k 1),oM 37 38]
 (.cond 37 (Rg [oF 39 1 9,oL 40 39,oN 41 40,oR 42 .eql 41 (k 1),oM 43 42,gT 44 43 (.fad 1 9),gT 45 43 (.load false 1 44),gT 46 43 (.iad 1 45 (k 0)),gT 47 43 (.load false 1 46),gT 48 43 (.bin .geq 47 (k 0)),oP 49 43 48 (kb false),oM 50 49,gT 51 50 (.fad 1 9),gT 52 50 (.load false 1 51),gT 53 50 (.iad 1 52 (k 0)),gT 54 50 (.load false 1 53),gT 55 50 (.mv 1),gT 56 50 (.len 55),gT 57 50 (.bin .lss 54 56),oP 58 50 57 (kb false),oM 59 58,gT 60 59 (.mv 1),gT 61 59 (.fad 1 9),gT 62 59 (.load false 1 61),gT 63 59 (.iad 1 62 (k 0)),gT 64 59 (.load false 1 63),gT 65 59 (.iad 2 60 64),gT 66 59 (.load true 2 65),gT 67 59 (.fad 2 9),gT 68 59 (.load true 2 67),gT 69 59 (.eqa false [1,1] 66 68),oP 70 59 69 (kb false),oM 8 70]
 (Fr 8))
 (Rg [oR 72 .eql 36 (k 2),oM 71 72]
 (.cond 71 (Rg [oF 73 1 9,oL 74 73,oN 75 74,oR 76 .eql 75 (k 0),oM 77 76,gT 78 77 (.fad 2 9),gT 79 77 (.fad 1 78),gT 80 77 (.load false 1 79),gT 81 77 (.fad 2 9),gT 82 77 (.fad 0 81),gT 83 77 (.load false 1 82),gT 84 77 (.call 136 [80,83]),oP 85 77 84 (kb false),oM 8 85]
 (Fr 8))
 (Rg [oR 87 .eql 36 (k 3),oM 86 87]
 (.cond 86 (.seq (Rg [oM 88 2,oM 89 3,oC 90 159 [88,89,(k 1)],oX 91 90]
 (.cond 91 (Rg [oB 8 false]
 (Fr 8))
 .skip))
 (Rg [oM 92 2,oF 93 1 9,oL 94 93,o 95 (.iad 1 94 (k 0)),oL 96 95,oI 97 4 92 96,oF 98 2 97,oT 99 2 98,o 11 (.alloc [.i .u32 0,.i .u32 0]),oS 2 11 99]
 (.seq (Rg [o 12 (.mv (ki .u32 0))]
 (.blk 1 (.loop 9 q21_L9_b)))
 (Rg [oB 8 false]
 (Fr 8)))))
 (Rg [oR 126 .eql 36 (k 4),oM 125 126]
 (.cond 125 (.seq (Rg [oM 127 2,oM 128 3,oC 129 159 [127,128,(k 2)],oX 130 129]
 (.cond 130 (Rg [oB 8 false]
 (Fr 8))
 .skip))
 (Rg [oM 131 2,oF 132 1 9,⟨some 133,.load false 1 132,none,true,false⟩,⟨some 134,.iad 1 133 (k 0),none,true,false⟩,⟨some 135,.load false 1 134,none,true,false⟩,⟨some 136,.iad 4 131 135,none,true,false⟩,oF 137 2 136,⟨some 138,.load true 2 137,none,true,false⟩,oM 139 2,oF 140 1 9,⟨some 141,.load false 1 140,none,true,false⟩,⟨some 142,.iad 1 141 (k 1),none,true,false⟩,⟨some 143,.load false 1 142,none,true,false⟩,⟨some 144,.iad 4 139 143,none,true,false⟩,oF 145 2 144,⟨some 146,.load true 2 145,none,true,false⟩,o 13 (.alloc [.i .u32 0,.i .u32 0]),o 14 (.alloc [.i .u32 0,.i .u32 0]),⟨none,.store 2 13 138,none,false,true⟩,oS 2 14 146]
 (Rg [oF 147 1 13,oL 148 147,oF 149 0 14,oL 150 149,oR 151 .eql 148 150,oM 152 151,gT 153 152 (.fad 0 13),gT 154 152 (.load false 1 153),gT 155 152 (.fad 2 9),gT 156 152 (.fad 0 155),gT 157 152 (.load false 1 156),gT 158 152 (.bin .eql 154 157),oP 159 152 158 (kb false),oM 160 159,gT 161 160 (.fad 1 14),gT 162 160 (.load false 1 161),gT 163 160 (.fad 2 9),gT 164 160 (.fad 1 163),gT 165 160 (.load false 1 164),gT 166 160 (.bin .eql 162 165),oP 167 160 166 (kb false),oM 8 167]
 (Fr 8))))
 .skip))))))))))
 (Rg [oB 8 false]
 (Fr 8)))))))⟩
def Ykm(lo:Lo):FnE:=Zfe 135 true (Zsg [0,1,2,3] [.j,.l Zc3,.l Zc1,.j] []) .b [] (fun x=>q21 lo x.1 x.2.1 x.2.2.1 x.2.2.2:Int×Zt2×Zt0×Int->Option Bool)
def fs22(lo:Lo):List FnE:=Ykm lo::fs21 lo
theorem Yq8(h:GZ P fm fs21 lo)(t:Ti P fm 135 Yq7):GZ P fm fs22 lo:=
  h.p (Ykm lo) (Yq6 lo) t
def q22_L3_b:VCode:=
 (.seq (Rg [oM 19 9,oM 20 2,oN 21 20,oR 22 .lss 19 21]
 (Ce 22 0))
 (.seq (.blk 1 (Rg [oM 25 0,oM 26 1,oM 27 2,oM 28 9,oC 29 135 [25,26,27,28],oX 30 29]
 (.cond 30 (Rg [oM 31 9,oM 6 31,oK 7 1]
 (.fz [6,7] .ret))
 .skip)))
 (.reg [oM 23 9,oR 24 .add 23 (k 1),oM 9 24])))
def Ykn(lo:Lo):Int×Zt2×Zt0×Int->Option ((Int×Zt2×Zt0×Int)⊕ ((Int×Int)⊕Unit)):=fun x=>match x with
  | (n0,fds1,steps2,i9)=>bif(decide (i9< (steps2.length:Int)))then(YxU (q21 lo n0 fds1 steps2 i9) fun y67=>bif(!y67)then(some (.inr (.inl (i9,(1:Int)))))else(some (.inl (n0,fds1,steps2,(Yya .i64 (i9+1))))))else(some (.inr (.inr ())))
def Yko(lo:Lo):Int×Zt2×Zt0×Int->Option ((Int×Int)⊕Unit):=lo.run (Ykn lo)
def Yq9(lo:Lo):LpE:=⟨3,[],(Zsg [0,1,2,9] [.j,.l Zc3,.l Zc1,.j] []),[⟨.ret,(Zsg [6,7] [.j,.j] [])⟩,⟨.exit 0,(Zsg [] [] [])⟩],Yko lo⟩
def Yra(lo:Lo):LL:=(Yq9 lo,.loop q22_L3_b.er)::[]
theorem Yrb(lo:Lo):Lk lo pf (fs22 lo) 0 (Yra lo):=.l .n (Ykn lo)
def q22(lo:Lo)(n0:Int)(fds1:List (Int×Int))(steps2:List (Int× (List Int)×Int×Int)):Option (Int×Int):=
  YxU (q19 lo n0 fds1) fun y54=>bif(!decide (y54=0))then(some ((0:Int),y54))else(bif(decide ((steps2.length:Int)=0))then(some ((0:Int),(12:Int)))else(YxU (Yko lo (n0,fds1,steps2,(0:Int))) fun y68=>alt2 y68 (fun y69=>some (y69.1,y69.2)) (fun y70=>some ((0:Int),(0:Int)))))
def Yrc:VFn:=⟨true,32,[.t 6,.t 7],
 (Rg [oK 6 0,oK 7 0]
 (.seq (Rg [oM 10 0,oM 11 1,oC 12 134 [10,11],oM 8 12]
 (Rg [oM 13 8,oR 14 .neq 13 (k 0)]
 (.cond 14 (Rg [oM 15 8,oK 6 0,oM 7 15]
 (.fz [6,7] .ret))
 .skip)))
 (.seq (Rg [oM 16 2,oN 17 16,oR 18 .eql 17 (k 0)]
 (.cond 18 (Rg [oK 6 0,oK 7 12]
 (.fz [6,7] .ret))
 .skip))
 (.seq (Rg [oK 9 0]
 (.blk 0 (.loop 3 q22_L3_b)))
 (Rg [oK 6 0,oK 7 0]
 (.fz [6,7] .ret))))))⟩
def Ykp(lo:Lo):FnE:=Zfe 112 true (Zsg [0,1,2] [.j,.l Zc3,.l Zc1] []) (.tp [.j,.j]) [] (fun x=>q22 lo x.1 x.2.1 x.2.2:Int×Zt2×Zt0->Option (Int×Int))
def fs23(lo:Lo):List FnE:=Ykp lo::fs22 lo
theorem Yrd(h:GZ P fm fs22 lo)(t:Ti P fm 112 Yrc):GZ P fm fs23 lo:=
  h.p (Ykp lo) (Yrb lo) t
def q23(lo:Lo)(n0:Int)(fds1:List (Int×Int))(steps2:List (Int× (List Int)×Int×Int))(goal3_0:Int)(goal3_1:Int):Option Bool:=
  YxU (q22 lo n0 fds1 steps2) fun y71=>bif(decide (y71.2=(0:Int)))then(chk (0<=(Yya .i64 ((steps2.length:Int)-1))/\ (Yya .i64 ((steps2.length:Int)-1))< (steps2.length:Int)) (some ((decide ((steps2.getD ((Yya .i64 ((steps2.length:Int)-1)).toNat) ((0:Int),[],(0:Int),(0:Int))).2.2.1=goal3_0))&& ((decide ((steps2.getD ((Yya .i64 ((steps2.length:Int)-1)).toNat) ((0:Int),[],(0:Int),(0:Int))).2.2.2=goal3_1))&&true))))else(some false)
def Yre:VFn:=⟨true,31,[.t 8],
 (Rg [oG 7 3,oB 8 false]
 (Rg [oM 12 0,oM 13 1,oM 14 2,oC 15 112 [12,13,14],oM 11 15,oE 16 11 0,oE 17 11 1,oM 9 16,oM 10 17]
 (Rg [oM 18 10,oR 19 .eql 18 (k 0),oM 20 19,gT 21 20 (.mv 2),gT 22 20 (.mv 2),gT 23 20 (.len 22),gT 24 20 (.bin .sub 23 (k 1)),gT 25 20 (.iad 4 21 24),gT 26 20 (.fad 2 25),gT 27 20 (.load true 2 26),gT 28 20 (.load true 2 7),gT 29 20 (.eqa false [1,1] 27 28),oP 30 20 29 (kb false),oM 8 30]
 (Fr 8))))⟩
def Ykq(lo:Lo):FnE:=Zfe 114 true (Zsg [0,1,2,3] [.j,.l Zc3,.l Zc1,.ag [.i .u32,.i .u32]] []) .b [] (fun x=>q23 lo x.1 x.2.1 x.2.2.1 x.2.2.2.1 x.2.2.2.2:Int×Zt2×Zt0×Int×Int->Option Bool)
def fs24(lo:Lo):List FnE:=Ykq lo::fs23 lo
theorem Yrf(h:GZ P fm fs23 lo)(t:Ti P fm 114 Yre):GZ P fm fs24 lo:=
  h.p (Ykq lo) .n t
def q24(lo:Lo)(n0:Int)(fds1:List (Int×Int))(steps2:List (Int× (List Int)×Int×Int))(goal3_0:Int)(goal3_1:Int):Option Bool:=
  YxU (q9 lo n0 fds1 steps2) fun y73=>bif(decide (y73.2=(0:Int)))then(chk (0<=(Yya .i64 ((steps2.length:Int)-1))/\ (Yya .i64 ((steps2.length:Int)-1))< (steps2.length:Int)) (some ((decide ((steps2.getD ((Yya .i64 ((steps2.length:Int)-1)).toNat) ((0:Int),[],(0:Int),(0:Int))).2.2.1=goal3_0))&& ((decide ((steps2.getD ((Yya .i64 ((steps2.length:Int)-1)).toNat) ((0:Int),[],(0:Int),(0:Int))).2.2.2=goal3_1))&&true))))else(some false)
def Yrg:VFn:=⟨true,31,[.t 8],
 (Rg [oG 7 3,oB 8 false]
 (Rg [oM 12 0,oM 13 1,oM 14 2,oC 15 111 [12,13,14],oM 11 15,oE 16 11 0,oE 17 11 1,oM 9 16,oM 10 17]
 (Rg [oM 18 10,oR 19 .eql 18 (k 0),oM 20 19,gT 21 20 (.mv 2),gT 22 20 (.mv 2),gT 23 20 (.len 22),gT 24 20 (.bin .sub 23 (k 1)),gT 25 20 (.iad 4 21 24),gT 26 20 (.fad 2 25),gT 27 20 (.load true 2 26),gT 28 20 (.load true 2 7),gT 29 20 (.eqa false [1,1] 27 28),oP 30 20 29 (kb false),oM 8 30]
 (Fr 8))))⟩
def Ykr(lo:Lo):FnE:=Zfe 113 true (Zsg [0,1,2,3] [.j,.l Zc3,.l Zc1,.ag [.i .u32,.i .u32]] []) .b [] (fun x=>q24 lo x.1 x.2.1 x.2.2.1 x.2.2.2.1 x.2.2.2.2:Int×Zt2×Zt0×Int×Int->Option Bool)
def fs25(lo:Lo):List FnE:=Ykr lo::fs24 lo
theorem Yrh(h:GZ P fm fs24 lo)(t:Ti P fm 113 Yrg):GZ P fm fs25 lo:=
  h.p (Ykr lo) .n t
def q25(lo:Lo)(n:Int):Option ByteArray:=YvF n
def Yri(lo:Lo):FnE:=vitoaE 165
def fs26(lo:Lo):List FnE:=Yri lo::fs25 lo
theorem Yrj(h:GZ P fm fs25 lo)(hG: ∀f,fm f=165->YtJ P f=true/\ ∃ρ:Go.Shelf.Ren,Go.Proofs.LaysM.n171 P ρ/\ (∃q,(ρ.g 17,q)∈fm.tb/\ ∀c,q c->c=YuH)/\ρ.f 171=f):GZ P fm fs26 lo:=
  ⟨h.1,h.2,YpU h.S rfl hG⟩
def q26(lo:Lo):Option (Zt4):=
  some ([(Yx9 #[]),(Yx9 #[103,105,118,101,110]),(Yx9 #[114,101,102,108,101,120,105,118,101]),(Yx9 #[97,117,103,109,101,110,116]),(Yx9 #[116,114,97,110,115,105,116])])
def Yrk:VFn:=⟨true,2,[.t 0],
 (Rg [o 0 (.mv (ke (cs [.s])))]
 (Rg [o 1 (.bsl (cs [.s]) 5 [(0,(ks (⟨#[]⟩))),(1,(ks (⟨#[103,105,118,101,110]⟩))),(2,(ks (⟨#[114,101,102,108,101,120,105,118,101]⟩))),(3,(ks (⟨#[97,117,103,109,101,110,116]⟩))),(4,(ks (⟨#[116,114,97,110,115,105,116]⟩)))]),oM 0 1]
 (Fr 0)))⟩
def Yks(lo:Lo):FnE:=Zfe 168 true (Zsg [] [] []) (.l (cs [.s])) [] (fun x=>q26 lo:Unit->Option (Zt4))
def fs27(lo:Lo):List FnE:=Yks lo::fs26 lo
theorem Yrl(h:GZ P fm fs26 lo)(t:Ti P fm 168 Yrk):GZ P fm fs27 lo:=
  h.p (Yks lo) .n t
def q27(lo:Lo)(l:List ByteArray)(sep:ByteArray):Option ByteArray:=YvE l sep
def Yrm(lo:Lo):FnE:=vjoinE 169
def fs28(lo:Lo):List FnE:=Yrm lo::fs27 lo
theorem Yrn(h:GZ P fm fs27 lo)(hG: ∀f,fm f=169->YtJ P f=true/\ ∃ρ:Go.Shelf.Ren,Go.Proofs.Lays.n156 P ρ/\Go.Proofs.Builder.Extra P ρ/\ρ.f 156=f):GZ P fm fs28 lo:=
  ⟨h.1,h.2,YpJ h.S rfl hG⟩
def q28(lo:Lo)(n b:Int):Option ByteArray:=vfuF n b
def Yro(lo:Lo):FnE:=vfuE 167
def fs29(lo:Lo):List FnE:=Yro lo::fs28 lo
theorem Yrp(h:GZ P fm fs28 lo)(hG: ∀f,fm f=167->YtJ P f=true/\FuC P fm f):GZ P fm fs29 lo:=
  ⟨h.1,h.2,YpW h.S rfl hG⟩
def q29(lo:Lo)(x0:Int):Option ByteArray:=
  YxU (q28 lo (Yya .u64 x0) (10:Int)) fun y81=>some y81
def Yrq:VFn:=⟨true,6,[.t 2],
 (Rg [o 2 (.mv (ks (⟨#[]⟩)))]
 (Rg [oM 3 0,o 4 (.conv .u64 3),oC 5 167 [4,(k 10)],oM 2 5]
 (Fr 2)))⟩
def Ykt(lo:Lo):FnE:=Zfe 166 true (Zsg [0] [.i .u32] []) .s [] (fun x=>q29 lo x:Int->Option ByteArray)
def fs30(lo:Lo):List FnE:=Ykt lo::fs29 lo
theorem Yrr(h:GZ P fm fs29 lo)(t:Ti P fm 166 Yrq):GZ P fm fs30 lo:=
  h.p (Ykt lo) .n t
def q30_L7_b:VCode:=
 (Rg [oR 20 .lss 19 18]
 (.seq (Ce 20 0)
 (.seq (.blk 1 (Rg [oI 21 1 17 19,oL 22 21,oM 5 22]
 (.seq (Rg [oM 23 5,oR 24 .lss 23 (k 0)]
 (.cond 24 (Rg [o 2 (.mv (ks (⟨#[]⟩)))]
 (Fr 2))
 .skip))
 (.reg [oM 25 3,oM 26 5,oC 27 165 [26],o 28 (.bsl (cs [.s]) 1 [(0,27)]),o 29 (.app (cs [.s]) 0 25 28),oM 3 29]))))
 (.reg [oR 30 .add 19 (k 1),oM 19 30]))))
def Yc3(lo:Lo):Zp7->Option (Zp7⊕ (ByteArray⊕ (Int× (List Int)×Int×Int×Zt4))):=fun x=>match x with
  | (v17,v18,v19,s1_0,s1_1,s1_2,s1_3,from3)=>bif(decide (v19<v18))then(chk (0<=v19/\v19< (v17.length:Int)) (bif(decide ((v17.getD v19.toNat (0:Int))< (0:Int)))then(some (.inr (.inl (Yx9 #[]))))else(YxU (q25 lo (v17.getD v19.toNat (0:Int))) fun y75=>chk (from3.length+[y75].length<=maxEl) (some (.inl (v17,v18,(Yya .i64 (v19+1)),s1_0,s1_1,s1_2,s1_3,(from3++[y75])))))))else(some (.inr (.inr (s1_0,s1_1,s1_2,s1_3,from3))))
def Ycf(lo:Lo):Zp7->Option (ByteArray⊕ (Int× (List Int)×Int×Int×Zt4)):=lo.run (Yc3 lo)
def Yrs(lo:Lo):LpE:=⟨7,[(3,none,false)],(Zsg [1,3,17,18,19] [.ptr 0 0 0,.ref 1,.l (cs [I]),.j,.j] [.st [.j,.l (cs [I]),.i .u32,.i .u32],.sq (cs [.s])]),[⟨.ret,(Zsg [2] [.s] [])⟩,⟨.exit 0,(Zsg [1,3] [.ptr 0 0 0,.ref 1] [.st [.j,.l (cs [I]),.i .u32,.i .u32],.sq (cs [.s])])⟩],Ycf lo⟩
def Yku(lo:Lo):LL:=(Yrs lo,.loop q30_L7_b.er)::[]
theorem Yrt(lo:Lo):Lk lo pf (fs30 lo) 0 (Yku lo):=.l .n (Yc3 lo)
def q30_J6_b:VCode:=
 (Rg [o 6 (.mv (.c (.f 166)))]
 (Rg [oC 37 168 [],oF 38 0 1,oL 39 38,oI 40 1 37 39,oL 41 40,oR 42 .add 41 (ks (⟨#[32]⟩)),oM 43 3,oC 44 169 [43,(ks (⟨#[44]⟩))],oR 45 .add 42 44,oR 46 .add 45 (ks (⟨#[32]⟩)),oM 47 6,oF 48 2 1,oF 49 0 48,oL 50 49,o 51 (.dynP 47 [50]),oR 52 .add 46 51,oR 53 .add 52 (ks (⟨#[32,45,62,32]⟩)),oM 54 6,oF 55 2 1,oF 56 1 55,oL 57 56,o 58 (.dynP 54 [57]),oR 59 .add 53 58,oR 60 .add 59 (ks (⟨#[10]⟩)),oM 2 60]
 (Fr 2)))
def Yc4(lo:Lo):Int× (List Int)×Int×Int×Zt4->Option ByteArray:=fun x=>match x with
  | (s1_0,s1_1,s1_2,s1_3,from3)=>YxU (q26 lo) fun y79=>chk (0<=s1_0/\s1_0< (y79.length:Int)) (chk (YxL ((y79.getD s1_0.toNat (Yx9 #[])).size+(Yx9 #[32]).size) 9223372036854775807=true) (YxU (q27 lo from3 (Yx9 #[44])) fun y80=>chk (YxL (((y79.getD s1_0.toNat (Yx9 #[]))++(Yx9 #[32])).size+y80.size) 9223372036854775807=true) (chk (YxL ((((y79.getD s1_0.toNat (Yx9 #[]))++(Yx9 #[32]))++y80).size+(Yx9 #[32]).size) 9223372036854775807=true) (YxU (q29 lo s1_2) fun y82=>chk (YxL (((((y79.getD s1_0.toNat (Yx9 #[]))++(Yx9 #[32]))++y80)++(Yx9 #[32])).size+y82.size) 9223372036854775807=true) (chk (YxL ((((((y79.getD s1_0.toNat (Yx9 #[]))++(Yx9 #[32]))++y80)++(Yx9 #[32]))++y82).size+(Yx9 #[32,45,62,32]).size) 9223372036854775807=true) (YxU (q29 lo s1_3) fun y83=>chk (YxL (((((((y79.getD s1_0.toNat (Yx9 #[]))++(Yx9 #[32]))++y80)++(Yx9 #[32]))++y82)++(Yx9 #[32,45,62,32])).size+y83.size) 9223372036854775807=true) (chk (YxL ((((((((y79.getD s1_0.toNat (Yx9 #[]))++(Yx9 #[32]))++y80)++(Yx9 #[32]))++y82)++(Yx9 #[32,45,62,32]))++y83).size+(Yx9 #[10]).size) 9223372036854775807=true) (some ((((((((y79.getD s1_0.toNat (Yx9 #[]))++(Yx9 #[32]))++y80)++(Yx9 #[32]))++y82)++(Yx9 #[32,45,62,32]))++y83)++(Yx9 #[10]))))))))))
def Yru(lo:Lo):LpE:=⟨6,[],(Zsg [1,3] [.ptr 0 0 0,.ref 1] [.st [.j,.l (cs [I]),.i .u32,.i .u32],.sq (cs [.s])]),[⟨.ret,(Zsg [2] [.s] [])⟩],Yc4 lo⟩
def Yrv(lo:Lo):LL:=(Yru lo,q30_J6_b.er)::Yku lo
theorem Yrw(lo:Lo):Lk lo pf (fs30 lo) 0 (Yrv lo):=.j (Yrt lo)
def q30(lo:Lo)(s0_0:Int)(s0_1:List Int)(s0_2:Int)(s0_3:Int):Option ByteArray:=
  bif(decide (s0_0<1))then(some (Yx9 #[]))else(bif(decide (4<s0_0))then(some (Yx9 #[]))else(YxU (Ycf lo (s0_1,(s0_1.length:Int),(0:Int),s0_0,s0_1,s0_2,s0_3,[])) fun y76=>alt2 y76 (fun y77=>some y77) (fun y78=>bif(decide ((y78.2.2.2.2.length:Int)=0))then(chk (y78.2.2.2.2.length+([(Yx9 #[45])]).length<=maxEl) (YxU (Yc4 lo (y78.1,y78.2.1,y78.2.2.1,y78.2.2.2.1,(y78.2.2.2.2++([(Yx9 #[45])])))) fun y84=>some y84))else(YxU (Yc4 lo (y78.1,y78.2.1,y78.2.2.1,y78.2.2.2.1,y78.2.2.2.2)) fun y85=>some y85))))
def Yrx:VFn:=⟨true,61,[.t 2],
 (Rg [oG 1 0,o 2 (.mv (ks (⟨#[]⟩)))]
 (.seq (Rg [oF 7 0 1,oL 8 7,oR 9 .lss 8 (k 1),oM 10 9,gF 11 10 (.fad 0 1),gF 12 10 (.load false 1 11),gF 13 10 (.bin .gtr 12 (k 4)),oP 14 10 (kb true) 13]
 (.cond 14 (Rg [o 2 (.mv (ks (⟨#[]⟩)))]
 (Fr 2))
 .skip))
 (Rg [o 15 (.bsl (cs [.s]) 0 []),oM 3 15]
 (.seq (Rg [oF 16 1 1,oL 17 16,oN 18 17,oK 19 0]
 (.blk 0 (.loop 7 q30_L7_b)))
 (.seq (Rg [oM 31 3,oN 32 31,oR 33 .eql 32 (k 0)]
 (.cond 33 (.reg [oM 34 3,o 35 (.bsl (cs [.s]) 1 [(0,(ks (⟨#[45]⟩)))]),o 36 (.app (cs [.s]) 0 34 35),oM 3 36])
 .skip))
 (.jn 6 q30_J6_b))))))⟩
def Ykv(lo:Lo):FnE:=Zfe 150 true (Zsg [0] [.ag [.j,.l (cs [I]),.i .u32,.i .u32]] []) .s [] (fun x=>q30 lo x.1 x.2.1 x.2.2.1 x.2.2.2:Int× (List Int)×Int×Int->Option ByteArray)
def fs31(lo:Lo):List FnE:=Ykv lo::fs30 lo
theorem Yry(h:GZ P fm fs30 lo)(t:Ti P fm 150 Yrx):GZ P fm fs31 lo:=
  h.p (Ykv lo) (Yrw lo) t
def q31(lo:Lo)(s:ByteArray):Option ByteArray:=some s
def Yrz(lo:Lo):FnE:=vchkE2 164
def fs32(lo:Lo):List FnE:=Yrz lo::fs31 lo
theorem YrA(h:GZ P fm fs31 lo)(hG: ∀f,fm f=164->YtJ P f=true/\ ∃ρ:Go.Shelf.Ren,Go.Proofs.Lays.n240 P ρ/\BldOK P fm ρ/\ρ.f 240=f):GZ P fm fs32 lo:=
  ⟨h.1,h.2,Ypr h.S rfl hG⟩
def q32(lo:Lo)(s1:ByteArray)(h1:ByteArray):Option (Int×ByteArray):=
  YxU (q31 lo h1) fun y87=>chk (y87.size=h1.size) (chk (y87.size+s1.size<=maxEl) (some ((s1.size:Int),(y87++s1))))
def YrB:VFn:=⟨true,19,[.t 4,.t 5],
 (Rg [oK 4 0,o 5 (.mv (.c (.v .nilIface)))]
 (Rg [oM 6 0,oC 7 164 [6]]
 (Rg [oM 8 0,oM 9 0,o 10 (.nilc 9),oF 11 1 10,oL 12 11,oM 13 1,o 14 (.apps 12 13),o 15 (.nilc 8),oF 16 1 15,oS 1 16 14]
 (Rg [oM 17 1,o 18 (.lenS 17),oM 4 18,o 5 (.mv (.c (.v .nilIface)))]
 .ret))))⟩
def Ykw(lo:Lo):FnE:=Zfe 149 false (Zsg [0,1] [.ptr 0 0 0,.s] [.st [.np 0,.ref 1],.sb]) (.tp [.j,.u]) [.st [.np 0,.ref 2],.dd,.sb] (fun x=>q32 lo x.1 x.2:ByteArray×ByteArray->Option (Int×ByteArray))
def fs33(lo:Lo):List FnE:=Ykw lo::fs32 lo
theorem YrC(h:GZ P fm fs32 lo)(t:Ti P fm 149 YrB):GZ P fm fs33 lo:=
  h.i (Ykw lo) .n t
def q33(lo:Lo)(s:ByteArray):Option ByteArray:=some s
def YrD(lo:Lo):FnE:=vstrE 151
def fs34(lo:Lo):List FnE:=YrD lo::fs33 lo
theorem YrE(h:GZ P fm fs33 lo)(hG: ∀f,fm f=151->YtJ P f=true/\ ∃ρ:Go.Shelf.Ren,Go.Proofs.Lays.n169 P ρ/\BldOK P fm ρ/\fm.bu=ρ.t 5/\ρ.f 169=f):GZ P fm fs34 lo:=
  ⟨h.1,h.2,Ypy h.S rfl hG⟩
def q34_L3_b:VCode:=
 (Rg [oR 9 .lss 8 7]
 (.seq (Ce 9 0)
 (.seq (.blk 1 (Rg [oI 10 4 6 8,oT 11 4 10,o 5 (.alloc [.i .i64 0,.e (cs [I]),.i .u32 0,.i .u32 0]),oS 4 5 11]
 (.reg [oT 12 4 5,oC 13 150 [12],oC 14 149 [3,13]])))
 (.reg [oR 15 .add 8 (k 1),oM 8 15]))))
def Yc5(lo:Lo):Zt0×Int×Int×ByteArray->Option ((Zt0×Int×Int×ByteArray)⊕ByteArray):=fun x=>match x with
  | (v6,v7,v8,h1)=>bif(decide (v8<v7))then(chk (0<=v8/\v8< (v6.length:Int)) (YxU (q30 lo ((v6.getD v8.toNat ((0:Int),[],(0:Int),(0:Int))).1) ((v6.getD v8.toNat ((0:Int),[],(0:Int),(0:Int))).2.1) ((v6.getD v8.toNat ((0:Int),[],(0:Int),(0:Int))).2.2.1) ((v6.getD v8.toNat ((0:Int),[],(0:Int),(0:Int))).2.2.2)) fun y86=>YxU (q32 lo y86 h1) fun y88=>some (.inl (v6,v7,(Yya .i64 (v8+1)),y88.2))))else(some (.inr h1))
def YfN(lo:Lo):Zt0×Int×Int×ByteArray->Option ByteArray:=lo.run (Yc5 lo)
def YrF(lo:Lo):LpE:=⟨3,[],(Zsg [3,6,7,8] [.ptr 0 0 0,.l Zc1,.j,.j] [.st [.np 0,.ref 1],.sb]),[⟨.exit 0,(Zsg [3] [.ptr 0 0 0] [.st [.np 0,.ref 1],.sb])⟩],YfN lo⟩
def YrG(lo:Lo):LL:=(YrF lo,.loop q34_L3_b.er)::[]
theorem YrH(lo:Lo):Lk lo pf (fs34 lo) 0 (YrG lo):=.l .n (Yc5 lo)
def q34(lo:Lo)(steps0:List (Int× (List Int)×Int×Int)):Option ByteArray:=
  YxU (YfN lo (steps0,(steps0.length:Int),(0:Int),(Yx9 #[]))) fun y89=>YxU (q33 lo y89) fun y90=>some y90
def YrI:VFn:=⟨true,17,[.t 2],
 (Rg [o 2 (.mv (ks (⟨#[]⟩)))]
 (Rg [o 3 (.bld)]
 (.ow [(3,some 1,false)] (.seq (Rg [oM 6 0,oN 7 6,oK 8 0]
 (.blk 0 (.loop 3 q34_L3_b)))
 (Rg [oC 16 151 [3],oM 2 16]
 (Fr 2))))))⟩
def Ykx(lo:Lo):FnE:=Zfe 125 true (Zsg [0] [.l Zc1] []) .s [] (fun x=>q34 lo x:Zt0->Option ByteArray)
def fs35(lo:Lo):List FnE:=Ykx lo::fs34 lo
theorem YrJ(h:GZ P fm fs34 lo)(t:Ti P fm 125 YrI):GZ P fm fs35 lo:=
  h.p (Ykx lo) (YrH lo) t
end Go.Abs.G12
namespace Go.Abs.G12
open Go Go.Abs
set_option maxRecDepth 100000
set_option maxHeartbeats 1000000
variable{P:Program}{fm:FM}{lo:Lo}
def q35(lo:Lo):Option Bool:=
  YxU (q3 lo) fun y5=>YxU (q9 lo (3:Int) y5.1 y5.2) fun y24=>YxU (q9 lo (3:Int) y5.1 ([((2:Int),([]:List Int),(1:Int),(3:Int))])) fun y25=>YxU (q17 lo (3:Int) y5.1 (1:Int) (4:Int)) fun y47=>bif(decide (y24.2=(0:Int)))then(bif(decide (y24.1=(0:Int)))then(bif(decide (y25.2=(1:Int)))then(bif(decide (y25.1=(0:Int)))then(bif(decide (y47.2=(0:Int)))then(YxU (q23 lo (3:Int) y5.1 y47.1 (1:Int) (4:Int)) fun y72=>bif y72 then(YxU (q24 lo (3:Int) y5.1 y5.2 (1:Int) (4:Int)) fun y74=>bif y74 then(YxU (q34 lo y5.2) fun y91=>some (decide (y91=(Yx9 #[103,105,118,101,110,32,48,32,49,32,45,62,32,50,10,103,105,118,101,110,32,49,32,50,32,45,62,32,52,10,116,114,97,110,115,105,116,32,48,44,49,32,49,32,45,62,32,52,10]))))else(some false))else(some false))else(some false))else(some false))else(some false))else(some false))else(some false)
def YrK:VFn:=⟨true,68,[.t 0],
 (Rg [oB 0 false]
 (Rg [oC 10 131 [],oM 9 10,oE 11 9 0,oE 12 9 1,oM 1 11,oM 2 12]
 (Rg [oM 14 1,oM 15 2,oC 16 111 [(k 3),14,15],oM 13 16,oE 17 13 0,oE 18 13 1,oM 3 17,oM 4 18]
 (Rg [oM 20 1,o 21 (.build [.i .u32 0,.i .u32 0] [(0,1,(ki .u32 1)),(1,1,(ki .u32 3))]),o 22 (.build [.i .i64 0,.e (cs [I]),.i .u32 0,.i .u32 0] [(0,1,(k 2)),(2,2,21)]),o 23 (.bsl Zc1 1 [(0,22)]),oC 24 111 [(k 3),20,23],oM 19 24,oE 25 19 0,oE 26 19 1,oM 5 25,oM 6 26]
 (Rg [oM 28 1,o 29 (.build [.i .u32 0,.i .u32 0] [(0,1,(ki .u32 1)),(1,1,(ki .u32 4))]),oC 30 116 [(k 3),28,29],oM 27 30,oE 31 27 0,oE 32 27 1,oM 7 31,oM 8 32]
 (Rg [oM 33 4,oR 34 .eql 33 (k 0),oM 35 34,gT 36 35 (.mv 3),gT 37 35 (.bin .eql 36 (k 0)),oP 38 35 37 (kb false),oM 39 38,gT 40 39 (.mv 6),gT 41 39 (.bin .eql 40 (k 1)),oP 42 39 41 (kb false),oM 43 42,gT 44 43 (.mv 5),gT 45 43 (.bin .eql 44 (k 0)),oP 46 43 45 (kb false),oM 47 46,gT 48 47 (.mv 8),gT 49 47 (.bin .eql 48 (k 0)),oP 50 47 49 (kb false),oM 51 50,gT 52 51 (.mv 1),gT 53 51 (.mv 7),gT 54 51 (.build [.i .u32 0,.i .u32 0] [(0,1,(ki .u32 1)),(1,1,(ki .u32 4))]),gT 55 51 (.call 114 [(k 3),52,53,54]),oP 56 51 55 (kb false),oM 57 56,gT 58 57 (.mv 1),gT 59 57 (.mv 2),gT 60 57 (.build [.i .u32 0,.i .u32 0] [(0,1,(ki .u32 1)),(1,1,(ki .u32 4))]),gT 61 57 (.call 113 [(k 3),58,59,60]),oP 62 57 61 (kb false),oM 63 62,gT 64 63 (.mv 2),gT 65 63 (.call 125 [64]),gT 66 63 (.bin .eql 65 (ks (⟨#[103,105,118,101,110,32,48,32,49,32,45,62,32,50,10,103,105,118,101,110,32,49,32,50,32,45,62,32,52,10,116,114,97,110,115,105,116,32,48,44,49,32,49,32,45,62,32,52,10]⟩))),oP 67 63 66 (kb false),oM 0 67]
 (Fr 0)))))))⟩
def Yky(lo:Lo):FnE:=Zfe 109 true (Zsg [] [] []) .b [] (fun x=>q35 lo:Unit->Option Bool)
def fs36(lo:Lo):List FnE:=Yky lo::fs35 lo
theorem YrL(h:GZ P fm fs35 lo)(t:Ti P fm 109 YrK):GZ P fm fs36 lo:=
  h.p (Yky lo) .n t
def q36_L3_b:VCode:=
 (.seq (Rg [oM 7 3,oM 8 0,oN 9 8,oR 10 .lss 7 9]
 (Ce 10 0))
 (.seq (.blk 1 (Rg [oM 13 0,oM 14 3,oI 15 4 13 14,oF 16 1 15,oL 17 16,oN 18 17,oR 19 .gtr 18 (k 8)]
 (.cond 19 (Rg [oB 2 false]
 (Fr 2))
 .skip)))
 (.reg [oM 11 3,oR 12 .add 11 (k 1),oM 3 12])))
def Ycg(lo:Lo):Zt0×Int->Option ((Zt0×Int)⊕ (Bool⊕Unit)):=fun x=>match x with
  | (steps0,i3)=>bif(decide (i3< (steps0.length:Int)))then(chk (0<=i3/\i3< (steps0.length:Int)) (bif(decide ((8:Int)< (((steps0.getD i3.toNat ((0:Int),[],(0:Int),(0:Int))).2.1).length:Int)))then(some (.inr (.inl false)))else(some (.inl (steps0,(Yya .i64 (i3+1)))))))else(some (.inr (.inr ())))
def Ych(lo:Lo):Zt0×Int->Option (Bool⊕Unit):=lo.run (Ycg lo)
def YrM(lo:Lo):LpE:=⟨3,[],(Zsg [0,3] [.l Zc1,.j] []),[⟨.ret,(Zsg [2] [.b] [])⟩,⟨.exit 0,(Zsg [] [] [])⟩],Ych lo⟩
def YrN(lo:Lo):LL:=(YrM lo,.loop q36_L3_b.er)::[]
theorem YrO(lo:Lo):Lk lo pf (fs36 lo) 0 (YrN lo):=.l .n (Ycg lo)
def q36(lo:Lo)(steps0:List (Int× (List Int)×Int×Int)):Option Bool:=
  bif(decide ((30:Int)< (steps0.length:Int)))then(some false)else(YxU (Ych lo (steps0,(0:Int))) fun y95=>alt2 y95 (fun y96=>some y96) (fun y97=>some true))
def YrP:VFn:=⟨true,20,[.t 2],
 (Rg [oB 2 false]
 (.seq (Rg [oM 4 0,oN 5 4,oR 6 .gtr 5 (k 30)]
 (.cond 6 (Rg [oB 2 false]
 (Fr 2))
 .skip))
 (.seq (Rg [oK 3 0]
 (.blk 0 (.loop 3 q36_L3_b)))
 (Rg [oB 2 true]
 (Fr 2)))))⟩
def Ykz(lo:Lo):FnE:=Zfe 110 true (Zsg [0] [.l Zc1] []) .b [] (fun x=>q36 lo x:Zt0->Option Bool)
def fs37(lo:Lo):List FnE:=Ykz lo::fs36 lo
theorem YrQ(h:GZ P fm fs36 lo)(t:Ti P fm 110 YrP):GZ P fm fs37 lo:=
  h.p (Ykz lo) (YrO lo) t
def fs38(lo:Lo):List FnE:=fs37 lo
def fs39(lo:Lo):List FnE:=fs38 lo
def fs40(lo:Lo):List FnE:=fs39 lo
def fs41(lo:Lo):List FnE:=fs40 lo
def fs42(lo:Lo):List FnE:=fs41 lo
def fs43(lo:Lo):List FnE:=fs42 lo
def fs44(lo:Lo):List FnE:=fs43 lo
def fs45(lo:Lo):List FnE:=fs44 lo
def fs46(lo:Lo):List FnE:=fs45 lo
def fs47(lo:Lo):List FnE:=fs46 lo
def fs48(lo:Lo):List FnE:=fs47 lo
def fs49(lo:Lo):List FnE:=fs48 lo
def fs50(lo:Lo):List FnE:=fs49 lo
def fs51(lo:Lo):List FnE:=fs50 lo
def fs52(lo:Lo):List FnE:=fs51 lo
def fs53(lo:Lo):List FnE:=fs52 lo
def fs54(lo:Lo):List FnE:=fs53 lo
def fs55(lo:Lo):List FnE:=fs54 lo
def fs56(lo:Lo):List FnE:=fs55 lo
def fs57(lo:Lo):List FnE:=fs56 lo
def fs58(lo:Lo):List FnE:=fs57 lo
end Go.Abs.G12
namespace Go.Abs.G12
open Go Go.Abs
set_option maxRecDepth 100000
set_option maxHeartbeats 1000000
variable{P:Program}{fm:FM}{lo:Lo}
def fs59(lo:Lo):List FnE:=fs58 lo
def fs60(lo:Lo):List FnE:=fs59 lo
def fs61(lo:Lo):List FnE:=fs60 lo
def fs62(lo:Lo):List FnE:=fs61 lo
def fs63(lo:Lo):List FnE:=fs62 lo
def fs64(lo:Lo):List FnE:=fs63 lo
def q64_L3_b:VCode:=
 (.seq (Rg [oM 11 5,oM 12 0,oN 13 12,oR 14 .lss 11 13]
 (Ce 14 0))
 (.seq (.blk 1 (Rg [oM 17 0,oM 18 5,oI 19 1 17 18,oL 20 19,oM 21 1,oM 22 5,oI 23 1 21 22,oL 24 23,oR 25 .neq 20 24]
 (.cond 25 (Rg [oB 4 false]
 (Fr 4))
 .skip)))
 (.reg [oM 15 5,oR 16 .add 15 (k 1),oM 5 16])))
def Yc6(lo:Lo):(List Int)× (List Int)×Int->Option (((List Int)× (List Int)×Int)⊕ (Bool⊕Unit)):=fun x=>match x with
  | (a0,b1,i5)=>bif(decide (i5< (a0.length:Int)))then(chk (0<=i5/\i5< (a0.length:Int)) (chk (0<=i5/\i5< (b1.length:Int)) (bif(!decide ((a0.getD i5.toNat (0:Int))=(b1.getD i5.toNat (0:Int))))then(some (.inr (.inl false)))else(some (.inl (a0,b1,(Yya .i64 (i5+1))))))))else(some (.inr (.inr ())))
def YfO(lo:Lo):(List Int)× (List Int)×Int->Option (Bool⊕Unit):=lo.run (Yc6 lo)
def YrR(lo:Lo):LpE:=⟨3,[],(Zsg [0,1,5] [.l (cs [I]),.l (cs [I]),.j] []),[⟨.ret,(Zsg [4] [.b] [])⟩,⟨.exit 0,(Zsg [] [] [])⟩],YfO lo⟩
def YrS(lo:Lo):LL:=(YrR lo,.loop q64_L3_b.er)::[]
theorem YrT(lo:Lo):Lk lo pf (fs64 lo) 0 (YrS lo):=.l .n (Yc6 lo)
def q64(lo:Lo)(a0:List Int)(b1:List Int):Option Bool:=
  bif(!decide ((a0.length:Int)=(b1.length:Int)))then(some false)else(YxU (YfO lo (a0,b1,(0:Int))) fun y235=>alt2 y235 (fun y236=>some y236) (fun y237=>some true))
def YrU:VFn:=⟨true,26,[.t 4],
 (Rg [oB 4 false]
 (.seq (Rg [oM 6 0,oN 7 6,oM 8 1,oN 9 8,oR 10 .neq 7 9]
 (.cond 10 (Rg [oB 4 false]
 (Fr 4))
 .skip))
 (.seq (Rg [oK 5 0]
 (.blk 0 (.loop 3 q64_L3_b)))
 (Rg [oB 4 true]
 (Fr 4)))))⟩
def YkA(lo:Lo):FnE:=Zfe 123 true (Zsg [0,1] [.l (cs [I]),.l (cs [I])] []) .b [] (fun x=>q64 lo x.1 x.2:(List Int)× (List Int)->Option Bool)
def fs65(lo:Lo):List FnE:=YkA lo::fs64 lo
theorem YrV(h:GZ P fm fs64 lo)(t:Ti P fm 123 YrU):GZ P fm fs65 lo:=
  h.p (YkA lo) (YrT lo) t
def fs66(lo:Lo):List FnE:=fs65 lo
def q66(lo:Lo)(rule0:Int):Option ByteArray:=
  bif(decide (rule0=1))then(some (Yx9 #[103,105,118,101,110]))else(bif(decide (rule0=2))then(some (Yx9 #[114,101,102,108,101,120,105,118,101]))else(bif(decide (rule0=3))then(some (Yx9 #[97,117,103,109,101,110,116]))else(bif(decide (rule0=4))then(some (Yx9 #[116,114,97,110,115,105,116]))else(some (Yx9 #[])))))
def YrW:VFn:=⟨true,12,[.t 2],
 (Rg [o 2 (.mv (ks (⟨#[]⟩)))]
 (.seq (Rg [oM 3 0]
 (.blk 0 (Rg [oR 5 .eql 3 (k 1),oM 4 5]
 (.cond 4 (Rg [o 2 (.mv (ks (⟨#[103,105,118,101,110]⟩)))]
 (Fr 2))
 (Rg [oR 7 .eql 3 (k 2),oM 6 7]
 (.cond 6 (Rg [o 2 (.mv (ks (⟨#[114,101,102,108,101,120,105,118,101]⟩)))]
 (Fr 2))
 (Rg [oR 9 .eql 3 (k 3),oM 8 9]
 (.cond 8 (Rg [o 2 (.mv (ks (⟨#[97,117,103,109,101,110,116]⟩)))]
 (Fr 2))
 (Rg [oR 11 .eql 3 (k 4),oM 10 11]
 (.cond 10 (Rg [o 2 (.mv (ks (⟨#[116,114,97,110,115,105,116]⟩)))]
 (Fr 2))
 .skip))))))))))
 (Rg [o 2 (.mv (ks (⟨#[]⟩)))]
 (Fr 2))))⟩
def YkB(lo:Lo):FnE:=Zfe 152 true (Zsg [0] [.j] []) .s [] (fun x=>q66 lo x:Int->Option ByteArray)
def fs67(lo:Lo):List FnE:=YkB lo::fs66 lo
theorem YrX(h:GZ P fm fs66 lo)(t:Ti P fm 152 YrW):GZ P fm fs67 lo:=
  h.p (YkB lo) .n t
def YrY(F:Int->Option ByteArray):FnE:=⟨153,true,(Zsg [0] [.j] []),.s,[],(cs [.s]),F⟩
def Ybr(lo:Lo)(rec:Int->Option ByteArray)(n0:Int):Option ByteArray:=
  bif(decide (n0=(-9223372036854775808:Int)))then(some (Yx9 #[45,57,50,50,51,51,55,50,48,51,54,56,53,52,55,55,53,56,48,56]))else(bif(decide (n0<0))then(YxU (rec (Yya .i64 (0-n0))) fun y250=>chk (YxL ((Yx9 #[45]).size+y250.size) 9223372036854775807=true) (some ((Yx9 #[45])++y250)))else(bif(decide (n0<10))then(chk (0<=n0/\n0<=(Yya .i64 (n0+1))/\ (Yya .i64 (n0+1))<=((Yx9 #[48,49,50,51,52,53,54,55,56,57]).size:Int)) (some ((Yx9 #[48,49,50,51,52,53,54,55,56,57]).extract n0.toNat (Yya .i64 (n0+1)).toNat)))else(chk ((10:Int)≠0) (YxU (rec (Yya .i64 (n0.tdiv (10:Int)))) fun y251=>chk ((10:Int)≠0) (YxU (rec (n0.tmod (10:Int))) fun y252=>chk (YxL (y251.size+y252.size) 9223372036854775807=true) (some (y251++y252)))))))
def YaZ(lo:Lo):Nat->Int->Option ByteArray
  |0,_=>none
  |n+1,x=>Ybr lo (YaZ lo n) x
def q67(lo:Lo)(n0:Int):Option ByteArray:=lo.run (fixS (YaZ lo)) (0,n0)
def YrZ:VFn:=⟨true,24,[.t 2],
 (Rg [o 2 (.mv (ks (⟨#[]⟩)))]
 (.seq (Rg [oM 3 0,oR 4 .eql 3 (k (-9223372036854775808))]
 (.cond 4 (Rg [o 2 (.mv (ks (⟨#[45,57,50,50,51,51,55,50,48,51,54,56,53,52,55,55,53,56,48,56]⟩)))]
 (Fr 2))
 .skip))
 (.seq (Rg [oM 5 0,oR 6 .lss 5 (k 0)]
 (.cond 6 (Rg [oM 7 0,o 8 (.neg 7),oC 9 153 [8],oR 10 .add (ks (⟨#[45]⟩)) 9,oM 2 10]
 (Fr 2))
 .skip))
 (.seq (Rg [oM 11 0,oR 12 .lss 11 (k 10)]
 (.cond 12 (Rg [oM 13 0,oM 14 0,oR 15 .add 14 (k 1),o 16 (.slcS (ks (⟨#[48,49,50,51,52,53,54,55,56,57]⟩)) (some 13) (some 15)),oM 2 16]
 (Fr 2))
 .skip))
 (Rg [oM 17 0,oR 18 .quo 17 (k 10),oC 19 153 [18],oM 20 0,oR 21 .rem 20 (k 10),oC 22 153 [21],oR 23 .add 19 22,oM 2 23]
 (Fr 2))))))⟩
def YkC(lo:Lo):FnE:=YrY (fun x=>q67 lo x)
def fs68(lo:Lo):List FnE:=YkC lo::fs67 lo
theorem Yr0(h:GZ P fm fs67 lo)(t:Ti P fm 153 YrZ):GZ P fm fs68 lo:=
  h.pr (YkC lo) (YaZ lo) (ls:=fun _=>[]) (fun _=>.n) t (by kernel_rfl) (fun _=>rfl) rfl (fun _=>by kernel_rfl) fun n x=>by kernel_rfl
def q68_L6_b:VCode:=
 (.seq (Rg [oM 9 4,oF 10 1 1,oL 11 10,oN 12 11,oR 13 .lss 9 12]
 (Ce 13 0))
 (.seq (.blk 1 (.seq (Rg [oF 16 1 1,oL 17 16,oM 18 4,oI 19 1 17 18,oL 20 19,oR 21 .lss 20 (k 0)]
 (.cond 21 (Rg [o 2 (.mv (ks (⟨#[]⟩)))]
 (Fr 2))
 .skip))
 (.seq (Rg [oM 22 4,oR 23 .gtr 22 (k 0)]
 (.cond 23 (.reg [oM 24 3,oR 25 .add 24 (ks (⟨#[44]⟩)),oM 3 25])
 .skip))
 (.reg [oM 26 3,oF 27 1 1,oL 28 27,oM 29 4,oI 30 1 28 29,oL 31 30,oC 32 153 [31],oR 33 .add 26 32,oM 3 33]))))
 (.reg [oM 14 4,oR 15 .add 14 (k 1),oM 4 15])))
def Yc7(lo:Lo):Zp11->Option (Zp11⊕ (ByteArray⊕Zp12)):=fun x=>match x with
  | (from3,i4,d1_0,d1_1,d1_2,d1_3)=>bif(decide (i4< (d1_1.length:Int)))then(chk (0<=i4/\i4< (d1_1.length:Int)) (bif(decide ((d1_1.getD i4.toNat (0:Int))< (0:Int)))then(some (.inr (.inl (Yx9 #[]))))else(bif(decide (0<i4))then(chk (YxL (from3.size+(Yx9 #[44]).size) 9223372036854775807=true) (chk (0<=i4/\i4< (d1_1.length:Int)) (YxU (q67 lo (d1_1.getD i4.toNat (0:Int))) fun y253=>chk (YxL ((from3++(Yx9 #[44])).size+y253.size) 9223372036854775807=true) (some (.inl (((from3++(Yx9 #[44]))++y253),(Yya .i64 (i4+1)),d1_0,d1_1,d1_2,d1_3))))))else(chk (0<=i4/\i4< (d1_1.length:Int)) (YxU (q67 lo (d1_1.getD i4.toNat (0:Int))) fun y254=>chk (YxL (from3.size+y254.size) 9223372036854775807=true) (some (.inl ((from3++y254),(Yya .i64 (i4+1)),d1_0,d1_1,d1_2,d1_3))))))))else(some (.inr (.inr (from3,d1_0,d1_1,d1_2,d1_3))))
def Yci(lo:Lo):Zp11->Option (ByteArray⊕Zp12):=lo.run (Yc7 lo)
def Yr1(lo:Lo):LpE:=⟨6,[],(Zsg [1,3,4] [.ptr 0 0 0,.s,.j] [.st [.j,.l (cs [I]),.i .u32,.i .u32]]),[⟨.ret,(Zsg [2] [.s] [])⟩,⟨.exit 0,(Zsg [1,3] [.ptr 0 0 0,.s] [.st [.j,.l (cs [I]),.i .u32,.i .u32]])⟩],Yci lo⟩
def YkD(lo:Lo):LL:=(Yr1 lo,.loop q68_L6_b.er)::[]
theorem Yr2(lo:Lo):Lk lo pf (fs68 lo) 0 (YkD lo):=.l .n (Yc7 lo)
def q68_J5_b:VCode:=
 (Rg [oF 36 0 1,oL 37 36,oC 38 152 [37],oR 39 .add 38 (ks (⟨#[32]⟩)),oM 40 3,oR 41 .add 39 40,oR 42 .add 41 (ks (⟨#[32]⟩)),oF 43 2 1,oF 44 0 43,oL 45 44,o 46 (.conv .i64 45),oC 47 153 [46],oR 48 .add 42 47,oR 49 .add 48 (ks (⟨#[32,45,62,32]⟩)),oF 50 2 1,oF 51 1 50,oL 52 51,o 53 (.conv .i64 52),oC 54 153 [53],oR 55 .add 49 54,oM 2 55]
 (Fr 2))
def Yc8(lo:Lo):Zp12->Option ByteArray:=fun x=>match x with
  | (from3,d1_0,d1_1,d1_2,d1_3)=>YxU (q66 lo d1_0) fun y258=>chk (YxL (y258.size+(Yx9 #[32]).size) 9223372036854775807=true) (chk (YxL ((y258++(Yx9 #[32])).size+from3.size) 9223372036854775807=true) (chk (YxL (((y258++(Yx9 #[32]))++from3).size+(Yx9 #[32]).size) 9223372036854775807=true) (YxU (q67 lo (Yya .i64 d1_2)) fun y259=>chk (YxL ((((y258++(Yx9 #[32]))++from3)++(Yx9 #[32])).size+y259.size) 9223372036854775807=true) (chk (YxL (((((y258++(Yx9 #[32]))++from3)++(Yx9 #[32]))++y259).size+(Yx9 #[32,45,62,32]).size) 9223372036854775807=true) (YxU (q67 lo (Yya .i64 d1_3)) fun y260=>chk (YxL ((((((y258++(Yx9 #[32]))++from3)++(Yx9 #[32]))++y259)++(Yx9 #[32,45,62,32])).size+y260.size) 9223372036854775807=true) (some ((((((y258++(Yx9 #[32]))++from3)++(Yx9 #[32]))++y259)++(Yx9 #[32,45,62,32]))++y260)))))))
def Yr3(lo:Lo):LpE:=⟨5,[],(Zsg [1,3] [.ptr 0 0 0,.s] [.st [.j,.l (cs [I]),.i .u32,.i .u32]]),[⟨.ret,(Zsg [2] [.s] [])⟩],Yc8 lo⟩
def Yr4(lo:Lo):LL:=(Yr3 lo,q68_J5_b.er)::YkD lo
theorem Yr5(lo:Lo):Lk lo pf (fs68 lo) 0 (Yr4 lo):=.j (Yr2 lo)
def q68(lo:Lo)(d0_0:Int)(d0_1:List Int)(d0_2:Int)(d0_3:Int):Option ByteArray:=
  YxU (q66 lo d0_0) fun y249=>bif(decide (y249=(Yx9 #[])))then(some (Yx9 #[]))else(YxU (Yci lo ((Yx9 #[]),(0:Int),d0_0,d0_1,d0_2,d0_3)) fun y255=>alt2 y255 (fun y256=>some y256) (fun y257=>bif(decide (y257.1=(Yx9 #[])))then(YxU (Yc8 lo ((Yx9 #[45]),y257.2.1,y257.2.2.1,y257.2.2.2.1,y257.2.2.2.2)) fun y261=>some y261)else(YxU (Yc8 lo (y257.1,y257.2.1,y257.2.2.1,y257.2.2.2.1,y257.2.2.2.2)) fun y262=>some y262)))
def Yr6:VFn:=⟨true,56,[.t 2],
 (Rg [oG 1 0,o 2 (.mv (ks (⟨#[]⟩)))]
 (.seq (Rg [oF 5 0 1,oL 6 5,oC 7 152 [6],oR 8 .eql 7 (ks (⟨#[]⟩))]
 (.cond 8 (Rg [o 2 (.mv (ks (⟨#[]⟩)))]
 (Fr 2))
 .skip))
 (Rg [o 3 (.mv (ks (⟨#[]⟩)))]
 (.seq (Rg [oK 4 0]
 (.blk 0 (.loop 6 q68_L6_b)))
 (.seq (Rg [oM 34 3,oR 35 .eql 34 (ks (⟨#[]⟩))]
 (.cond 35 (.reg [o 3 (.mv (ks (⟨#[45]⟩)))])
 .skip))
 (.jn 5 q68_J5_b))))))⟩
def YkE(lo:Lo):FnE:=Zfe 127 true (Zsg [0] [.ag [.j,.l (cs [I]),.i .u32,.i .u32]] []) .s [] (fun x=>q68 lo x.1 x.2.1 x.2.2.1 x.2.2.2:Int× (List Int)×Int×Int->Option ByteArray)
def fs69(lo:Lo):List FnE:=YkE lo::fs68 lo
theorem Yr7(h:GZ P fm fs68 lo)(t:Ti P fm 127 Yr6):GZ P fm fs69 lo:=
  h.p (YkE lo) (Yr5 lo) t
end Go.Abs.G12
namespace Go.Abs.G12
open Go Go.Abs
set_option maxRecDepth 100000
set_option maxHeartbeats 1000000
variable{P:Program}{fm:FM}{lo:Lo}
def q69_L3_b:VCode:=
 (.seq (Rg [oM 6 4,oM 7 0,oN 8 7,oR 9 .lss 6 8]
 (Ce 9 0))
 (.seq (.blk 1 (Rg [oM 12 0,oM 13 4,oI 14 4 12 13,oT 15 4 14,oC 16 127 [15],oM 5 16]
 (Rg [oM 17 5,oR 18 .neq 17 (ks (⟨#[]⟩))]
 (.cond 18 (.reg [oM 19 3,oM 20 5,oR 21 .add 19 20,oR 22 .add 21 (ks (⟨#[10]⟩)),oM 3 22])
 .skip))))
 (.reg [oM 10 4,oR 11 .add 10 (k 1),oM 4 11])))
def Yc9(lo:Lo):Zt0×ByteArray×Int->Option ((Zt0×ByteArray×Int)⊕ByteArray):=fun x=>match x with
  | (steps0,s3,i4)=>bif(decide (i4< (steps0.length:Int)))then(chk (0<=i4/\i4< (steps0.length:Int)) (YxU (q68 lo ((steps0.getD i4.toNat ((0:Int),[],(0:Int),(0:Int))).1) ((steps0.getD i4.toNat ((0:Int),[],(0:Int),(0:Int))).2.1) ((steps0.getD i4.toNat ((0:Int),[],(0:Int),(0:Int))).2.2.1) ((steps0.getD i4.toNat ((0:Int),[],(0:Int),(0:Int))).2.2.2)) fun y263=>bif(!decide (y263=(Yx9 #[])))then(chk (YxL (s3.size+y263.size) 9223372036854775807=true) (chk (YxL ((s3++y263).size+(Yx9 #[10]).size) 9223372036854775807=true) (some (.inl (steps0,((s3++y263)++(Yx9 #[10])),(Yya .i64 (i4+1)))))))else(some (.inl (steps0,s3,(Yya .i64 (i4+1)))))))else(some (.inr s3))
def YfP(lo:Lo):Zt0×ByteArray×Int->Option ByteArray:=lo.run (Yc9 lo)
def Yr8(lo:Lo):LpE:=⟨3,[],(Zsg [0,3,4] [.l Zc1,.s,.j] []),[⟨.exit 0,(Zsg [3] [.s] [])⟩],YfP lo⟩
def Yr9(lo:Lo):LL:=(Yr8 lo,.loop q69_L3_b.er)::[]
theorem Ysa(lo:Lo):Lk lo pf (fs69 lo) 0 (Yr9 lo):=.l .n (Yc9 lo)
def q69(lo:Lo)(steps0:List (Int× (List Int)×Int×Int)):Option ByteArray:=
  YxU (YfP lo (steps0,(Yx9 #[]),(0:Int))) fun y264=>some y264
def Ysb:VFn:=⟨true,24,[.t 2],
 (Rg [o 2 (.mv (ks (⟨#[]⟩)))]
 (Rg [o 3 (.mv (ks (⟨#[]⟩)))]
 (.seq (Rg [oK 4 0]
 (.blk 0 (.loop 3 q69_L3_b)))
 (Rg [oM 23 3,oM 2 23]
 (Fr 2)))))⟩
def YkF(lo:Lo):FnE:=Zfe 126 true (Zsg [0] [.l Zc1] []) .s [] (fun x=>q69 lo x:Zt0->Option ByteArray)
def fs70(lo:Lo):List FnE:=YkF lo::fs69 lo
theorem Ysc(h:GZ P fm fs69 lo)(t:Ti P fm 126 Ysb):GZ P fm fs70 lo:=
  h.p (YkF lo) (Ysa lo) t
def q70(lo:Lo)(s0:ByteArray)(suffix1:ByteArray):Option Bool:=
  bif(decide ((suffix1.size:Int)<=(s0.size:Int)))then(chk (0<=(Yya .i64 ((s0.size:Int)-(suffix1.size:Int)))/\ (Yya .i64 ((s0.size:Int)-(suffix1.size:Int)))<=(s0.size:Int)/\ (s0.size:Int)<=(s0.size:Int)) (some (decide ((s0.extract (Yya .i64 ((s0.size:Int)-(suffix1.size:Int))).toNat (s0.size:Int).toNat)=suffix1))))else(some false)
def Ysd:VFn:=⟨true,21,[.t 4],
 (Rg [oB 4 false]
 (Rg [oM 5 0,o 6 (.lenS 5),oM 7 1,o 8 (.lenS 7),oR 9 .geq 6 8,oM 10 9,gT 11 10 (.mv 0),gT 12 10 (.mv 0),gT 13 10 (.lenS 12),gT 14 10 (.mv 1),gT 15 10 (.lenS 14),gT 16 10 (.bin .sub 13 15),gT 17 10 (.slcS 11 (some 16) none),gT 18 10 (.mv 1),gT 19 10 (.bin .eql 17 18),oP 20 10 19 (kb false),oM 4 20]
 (Fr 4)))⟩
def YkG(lo:Lo):FnE:=Zfe 1087 true (Zsg [0,1] [.s,.s] []) .b [] (fun x=>q70 lo x.1 x.2:ByteArray×ByteArray->Option Bool)
def fs71(lo:Lo):List FnE:=YkG lo::fs70 lo
theorem Yse(h:GZ P fm fs70 lo)(t:Ti P fm 1087 Ysd):GZ P fm fs71 lo:=
  h.p (YkG lo) .n t
def q71(lo:Lo)(s0:ByteArray)(suffix1:ByteArray):Option ByteArray:=
  YxU (q70 lo s0 suffix1) fun y273=>bif y273 then(chk (0<=(0:Int)/\ (0:Int)<=(Yya .i64 ((s0.size:Int)-(suffix1.size:Int)))/\ (Yya .i64 ((s0.size:Int)-(suffix1.size:Int)))<=(s0.size:Int)) (some (s0.extract 0 (Yya .i64 ((s0.size:Int)-(suffix1.size:Int))).toNat)))else(some s0)
def Ysf:VFn:=⟨true,16,[.t 4],
 (Rg [o 4 (.mv (ks (⟨#[]⟩)))]
 (.seq (Rg [oM 5 0,oM 6 1,oC 7 1087 [5,6]]
 (.cond 7 (Rg [oM 8 0,oM 9 0,o 10 (.lenS 9),oM 11 1,o 12 (.lenS 11),oR 13 .sub 10 12,o 14 (.slcS 8 none (some 13)),oM 4 14]
 (Fr 4))
 .skip))
 (Rg [oM 15 0,oM 4 15]
 (Fr 4))))⟩
def YkH(lo:Lo):FnE:=Zfe 1078 true (Zsg [0,1] [.s,.s] []) .s [] (fun x=>q71 lo x.1 x.2:ByteArray×ByteArray->Option ByteArray)
def fs72(lo:Lo):List FnE:=YkH lo::fs71 lo
theorem Ysg(h:GZ P fm fs71 lo)(t:Ti P fm 1078 Ysf):GZ P fm fs72 lo:=
  h.p (YkH lo) .n t
def q72(lo:Lo)(s0:ByteArray)(suffix1:ByteArray):Option ByteArray:=
  YxU (q71 lo s0 suffix1) fun y274=>some y274
def Ysh:VFn:=⟨true,8,[.t 4],
 (Rg [o 4 (.mv (ks (⟨#[]⟩)))]
 (Rg [oM 5 0,oM 6 1,oC 7 1078 [5,6],oM 4 7]
 (Fr 4)))⟩
def YkI(lo:Lo):FnE:=Zfe 172 true (Zsg [0,1] [.s,.s] []) .s [] (fun x=>q72 lo x.1 x.2:ByteArray×ByteArray->Option ByteArray)
def fs73(lo:Lo):List FnE:=YkI lo::fs72 lo
theorem Ysi(h:GZ P fm fs72 lo)(t:Ti P fm 172 Ysh):GZ P fm fs73 lo:=
  h.p (YkI lo) .n t
def q73(lo:Lo)(s sep:ByteArray):Option Zt4:=Yve s sep
def Ysj(lo:Lo):FnE:=vsplitE 171
def fs74(lo:Lo):List FnE:=Ysj lo::fs73 lo
theorem Ysk(h:GZ P fm fs73 lo)(hG: ∀f,fm f=171->YtJ P f=true/\ ∃ρ:Go.Shelf.Ren,Go.Proofs.Lays.n146 P ρ/\ (P.info? (ρ.t 9)).map (fun i=>(i.zero,i.size,i.bytes))=some (some (.string ByteArray.empty),1,16)/\ (∃q,(ρ.g 1,q)∈fm.tb/\ ∀c,q c-> ∃m,c= #[.int .i64 m])/\ρ.f 146=f):GZ P fm fs74 lo:=
  ⟨h.1,h.2,YpP h.S rfl hG⟩
def q74_L3_b:VCode:=
 (Rg [oR 9 .lss 8 7]
 (.seq (Ce 9 0)
 (.seq (.blk 1 (Rg [oM 10 8,oM 5 10]
 (Rg [oM 11 1,oM 12 0,oM 13 5,oI 14 1 12 13,oL 15 14,oR 16 .eql 11 15]
 (.cond 16 (Rg [oM 17 5,oM 4 17]
 (Fr 4))
 .skip))))
 (.reg [oR 18 .add 8 (k 1),oM 8 18]))))
def Ybs(lo:Lo):Zt4×ByteArray×Int×Int->Option ((Zt4×ByteArray×Int×Int)⊕ (Int⊕Unit)):=fun x=>match x with
  | (s0,v1,v7,v8)=>bif(decide (v8<v7))then(chk (0<=v8/\v8< (s0.length:Int)) (bif(decide (v1=(s0.getD v8.toNat (Yx9 #[]))))then(some (.inr (.inl v8)))else(some (.inl (s0,v1,v7,(Yya .i64 (v8+1)))))))else(some (.inr (.inr ())))
def YfQ(lo:Lo):Zt4×ByteArray×Int×Int->Option (Int⊕Unit):=lo.run (Ybs lo)
def Ysl(lo:Lo):LpE:=⟨3,[],(Zsg [0,1,7,8] [.l (cs [.s]),.s,.j,.j] []),[⟨.ret,(Zsg [4] [.j] [])⟩,⟨.exit 0,(Zsg [] [] [])⟩],YfQ lo⟩
def Ysm(lo:Lo):LL:=(Ysl lo,.loop q74_L3_b.er)::[]
theorem Ysn(lo:Lo):Lk lo pf (fs74 lo) 0 (Ysm lo):=.l .n (Ybs lo)
def q74(lo:Lo)(s0:List ByteArray)(v1:ByteArray):Option Int:=
  YxU (YfQ lo (s0,v1,(s0.length:Int),(0:Int))) fun y278=>alt2 y278 (fun y279=>some y279) (fun y280=>some (-1:Int))
def Yso:VFn:=⟨true,19,[.t 4],
 (Rg [oK 4 0]
 (.seq (Rg [oM 6 0,oN 7 6,oK 8 0]
 (.blk 0 (.loop 3 q74_L3_b)))
 (Rg [oK 4 (-1)]
 (Fr 4))))⟩
def YkJ(lo:Lo):FnE:=Zfe 173 true (Zsg [0,1] [.l (cs [.s]),.s] []) (.i .i64) [] (fun x=>q74 lo x.1 x.2:Zt4×ByteArray->Option Int)
def fs75(lo:Lo):List FnE:=YkJ lo::fs74 lo
theorem Ysp(h:GZ P fm fs74 lo)(t:Ti P fm 173 Yso):GZ P fm fs75 lo:=
  h.p (YkJ lo) (Ysn lo) t
def q75(lo:Lo)(s:ByteArray)(b bs:Int):Option (Int×Bool):=YvK 64 Yuj s b bs
def Ysq(lo:Lo):FnE:=YwV 174
def fs76(lo:Lo):List FnE:=Ysq lo::fs75 lo
theorem Ysr(h:GZ P fm fs75 lo)(hG: ∀f,fm f=174->YtJ P f=true/\NumC P fm f .i64 64 Yuj):GZ P fm fs76 lo:=
  ⟨h.1,h.2,YjE h.S .i64 64 Yuj rfl hG⟩
def q76(lo:Lo)(s:ByteArray)(b bs:Int):Option (Int×Bool):=YvK 32 YtR s b bs
def Yss(lo:Lo):FnE:=YwD 175
def fs77(lo:Lo):List FnE:=Yss lo::fs76 lo
theorem Yst(h:GZ P fm fs76 lo)(hG: ∀f,fm f=175->YtJ P f=true/\NumC P fm f .u64 32 YtR):GZ P fm fs77 lo:=
  ⟨h.1,h.2,YjE h.S .u64 32 YtR rfl hG⟩
def q77_L9_b:VCode:=
 (Rg [oR 37 .lss 36 35]
 (.seq (Ce 37 0)
 (.seq (.blk 1 (Rg [oI 38 1 34 36,oL 39 38,oM 7 39]
 (Rg [oM 41 7,oC 42 174 [41,(k 10),(k 64)],oM 40 42,oE 43 40 0,oE 44 40 1,oM 8 43,oM 9 44]
 (.seq (Rg [oM 45 9,o 46 (.isi true 45),oM 47 46,gF 48 47 (.mv 8),gF 49 47 (.bin .gtr 48 (k 1000000000)),oP 50 47 (kb true) 49]
 (.cond 50 (Rg [o 51 (.build [.i .i64 0,.e (cs [I]),.i .u32 0,.i .u32 0] []),oS 4 2 51,oB 3 false]
 (.fz [2,3] .ret))
 .skip))
 (.reg [oF 52 1 5,oL 53 52,oM 54 8,o 55 (.bsl (cs [I]) 1 [(0,54)]),o 56 (.app (cs [I]) 0 53 55),oF 57 1 5,oS 1 57 56])))))
 (.reg [oR 58 .add 36 (k 1),oM 36 58]))))
def Yda(lo:Lo):Zp5->Option (Zp5⊕ ((Bool×Int× (List Int)×Int×Int)⊕Zp6)):=fun x=>match x with
  | (s0,words4,v34,v35,v36,v2_0,v2_1,v2_2,v2_3,d5_0,d5_1,d5_2,h2)=>bif(decide (v36<v35))then(chk (0<=v36/\v36< (v34.length:Int)) (YxU (q75 lo (v34.getD v36.toNat (Yx9 #[])) (10:Int) (64:Int)) fun y283=>bif y283.2 then(some (.inr (.inl (false,(0:Int),([]:List Int),(0:Int),(0:Int)))))else(bif(decide ((1000000000:Int)<y283.1))then(some (.inr (.inl (false,(0:Int),([]:List Int),(0:Int),(0:Int)))))else(chk (h2.length+[y283.1].length<=maxEl) (some (.inl (s0,words4,v34,v35,(Yya .i64 (v36+1)),v2_0,v2_1,v2_2,v2_3,d5_0,d5_1,d5_2,(h2++[y283.1]))))))))else(some (.inr (.inr (s0,words4,v2_0,v2_1,v2_2,v2_3,d5_0,d5_1,d5_2,h2))))
def Ycj(lo:Lo):Zp5->Option ((Bool×Int× (List Int)×Int×Int)⊕Zp6):=lo.run (Yda lo)
def Ysu(lo:Lo):LpE:=⟨9,[(5,some 1,false)],(Zsg [0,2,4,5,34,35,36] [.s,.ptr 0 0 0,.l (cs [.s]),.ptr 1 0 0,.l (cs [.s]),.j,.j] [.st [.j,.l (cs [I]),.i .u32,.i .u32],.st [.j,.ref 2,.i .u32,.i .u32],.sq (cs [I])]),[⟨.ret,(Zsg [2,3] [.ptr 0 0 0,.b] [.st [.j,.l (cs [I]),.i .u32,.i .u32]])⟩,⟨.exit 0,(Zsg [0,2,4,5] [.s,.ptr 0 0 0,.l (cs [.s]),.ptr 1 0 0] [.st [.j,.l (cs [I]),.i .u32,.i .u32],.st [.j,.ref 2,.i .u32,.i .u32],.sq (cs [I])])⟩],Ycj lo⟩
def YkK(lo:Lo):LL:=(Ysu lo,.loop q77_L9_b.er)::[]
theorem Ysv(lo:Lo):Lk lo pf (fs77 lo) 0 (YkK lo):=.l .n (Yda lo)
def q77_J21_b:VCode:=
 (Rg [oM 60 4,o 61 (.iad 1 60 (k 2)),oL 62 61,oC 63 175 [62,(k 10),(k 32)],oM 59 63,oE 64 59 0,oE 65 59 1,oM 10 64,oM 11 65]
 (Rg [oM 67 4,o 68 (.iad 1 67 (k 4)),oL 69 68,oC 70 175 [69,(k 10),(k 32)],oM 66 70,oE 71 66 0,oE 72 66 1,oM 12 71,oM 13 72]
 (.seq (Rg [oM 73 11,o 74 (.isi true 73),oM 75 74,gF 76 75 (.mv 13),gF 77 75 (.isi true 76),oP 78 75 (kb true) 77]
 (.cond 78 (Rg [o 79 (.build [.i .i64 0,.e (cs [I]),.i .u32 0,.i .u32 0] []),oS 4 2 79,oB 3 false]
 (.fz [2,3] .ret))
 .skip))
 (Rg [oM 80 10,o 81 (.conv .u32 80),oM 82 12,o 83 (.conv .u32 82),o 84 (.build [.i .u32 0,.i .u32 0] [(0,1,81),(1,1,83)]),oF 85 2 5,oS 2 85 84]
 (Rg [oT 86 4 5,oT 87 4 5,oC 88 150 [87],oM 89 0,oR 90 .eql 88 89,oS 4 2 86,oM 3 90]
 (.fz [2,3] .ret))))))
def Ydb(lo:Lo):Zp6->Option ((Bool×Int× (List Int)×Int×Int)):=fun x=>match x with
  | (s0,words4,v2_0,v2_1,v2_2,v2_3,d5_0,d5_1,d5_2,h2)=>chk (0<=(2:Int)/\ (2:Int)< (words4.length:Int)) (YxU (q76 lo (words4.getD 2 (Yx9 #[])) (10:Int) (32:Int)) fun y287=>chk (0<=(4:Int)/\ (4:Int)< (words4.length:Int)) (YxU (q76 lo (words4.getD 4 (Yx9 #[])) (10:Int) (32:Int)) fun y288=>bif y287.2 then(some (false,(0:Int),([]:List Int),(0:Int),(0:Int)))else(bif y288.2 then(some (false,(0:Int),([]:List Int),(0:Int),(0:Int)))else(YxU (q30 lo d5_0 h2 (Yya .u32 y287.1) (Yya .u32 y288.1)) fun y289=>some ((decide (y289=s0)),d5_0,h2,(Yya .u32 y287.1),(Yya .u32 y288.1))))))
def Ysw(lo:Lo):LpE:=⟨21,[(5,some 1,false)],(Zsg [0,2,4,5] [.s,.ptr 0 0 0,.l (cs [.s]),.ptr 1 0 0] [.st [.j,.l (cs [I]),.i .u32,.i .u32],.st [.j,.ref 2,.i .u32,.i .u32],.sq (cs [I])]),[⟨.ret,(Zsg [2,3] [.ptr 0 0 0,.b] [.st [.j,.l (cs [I]),.i .u32,.i .u32]])⟩],Ydb lo⟩
def Ysx(lo:Lo):LL:=(Ysw lo,q77_J21_b.er)::YkK lo
theorem Ysy(lo:Lo):Lk lo pf (fs77 lo) 0 (Ysx lo):=.j (Ysv lo)
def q77(lo:Lo)(s0:ByteArray):Option (Int× (List Int)×Int×Int×Bool):=
  YxU (q72 lo s0 (Yx9 #[10])) fun y275=>YxU (q73 lo y275 (Yx9 #[32])) fun y276=>bif(!decide ((y276.length:Int)=5))then(some ((0:Int),([]:List Int),(0:Int),(0:Int),false))else(YxU (q26 lo) fun y277=>chk (0<=(0:Int)/\ (0:Int)< (y276.length:Int)) (YxU (q74 lo y277 (y276.getD 0 (Yx9 #[]))) fun y281=>chk (0<=(1:Int)/\ (1:Int)< (y276.length:Int)) (bif(!decide ((y276.getD 1 (Yx9 #[]))=(Yx9 #[45])))then(chk (0<=(1:Int)/\ (1:Int)< (y276.length:Int)) (YxU (q73 lo (y276.getD 1 (Yx9 #[])) (Yx9 #[44])) fun y282=>YxU (Ycj lo (s0,y276,y282,(y282.length:Int),(0:Int),(0:Int),([]:List Int),(0:Int),(0:Int),y281,(0:Int),(0:Int),[])) fun y284=>alt2 y284 (fun y285=>some (y285.2.1,y285.2.2.1,y285.2.2.2.1,y285.2.2.2.2,y285.1)) (fun y286=>YxU (Ydb lo (y286.1,y286.2.1,y286.2.2.1,y286.2.2.2.1,y286.2.2.2.2.1,y286.2.2.2.2.2.1,y286.2.2.2.2.2.2.1,y286.2.2.2.2.2.2.2.1,y286.2.2.2.2.2.2.2.2.1,y286.2.2.2.2.2.2.2.2.2)) fun y290=>some (y290.2.1,y290.2.2.1,y290.2.2.2.1,y290.2.2.2.2,y290.1))))else(YxU (Ydb lo (s0,y276,(0:Int),([]:List Int),(0:Int),(0:Int),y281,(0:Int),(0:Int),[])) fun y291=>some (y291.2.1,y291.2.2.1,y291.2.2.2.1,y291.2.2.2.2,y291.1)))))
def Ysz:VFn:=⟨true,91,[.c 2 true 4,.t 3],
 (Rg [o 2 (.alloc [.i .i64 0,.e (cs [I]),.i .u32 0,.i .u32 0]),oB 3 false]
 (Rg [oM 14 0,oC 15 172 [14,(ks (⟨#[10]⟩))],oC 16 171 [15,(ks (⟨#[32]⟩))],oM 4 16]
 (.seq (Rg [oM 17 4,oN 18 17,oR 19 .neq 18 (k 5)]
 (.cond 19 (Rg [o 20 (.build [.i .i64 0,.e (cs [I]),.i .u32 0,.i .u32 0] []),oS 4 2 20,oB 3 false]
 (.fz [2,3] .ret))
 .skip))
 (Rg [⟨some 21,.call 168 [],none,true,false⟩,oM 22 4,⟨some 23,.iad 1 22 (k 0),none,true,false⟩,⟨some 24,.load false 1 23,none,true,false⟩,⟨some 25,.call 173 [21,24],none,true,false⟩,o 26 (.build [.i .i64 0,.e (cs [I]),.i .u32 0,.i .u32 0] [(0,1,25)]),o 5 (.alloc [.i .i64 0,.e (cs [I]),.i .u32 0,.i .u32 0]),oS 4 5 26]
 (.seq (Rg [oM 27 4,o 28 (.iad 1 27 (k 1)),oL 29 28,oR 30 .neq 29 (ks (⟨#[45]⟩))]
 (.cond 30 (Rg [oM 31 4,o 32 (.iad 1 31 (k 1)),oL 33 32,oC 34 171 [33,(ks (⟨#[44]⟩))],oN 35 34,oK 36 0]
 (.blk 0 (.loop 9 q77_L9_b)))
 .skip))
 (.jn 21 q77_J21_b))))))⟩
def YfR(lo:Lo):FnE:=Zfe 155 true (Zsg [0] [.s] []) (.tp [.ag [.j,.l (cs [I]),.i .u32,.i .u32],.b]) [] (fun x=>q77 lo x:ByteArray->Option (Int× (List Int)×Int×Int×Bool))
def fs78(lo:Lo):List FnE:=YfR lo::fs77 lo
theorem YsA(h:GZ P fm fs77 lo)(t:Ti P fm 155 Ysz):GZ P fm fs78 lo:=
  h.p (YfR lo) (Ysy lo) t
def q78(lo:Lo)(s:ByteArray):Option (Zt0×Int×Int):=YuY (q77 lo) s
def YsB(lo:Lo):FnE:=(fun g=>parseE g (q77 lo)) 128
def fs79(lo:Lo):List FnE:=YsB lo::fs78 lo
theorem YsC(h:GZ P fm fs78 lo)(hG: ∀f,fm f=128->YtJ P f=true/\Yv1 P fm f 155):GZ P fm fs79 lo:=
  ⟨h.1,h.2,YpY h.S (F:=q77 lo) (e:=YfR lo) (g:=128) (by first|exact Yxt .. |simp[FnIn]) rfl rfl rfl hG⟩
def q79_L3_b:VCode:=
 (.seq (Rg [oM 11 5,oM 12 0,oN 13 12,oR 14 .lss 11 13]
 (Ce 14 0))
 (.seq (.blk 1 (Rg [oM 17 0,oM 18 5,oI 19 4 17 18,oF 20 0 19,oL 21 20,oM 22 1,oM 23 5,oI 24 4 22 23,oF 25 0 24,oL 26 25,oR 27 .neq 21 26,oM 28 27,gF 29 28 (.mv 0),gF 30 28 (.mv 5),gF 31 28 (.iad 4 29 30),gF 32 28 (.fad 2 31),gF 33 28 (.load true 2 32),gF 34 28 (.mv 1),gF 35 28 (.mv 5),gF 36 28 (.iad 4 34 35),gF 37 28 (.fad 2 36),gF 38 28 (.load true 2 37),gF 39 28 (.eqa true [1,1] 33 38),oP 40 28 (kb true) 39,oM 41 40,gF 42 41 (.mv 0),gF 43 41 (.mv 5),gF 44 41 (.iad 4 42 43),gF 45 41 (.fad 1 44),gF 46 41 (.load false 1 45),gF 47 41 (.mv 1),gF 48 41 (.mv 5),gF 49 41 (.iad 4 47 48),gF 50 41 (.fad 1 49),gF 51 41 (.load false 1 50),gF 52 41 (.call 123 [46,51]),gF 53 41 (.not 52),oP 54 41 (kb true) 53]
 (.cond 54 (Rg [oB 4 false]
 (Fr 4))
 .skip)))
 (.reg [oM 15 5,oR 16 .add 15 (k 1),oM 5 16])))
def Ydc(lo:Lo):Zt0×Zt0×Int->Option ((Zt0×Zt0×Int)⊕ (Bool⊕Unit)):=fun x=>match x with
  | (a0,b1,i5)=>bif(decide (i5< (a0.length:Int)))then(chk (0<=i5/\i5< (a0.length:Int)) (chk (0<=i5/\i5< (b1.length:Int)) (bif(!decide ((a0.getD i5.toNat ((0:Int),[],(0:Int),(0:Int))).1=(b1.getD i5.toNat ((0:Int),[],(0:Int),(0:Int))).1))then(some (.inr (.inl false)))else(chk (0<=i5/\i5< (a0.length:Int)) (chk (0<=i5/\i5< (b1.length:Int)) (bif(!((decide ((a0.getD i5.toNat ((0:Int),[],(0:Int),(0:Int))).2.2.1=(b1.getD i5.toNat ((0:Int),[],(0:Int),(0:Int))).2.2.1))&& ((decide ((a0.getD i5.toNat ((0:Int),[],(0:Int),(0:Int))).2.2.2=(b1.getD i5.toNat ((0:Int),[],(0:Int),(0:Int))).2.2.2))&&true)))then(some (.inr (.inl false)))else(chk (0<=i5/\i5< (a0.length:Int)) (chk (0<=i5/\i5< (b1.length:Int)) (YxU (q64 lo ((a0.getD i5.toNat ((0:Int),[],(0:Int),(0:Int))).2.1) ((b1.getD i5.toNat ((0:Int),[],(0:Int),(0:Int))).2.1)) fun y293=>bif(!y293)then(some (.inr (.inl false)))else(some (.inl (a0,b1,(Yya .i64 (i5+1))))))))))))))else(some (.inr (.inr ())))
def YfS(lo:Lo):Zt0×Zt0×Int->Option (Bool⊕Unit):=lo.run (Ydc lo)
def YsD(lo:Lo):LpE:=⟨3,[],(Zsg [0,1,5] [.l Zc1,.l Zc1,.j] []),[⟨.ret,(Zsg [4] [.b] [])⟩,⟨.exit 0,(Zsg [] [] [])⟩],YfS lo⟩
def YsE(lo:Lo):LL:=(YsD lo,.loop q79_L3_b.er)::[]
theorem YsF(lo:Lo):Lk lo pf (fs79 lo) 0 (YsE lo):=.l .n (Ydc lo)
def q79(lo:Lo)(a0:List (Int× (List Int)×Int×Int))(b1:List (Int× (List Int)×Int×Int)):Option Bool:=
  bif(!decide ((a0.length:Int)=(b1.length:Int)))then(some false)else(YxU (YfS lo (a0,b1,(0:Int))) fun y294=>alt2 y294 (fun y295=>some y295) (fun y296=>some true))
def YsG:VFn:=⟨true,55,[.t 4],
 (Rg [oB 4 false]
 (.seq (Rg [oM 6 0,oN 7 6,oM 8 1,oN 9 8,oR 10 .neq 7 9]
 (.cond 10 (Rg [oB 4 false]
 (Fr 4))
 .skip))
 (.seq (Rg [oK 5 0]
 (.blk 0 (.loop 3 q79_L3_b)))
 (Rg [oB 4 true]
 (Fr 4)))))⟩
def YkL(lo:Lo):FnE:=Zfe 120 true (Zsg [0,1] [.l Zc1,.l Zc1] []) .b [] (fun x=>q79 lo x.1 x.2:Zt0×Zt0->Option Bool)
def fs80(lo:Lo):List FnE:=YkL lo::fs79 lo
theorem YsH(h:GZ P fm fs79 lo)(t:Ti P fm 120 YsG):GZ P fm fs80 lo:=
  h.p (YkL lo) (YsF lo) t
def q80_L6_b:VCode:=
 (Rg [oR 38 .lss 37 36]
 (.seq (Ce 38 2)
 (.seq (.blk 3 (Rg [oI 39 1 35 37,oL 40 39,oM 7 40]
 (Rg [oM 41 7,oR 42 .gtr 41 (k 1000000000)]
 (.cond 42 (Rg [oB 2 true]
 (Fr 2))
 .skip))))
 (.reg [oR 43 .add 37 (k 1),oM 37 43]))))
def Yck(lo:Lo):Zp9->Option (Zp9⊕ (Bool⊕Zp13)):=fun x=>match x with
  | (steps0,s3,v25,v26,v27,v35,v36,v37)=>bif(decide (v37<v36))then(chk (0<=v37/\v37< (v35.length:Int)) (bif(decide ((1000000000:Int)< (v35.getD v37.toNat (0:Int))))then(some (.inr (.inl true)))else(some (.inl (steps0,s3,v25,v26,v27,v35,v36,(Yya .i64 (v37+1)))))))else(some (.inr (.inr (steps0,s3,v25,v26,v27))))
def Ycl(lo:Lo):Zp9->Option (Bool⊕Zp13):=lo.run (Yck lo)
def YsI(lo:Lo):LpE:=⟨6,[],(Zsg [0,3,25,26,27,35,36,37] [.l Zc1,.s,.l Zc1,.j,.j,.l (cs [I]),.j,.j] []),[⟨.ret,(Zsg [2] [.b] [])⟩,⟨.exit 2,(Zsg [0,3,25,26,27] [.l Zc1,.s,.l Zc1,.j,.j] [])⟩],Ycl lo⟩
def YkM(lo:Lo):LL:=(YsI lo,.loop q80_L6_b.er)::[]
theorem YsJ(lo:Lo):Lk lo pf (fs80 lo) 0 (YkM lo):=.l .n (Yck lo)
def q80_L4_b:VCode:=
 (Rg [oR 28 .lss 27 26]
 (.seq (Ce 28 0)
 (.seq (.blk 1 (Rg [oI 29 4 25 27,oT 30 4 29,o 5 (.alloc [.i .i64 0,.e (cs [I]),.i .u32 0,.i .u32 0]),oS 4 5 30]
 (.seq (Rg [oT 31 4 5,oC 32 127 [31],oR 33 .eql 32 (ks (⟨#[]⟩))]
 (.cond 33 (Rg [oB 2 true]
 (Fr 2))
 .skip))
 (Rg [oF 34 1 5,oL 35 34,oN 36 35,oK 37 0]
 (.blk 2 (.loop 6 q80_L6_b))))))
 (.reg [oR 44 .add 27 (k 1),oM 27 44]))))
def YbN(lo:Lo):Zp13->Option (Zp13⊕ (Bool⊕ (Zt0×ByteArray))):=fun x=>match x with
  | (steps0,s3,v25,v26,v27)=>bif(decide (v27<v26))then(chk (0<=v27/\v27< (v25.length:Int)) (YxU (q68 lo ((v25.getD v27.toNat ((0:Int),[],(0:Int),(0:Int))).1) ((v25.getD v27.toNat ((0:Int),[],(0:Int),(0:Int))).2.1) ((v25.getD v27.toNat ((0:Int),[],(0:Int),(0:Int))).2.2.1) ((v25.getD v27.toNat ((0:Int),[],(0:Int),(0:Int))).2.2.2)) fun y266=>bif(decide (y266=(Yx9 #[])))then(some (.inr (.inl true)))else(YxU (Ycl lo (steps0,s3,v25,v26,v27,(v25.getD v27.toNat ((0:Int),[],(0:Int),(0:Int))).2.1,(((v25.getD v27.toNat ((0:Int),[],(0:Int),(0:Int))).2.1).length:Int),(0:Int))) fun y267=>alt2 y267 (fun y268=>some (.inr (.inl y268))) (fun y269=>some (.inl (y269.1,y269.2.1,y269.2.2.1,y269.2.2.2.1,(Yya .i64 (y269.2.2.2.2+(1:Int)))))))))else(some (.inr (.inr (steps0,s3))))
def Ycm(lo:Lo):Zp13->Option (Bool⊕ (Zt0×ByteArray)):=lo.run (YbN lo)
def YsK(lo:Lo):LpE:=⟨4,[],(Zsg [0,3,25,26,27] [.l Zc1,.s,.l Zc1,.j,.j] []),[⟨.ret,(Zsg [2] [.b] [])⟩,⟨.exit 0,(Zsg [0,3] [.l Zc1,.s] [])⟩],Ycm lo⟩
def YsL(lo:Lo):LL:=(YsK lo,.loop q80_L4_b.er)::YkM lo
theorem YsM(lo:Lo):Lk lo pf (fs80 lo) 0 (YsL lo):=.l (YsJ lo) (YbN lo)
def q80(lo:Lo)(steps0:List (Int× (List Int)×Int×Int)):Option Bool:=
  YxU (q35 lo) fun y244=>bif(!y244)then(YxU (q35 lo) fun y245=>some y245)else(YxU (q36 lo steps0) fun y246=>bif(!y246)then(YxU (q35 lo) fun y247=>some y247)else(YxU (q34 lo steps0) fun y248=>YxU (q69 lo steps0) fun y265=>bif(!decide (y248=y265))then(some false)else(YxU (Ycm lo (steps0,y248,steps0,(steps0.length:Int),(0:Int))) fun y270=>alt2 y270 (fun y271=>some y271) (fun y272=>YxU (q78 lo y272.2) fun y292=>bif(decide (y292.2.2=(0:Int)))then(bif(decide (y292.2.1=(0:Int)))then(YxU (q79 lo y292.1 y272.1) fun y297=>some y297)else(some false))else(some false)))))
def YsN:VFn:=⟨true,62,[.t 2],
 (Rg [oB 2 false]
 (.seq (Rg [oC 11 109 [],oX 12 11,oM 13 12,gF 14 13 (.mv 0),gF 15 13 (.call 110 [14]),gF 16 13 (.not 15),oP 17 13 (kb true) 16]
 (.cond 17 (Rg [oC 18 109 [],oM 2 18]
 (Fr 2))
 .skip))
 (Rg [oM 19 0,oC 20 125 [19],oM 3 20]
 (.seq (Rg [oM 21 3,oM 22 0,oC 23 126 [22],oR 24 .neq 21 23]
 (.cond 24 (Rg [oB 2 false]
 (Fr 2))
 .skip))
 (.seq (Rg [oM 25 0,oN 26 25,oK 27 0]
 (.blk 0 (.loop 4 q80_L4_b)))
 (Rg [oM 46 3,oC 47 128 [46],oM 45 47,oE 48 45 0,oE 49 45 1,oE 50 45 2,oM 8 48,oM 9 49,oM 10 50]
 (Rg [oM 51 10,oR 52 .eql 51 (k 0),oM 53 52,gT 54 53 (.mv 9),gT 55 53 (.bin .eql 54 (k 0)),oP 56 53 55 (kb false),oM 57 56,gT 58 57 (.mv 8),gT 59 57 (.mv 0),gT 60 57 (.call 120 [58,59]),oP 61 57 60 (kb false),oM 2 61]
 (Fr 2))))))))⟩
def q80_f(lo:Lo):FnE:=Zfe 106 true (Zsg [0] [.l Zc1] []) .b [] (fun x=>q80 lo x:Zt0->Option Bool)
def fs81(lo:Lo):List FnE:=q80_f lo::fs80 lo
theorem YsO(h:GZ P fm fs80 lo)(t:Ti P fm 106 YsN):GZ P fm fs81 lo:=
  h.p (q80_f lo) (YsM lo) t
end Go.Abs.G12
