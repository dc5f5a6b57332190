/- Functions of the program as functions of data (written by program). No condition. -/
import Derived.Test.YtgjoneiojhakgaaB
set_option linter.unusedVariables false
set_option linter.unusedSimpArgs false
set_option linter.unusedSectionVars false
open List renaming mem_cons_self → YyA
open Nat renaming beq → YyV, blt → YyW, ble → YyZ
open Option renaming bind → Yy7
open ByteArray renaming mk → Yzr
open Go.IntKind renaming wrap → Yzs
namespace Go.Abs.G35
open Go Go.Abs
abbrev Zd1:Int×Int×ByteArray:=((0:Int),(0:Int),(Yzr #[]))
abbrev _root_.Go.Abs.SV.j:SV:=.i .i64
mutual
def ZtS:SV->List Ty
 | .i k=>[.i k]
 | .b=>[.b]
 | .s=>[.s]
 | .l c=>[.l c]
 | .pre _=>[I]
 | .ag l=>ZtL l
 | .tp l=>ZtL l
 | .clo _ l=>ZtL l
 |_=>[]
def ZtL:List SV->List Ty
 | []=>[]
 |a::r=>ZtS a++ZtL r
end
def ZtO:List SO->List Ty
 | []=>[]
 | .sq c::r=>.l c::ZtO r
 | .fm A _ c::r=>.l (sn c A)::ZtO r
 | .fp o c::r=>I:: .l (mapC o (.l c) .nil)::ZtO r
 | .st l::r=>ZtL l++ZtO r
 | .sb::r=>.s::ZtO r
 | .dd::r=>ZtO r
abbrev Zsg(t:List Nat)(v:List SV)(o:List SO):Sg:=⟨t,v,o,cs (ZtL v++ZtO o)⟩
abbrev Zfe(g:Nat)(p:Bool)(a:Sg)(r:SV)(o:List SO)(F:a.c.den->Option (cs (ZtS r++ZtO o)).den):FnE:=⟨g,p,a,r,o,_,F⟩
abbrev Zt3:Type:=List (Int×Int×ByteArray)
abbrev Zt0:Type:=List (Int×Int×Int×Zt3)
abbrev Zt1:Type:=List (Int×ByteArray× (List Int))
abbrev Zt2:Type:=List ByteArray
abbrev Zc5:Cs:=cs [I,I,.s]
abbrev Zc4:Cs:=cs [I,I,I,.l Zc5]
abbrev Zt6:Type:=List ((List Int))
abbrev Zc7:Cs:=cs [.l (cs [I])]
abbrev Zp8:Type:=Int×Int×Int×Zt3×Int×Int×Int×Int×Int×Zt0×Bool×Bool×Int×Zt1×Int×Zt3× (List Int)×Int×Int× (List Int)×Bool
abbrev Zp9:Type:=(Int×Int×Int×Int×Zt0×Bool×Bool×Int×Zt1×Int×Zt3× (List Int)×Int×Int× (List Int)×Bool)
abbrev Zp10:Type:=(Int×Int×Int×Zt0×Bool×Bool×Int×Zt1×Zt2×Int×Int× (List Int)×Bool)
abbrev Zp11:Type:=(Int×Int×Int×Int×Zt0×Bool×Bool×Int×Zt1×Int×Zt3× (List Int))
abbrev Zp12:Type:=Zt3×Int×Int×Int×Int×Int×Zt0×Bool×Bool×Int×Zt1×Zt3
abbrev Zp13:Type:=Int×Int×Int×Int×Int×Zt0×Bool×Bool×Int×Zt1×Zt6×Zt2
abbrev Zp14:Type:=Int×Int×Int×Int×Zt0×Bool×Bool×Int×Zt1
abbrev Zp15:Type:=Int×Int×Int×Int×ByteArray×ByteArray
abbrev Zp16:Type:=Int×Int×Int×Bool×Bool× (List Int)
abbrev Zp17:Type:=Int×Int×Int×Bool×Bool×Zt2
instance{n:Nat}:OfNat VOpd n:=⟨.t n⟩
abbrev Rg(l:List VI)(b:VCode):VCode:=.seq (.reg l) b
abbrev Fr(n:Nat):VCode:=.fz [n] .ret
abbrev Ce(c e:Nat):VCode:=.cond (t c) .skip (.exit e)
abbrev oM(n a:Nat):VI:=o n (.mv (t a))
abbrev oL(n a:Nat):VI:=o n (.load false 1 (t a))
abbrev oT(n s a:Nat):VI:=o n (.load true s (t a))
abbrev oF(n i a:Nat):VI:=o n (.fad i (t a))
abbrev oE(n a i:Nat):VI:=o n (.ext (t a) i)
abbrev oN(n a:Nat):VI:=o n (.len (t a))
abbrev oI(n e a i:Nat):VI:=o n (.iad e (t a) (t i))
abbrev oS(n a b:Nat):VI:=on (.store n (t a) (t b))
abbrev oP(n c:Nat)(a b:VOpd):VI:=o n (.pick (t c) a b)
abbrev oK(n:Nat)(a:Int):VI:=o n (.mv (k a))
abbrev oB(n:Nat)(a:Bool):VI:=o n (.mv (kb a))
abbrev oC(n f:Nat)(l:List VOpd):VI:=o n (.call f l)
abbrev oX(n a:Nat):VI:=o n (.not (t a))
abbrev oG(n a:Nat):VI:=o n (.box (t a))
abbrev oR(n:Nat)(p:BinOp)(a b:VOpd):VI:=o n (.bin p a b)
abbrev gT(n g:Nat)(p:VOp):VI:=og n g true p
abbrev gF(n g:Nat)(p:VOp):VI:=og n g false p
set_option maxRecDepth 100000
set_option maxHeartbeats 1000000
variable{P:Program}{fm:FM}{lo:Lo}
abbrev pf:Nat->Bool:=fun g=> !(List.any ([310,337,339,340,341,342,343,345,347,349,353,356,293,362,365,366,309,149,151,374,164,196,323,324,388,389,327,390,271,364,367,301,373,375,311,312,313,315,316,318,319,377,378,379,380,382,383,384,385,322,386,387,308,245]:List Nat) (YyV g))
abbrev GZ(P:Program)(fm:FM)(fs:Lo->List FnE)(lo:Lo):Prop:=GS P fm pf (fs lo) lo
abbrev Ti(P:Program)(fm:FM)(g:Nat)(F:VFn):Prop:=TieF P fm pf g F
def fs0(_:Lo):List FnE:=[]
def q0(lo:Lo)(n0:Int)(s1:Int):Option Int:=
  bif(decide (n0<0))then(some (7:Int))else(bif(decide (16<n0))then(some (7:Int))else(chk (0<=n0) (bif(!decide ((s1.fdiv (2^(min n0.toNat (IntKind.bits .u32))))=(0:Int)))then(some (6:Int))else(none))))
def Yrt:VFn:=⟨true,22,[.t 4,.t 5],
 (Rg [o 4 (.mv (.c (.one .nl))),oK 5 0]
 (.seq (Rg [oM 6 0,oR 7 .lss 6 (k 0),oM 8 7,gF 9 8 (.mv 0),gF 10 8 (.bin .gtr 9 (k 16)),oP 11 8 (kb true) 10]
 (.cond 11 (Rg [o 4 (.mv (.c (.one .nl))),oK 5 7]
 (Fr 4))
 .skip))
 (.seq (Rg [oM 12 1,oM 13 0,oR 14 .shr 12 13,oR 15 .neq 14 (ki .u32 0)]
 (.cond 15 (Rg [o 4 (.mv (.c (.one .nl))),oK 5 6]
 (Fr 4))
 .skip))
 (Rg [oM 16 0,oM 17 1,o 18 (.mkm (some .i64) I (cs [.l Zc5]) true),o 19 (.mkmF none (cs [I])),o 20 (.build [.i .i64 0,.i .u32 0,.v (.map none),.v (.map none)] [(0,1,16),(1,1,17),(2,1,18),(3,1,19)]),oG 21 20,oM 4 21,oK 5 0]
 (Fr 4)))))⟩
def Yks(lo:Lo):FnE:=Zfe 337 false (Zsg [0,1] [.j,.i .u32] []) (.tp [.nl,.j]) [] (fun x=>q0 lo x.1 x.2:Int×Int->Option Int)
def fs1(lo:Lo):List FnE:=Yks lo::fs0 lo
theorem Yru(h:GZ P fm fs0 lo)(t:Ti P fm 337 Yrt):GZ P fm fs1 lo:=
  h.i (Yks lo) .n t
def q1(lo:Lo)(n0:Int)(s1:Int):Option Zp14:=
  bif(decide (n0<0))then(none)else(bif(decide (16<n0))then(none)else(chk (0<=n0) (bif(!decide ((s1.fdiv (2^(min n0.toNat (IntKind.bits .u32))))=(0:Int)))then(none)else(some ((0:Int),n0,s1,(0:Int),([]:List (Int×Int×Int×Zt3)),false,false,(0:Int),([]:List (Int×ByteArray× (List Int))))))))
def Yrv:VFn:=⟨true,22,[.t 4,.t 5],
 (Rg [o 4 (.mv (.c (.one .nl))),oK 5 0]
 (.seq (Rg [oM 6 0,oR 7 .lss 6 (k 0),oM 8 7,gF 9 8 (.mv 0),gF 10 8 (.bin .gtr 9 (k 16)),oP 11 8 (kb true) 10]
 (.cond 11 (Rg [o 4 (.mv (.c (.one .nl))),oK 5 7]
 .ret)
 .skip))
 (.seq (Rg [oM 12 1,oM 13 0,oR 14 .shr 12 13,oR 15 .neq 14 (ki .u32 0)]
 (.cond 15 (Rg [o 4 (.mv (.c (.one .nl))),oK 5 6]
 .ret)
 .skip))
 (Rg [oM 16 0,oM 17 1,o 18 (.mkm (some .i64) I (cs [.l Zc5]) true),o 19 (.mkmF none (cs [I])),o 20 (.build [.i .i64 0,.i .u32 0,.v (.map none),.v (.map none)] [(0,1,16),(1,1,17),(2,1,18),(3,1,19)]),oG 21 20,oM 4 21,oK 5 0]
 .ret))))⟩
def Ykt(lo:Lo):FnE:=Zfe 337 false (Zsg [0,1] [.j,.i .u32] []) (.tp [.ptr 0 0 0,.j]) [.st [.j,.i .u32,.np 1,.np 2],.st [.j,.l Zc4,.b,.b],.fp none (cs [I])] (fun x=>q1 lo x.1 x.2:Int×Int->Option Zp14)
def fs2(lo:Lo):List FnE:=Ykt lo::fs1 lo
theorem Yrw(h:GZ P fm fs1 lo)(t:Ti P fm 337 Yrv):GZ P fm fs2 lo:=
  h.i (Ykt lo) .n t
def q2(lo:Lo)(id0:Int)(n1:Int)(s2:ByteArray):Option (Int×Zt3):=
  some (id0,[((1:Int),n1,(Yzr #[])),((2:Int),(0:Int),s2)])
def Yrx:VFn:=⟨true,14,[.c 6 true 2],
 (Rg [o 6 (.alloc [.i .i64 0,.e Zc5])]
 (Rg [oM 7 0,oM 8 1,o 9 (.build [.i .i64 0,.i .i64 0,.s (⟨#[]⟩)] [(0,1,(k 1)),(1,1,8)]),oM 10 2,o 11 (.build [.i .i64 0,.i .i64 0,.s (⟨#[]⟩)] [(0,1,(k 2)),(2,1,10)]),o 12 (.bsl Zc5 2 [(0,9),(1,11)]),o 13 (.build [.i .i64 0,.e Zc5] [(0,1,7),(1,1,12)]),oS 2 6 13]
 (Fr 6)))⟩
def Yku(lo:Lo):FnE:=Zfe 358 true (Zsg [0,1,2] [.j,.j,.s] []) (.ag [.j,.l Zc5]) [] (fun x=>q2 lo x.1 x.2.1 x.2.2:Int×Int×ByteArray->Option (Int×Zt3))
def fs3(lo:Lo):List FnE:=Yku lo::fs2 lo
theorem Yry(h:GZ P fm fs2 lo)(t:Ti P fm 358 Yrx):GZ P fm fs3 lo:=
  h.p (Yku lo) .n t
def q3(lo:Lo)(v0_0:Int)(v0_1:Int)(v0_2:ByteArray):Option Bool:=
  bif(decide (v0_0=0))then(bif(decide (v0_1=0))then(some (decide (v0_2=(Yzr #[]))))else(some false))else(bif(decide (v0_0=1))then(some (decide (v0_2=(Yzr #[]))))else(bif(decide (v0_0=2))then(bif(decide (v0_1=0))then(some (decide ((v0_2.size:Int)<=200)))else(some false))else(bif(decide (v0_0=3))then(bif(decide (1<=v0_1))then(some (decide (v0_2=(Yzr #[]))))else(some false))else(some false))))
def Yrz:VFn:=⟨true,41,[.t 2],
 (Rg [oG 1 0,oB 2 false]
 (.seq (Rg [oF 3 0 1,oL 4 3]
 (.blk 0 (Rg [oR 6 .eql 4 (k 0),oM 5 6]
 (.cond 5 (Rg [oF 7 1 1,oL 8 7,oR 9 .eql 8 (k 0),oM 10 9,gT 11 10 (.fad 2 1),gT 12 10 (.load false 1 11),gT 13 10 (.bin .eql 12 (ks (⟨#[]⟩))),oP 14 10 13 (kb false),oM 2 14]
 (Fr 2))
 (Rg [oR 16 .eql 4 (k 1),oM 15 16]
 (.cond 15 (Rg [oF 17 2 1,oL 18 17,oR 19 .eql 18 (ks (⟨#[]⟩)),oM 2 19]
 (Fr 2))
 (Rg [oR 21 .eql 4 (k 2),oM 20 21]
 (.cond 20 (Rg [oF 22 1 1,oL 23 22,oR 24 .eql 23 (k 0),oM 25 24,gT 26 25 (.fad 2 1),gT 27 25 (.load false 1 26),gT 28 25 (.lenS 27),gT 29 25 (.bin .leq 28 (k 200)),oP 30 25 29 (kb false),oM 2 30]
 (Fr 2))
 (Rg [oR 32 .eql 4 (k 3),oM 31 32]
 (.cond 31 (Rg [oF 33 1 1,oL 34 33,oR 35 .geq 34 (k 1),oM 36 35,gT 37 36 (.fad 2 1),gT 38 36 (.load false 1 37),gT 39 36 (.bin .eql 38 (ks (⟨#[]⟩))),oP 40 36 39 (kb false),oM 2 40]
 (Fr 2))
 .skip))))))))))
 (Rg [oB 2 false]
 (Fr 2))))⟩
def Ykv(lo:Lo):FnE:=Zfe 283 true (Zsg [0] [.ag [.j,.j,.s]] []) .b [] (fun x=>q3 lo x.1 x.2.1 x.2.2:Int×Int×ByteArray->Option Bool)
def fs4(lo:Lo):List FnE:=Ykv lo::fs3 lo
theorem YrA(h:GZ P fm fs3 lo)(t:Ti P fm 283 Yrz):GZ P fm fs4 lo:=
  h.p (Ykv lo) .n t
def q4(lo:Lo)(v0_0:Int)(v0_1:Int)(v0_2:ByteArray):Option Bool:=
  Yy7 (q3 lo v0_0 v0_1 v0_2) fun y2=>some (!y2)
def YrB:VFn:=⟨true,6,[.t 2],
 (Rg [oG 1 0,oB 2 false]
 (Rg [oT 3 3 1,oC 4 283 [3],oX 5 4,oM 2 5]
 (Fr 2)))⟩
def Ykw(lo:Lo):FnE:=Zfe 360 true (Zsg [0] [.ag [.j,.j,.s]] []) .b [] (fun x=>q4 lo x.1 x.2.1 x.2.2:Int×Int×ByteArray->Option Bool)
def fs5(lo:Lo):List FnE:=Ykw lo::fs4 lo
theorem YrC(h:GZ P fm fs4 lo)(t:Ti P fm 360 YrB):GZ P fm fs5 lo:=
  h.p (Ykw lo) .n t
def q5_L3_b:VCode:=
 (Rg [oR 9 .lss 8 7]
 (.seq (Ce 9 0)
 (.seq (.blk 1 (Rg [oM 10 8,oM 5 10]
 (Rg [oM 11 1,oM 12 0,oM 13 5,oI 14 3 12 13,oT 15 3 14,o 16 (.dyn 11 [15])]
 (.cond 16 (Rg [oM 17 5,oM 4 17]
 .ret)
 .skip))))
 (.reg [oR 18 .add 8 (k 1),oM 8 18]))))
def Yei(lo:Lo):Zt3×Int×Int->Option ((Zt3×Int×Int)⊕ (Int⊕Unit)):=fun x=>match x with
  | (s0,v7,v8)=>bif(decide (v8<v7))then(chk (0<=v8/\v8< (s0.length:Int)) (Yy7 (q4 lo ((s0.getD v8.toNat Zd1).1) ((s0.getD v8.toNat Zd1).2.1) ((s0.getD v8.toNat Zd1).2.2)) fun y3=>bif y3 then(some (.inr (.inl v8)))else(some (.inl (s0,v7,(Yzs .i64 (v8+1)))))))else(some (.inr (.inr ())))
def Yf7(lo:Lo):Zt3×Int×Int->Option (Int⊕Unit):=lo.run (Yei lo)
def YrD(lo:Lo):LpE:=⟨3,[],(Zsg [0,1,7,8] [.l Zc5,.clo 360 [],.j,.j] []),[⟨.ret,(Zsg [4] [.j] [])⟩,⟨.exit 0,(Zsg [] [] [])⟩],Yf7 lo⟩
def YrE(lo:Lo):LL:=(YrD lo,.loop q5_L3_b.er)::[]
theorem YrF(lo:Lo):Lk lo pf (fs5 lo) 0 (YrE lo):=.l .n (Yei lo)
def q5(lo:Lo)(s0:List (Int×Int×ByteArray)):Option Int:=
  Yy7 (Yf7 lo (s0,(s0.length:Int),(0:Int))) fun y4=>alt2 y4 (fun y5=>some y5) (fun y6=>some (-1:Int))
def YrG:VFn:=⟨true,19,[.t 4],
 (Rg [oK 4 0]
 (.seq (Rg [oM 6 0,oN 7 6,oK 8 0]
 (.blk 0 (.loop 3 q5_L3_b)))
 (Rg [oK 4 (-1)]
 .ret)))⟩
def Ykx(lo:Lo):FnE:=Zfe 309 false (Zsg [0,1] [.l Zc5,.clo 360 []] []) (.i .i64) [] (fun x=>q5 lo x:Zt3->Option Int)
def fs6(lo:Lo):List FnE:=Ykx lo::fs5 lo
theorem YrH(h:GZ P fm fs5 lo)(t:Ti P fm 309 YrG):GZ P fm fs6 lo:=
  h.i (Ykx lo) (YrF lo) t
def q6(lo:Lo)(s0:List (Int×Int×ByteArray)):Option Bool:=
  Yy7 (q5 lo s0) fun y7=>some (decide (0<=y7))
def YrI:VFn:=⟨true,9,[.t 4],
 (Rg [oB 4 false]
 (Rg [oM 5 0,oM 6 1,oC 7 309 [5,6],oR 8 .geq 7 (k 0),oM 4 8]
 .ret))⟩
def Yky(lo:Lo):FnE:=Zfe 293 false (Zsg [0,1] [.l Zc5,.clo 360 []] []) .b [] (fun x=>q6 lo x:Zt3->Option Bool)
def fs7(lo:Lo):List FnE:=Yky lo::fs6 lo
theorem YrJ(h:GZ P fm fs6 lo)(t:Ti P fm 293 YrI):GZ P fm fs7 lo:=
  h.i (Yky lo) .n t
def q7(lo:Lo)(l:List (Int×Int×ByteArray)):Option Zt3:=bif YyZ l.length maxEl&&YyZ 1 3 then some l else none
def YrK(lo:Lo):FnE:=vcloneE 308 Zc5
def fs8(lo:Lo):List FnE:=YrK lo::fs7 lo
theorem YrL(h:GZ P fm fs7 lo)(htie: ∀f,fm f=308->fnTr P fm pf f=some (8,[.t 2],YvL 3 [(.int .i64 0),(.int .i64 0),(.string (⟨#[]⟩))])):GZ P fm fs8 lo:=
  ⟨h.1,h.2,YjY h.S h.mx Zc5 rfl [(.int .i64 0),(.int .i64 0),(.string (⟨#[]⟩))] 8 (by decide) htie⟩
def q8_L3_b:VCode:=
 (Rg [oR 12 .lss 11 10]
 (.seq (Ce 12 0)
 (.seq (.blk 1 (Rg [oM 13 11,oI 14 3 9 11,oT 15 3 14,o 7 (.alloc [.i .i64 0,.i .i64 0,.s (⟨#[]⟩)]),oM 6 13,oS 3 7 15]
 (Rg [oM 16 0,o 17 (.nilc 16),oF 18 1 17,oL 19 18,oM 20 6,oR 21 .shr 19 20,oR 22 .and 21 (ki .u32 1),oR 23 .eql 22 (ki .u32 1)]
 (.cond 23 (.reg [oM 24 5,oT 25 3 7,o 26 (.bsl Zc5 1 [(0,25)]),o 27 (.app Zc5 0 24 26),oM 5 27])
 .skip))))
 (.reg [oR 28 .add 11 (k 1),oM 11 28]))))
def Yej(lo:Lo):Zp12->Option (Zp12⊕ ((Int×Int×Int×Zt0×Bool×Bool×Int×Zt1×Zt3))):=fun x=>match x with
  | (v9,v10,v11,x0_0,x0_1,h1_0,h1_1,h1_2,h1_3,h2_0,h2_1,out5)=>bif(decide (v11<v10))then(chk (0<=v11/\v11< (v9.length:Int)) (chk (0<=v11) (bif(decide ((bits .and .u32 (x0_1.fdiv (2^(min v11.toNat (IntKind.bits .u32)))) (1:Int))=(1:Int)))then(chk (out5.length+([(v9.getD v11.toNat Zd1)]).length<=maxEl) (some (.inl (v9,v10,(Yzs .i64 (v11+1)),x0_0,x0_1,h1_0,h1_1,h1_2,h1_3,h2_0,h2_1,(out5++([(v9.getD v11.toNat Zd1)]))))))else(some (.inl (v9,v10,(Yzs .i64 (v11+1)),x0_0,x0_1,h1_0,h1_1,h1_2,h1_3,h2_0,h2_1,out5))))))else(some (.inr (x0_0,x0_1,h1_0,h1_1,h1_2,h1_3,h2_0,h2_1,out5)))
def Yf8(lo:Lo):Zp12->Option ((Int×Int×Int×Zt0×Bool×Bool×Int×Zt1×Zt3)):=lo.run (Yej lo)
def YrM(lo:Lo):LpE:=⟨3,[(5,none,false)],(Zsg [0,5,9,10,11] [.ptr 0 0 0,.ref 3,.l Zc5,.j,.j] [.st [.j,.i .u32,.np 1,.np 2],.st [.j,.l Zc4,.b,.b],.fp none (cs [I]),.sq Zc5]),[⟨.exit 0,(Zsg [0,5] [.ptr 0 0 0,.ref 3] [.st [.j,.i .u32,.np 1,.np 2],.st [.j,.l Zc4,.b,.b],.fp none (cs [I]),.sq Zc5])⟩],Yf8 lo⟩
def YrN(lo:Lo):LL:=(YrM lo,.loop q8_L3_b.er)::[]
theorem YrO(lo:Lo):Lk lo pf (fs8 lo) 3 (YrN lo):=.l .n (Yej lo)
def q8(lo:Lo)(r1_0:Int)(r1_1:List (Int×Int×ByteArray))(x0_0:Int)(x0_1:Int)(h1_0:Int)(h1_1:List (Int×Int×Int×Zt3))(h1_2:Bool)(h1_3:Bool)(h2_0:Int)(h2_1:List (Int×ByteArray× (List Int))):Option (Int×Int×Int×Zt0×Bool×Bool×Int×Zt1×Zt3):=
  Yy7 (Yf8 lo (r1_1,(r1_1.length:Int),(0:Int),x0_0,x0_1,h1_0,h1_1,h1_2,h1_3,h2_0,h2_1,[])) fun y10=>some (y10.1,y10.2.1,y10.2.2.1,y10.2.2.2.1,y10.2.2.2.2.1,y10.2.2.2.2.2.1,y10.2.2.2.2.2.2.1,y10.2.2.2.2.2.2.2.1,y10.2.2.2.2.2.2.2.2)
def YrP:VFn:=⟨true,30,[.t 4],
 (Rg [oG 3 1,o 4 (.mv (ke Zc5))]
 (Rg [o 5 (.mv (ke Zc5))]
 (.seq (Rg [oF 8 1 3,oL 9 8,oN 10 9,oK 11 0]
 (.blk 0 (.loop 3 q8_L3_b)))
 (Rg [oM 29 5,oM 4 29]
 .ret))))⟩
def Ykz(lo:Lo):FnE:=Zfe 362 false (Zsg [0,1] [.ptr 0 0 0,.ag [.j,.l Zc5]] [.st [.j,.i .u32,.np 1,.np 2],.st [.j,.l Zc4,.b,.b],.fp none (cs [I])]) (.ref 3) [.st [.j,.i .u32,.np 1,.np 2],.st [.j,.l Zc4,.b,.b],.fp none (cs [I]),.sq Zc5] (fun x=>q8 lo x.1 x.2.1 x.2.2.1 x.2.2.2.1 x.2.2.2.2.1 x.2.2.2.2.2.1 x.2.2.2.2.2.2.1 x.2.2.2.2.2.2.2.1 x.2.2.2.2.2.2.2.2.1 x.2.2.2.2.2.2.2.2.2:Int×Zt3×Int×Int×Int×Zt0×Bool×Bool×Int×Zt1->Option (Int×Int×Int×Zt0×Bool×Bool×Int×Zt1×Zt3))
def fs9(lo:Lo):List FnE:=Ykz lo::fs8 lo
theorem YrQ(h:GZ P fm fs8 lo)(t:Ti P fm 362 YrP):GZ P fm fs9 lo:=
  h.i (Ykz lo) (YrO lo) t
def q9_L3_b:VCode:=
 (.seq (Rg [oM 10 6,oR 11 .geq 10 (k 0)]
 (Ce 11 0))
 (.seq (.blk 1 (.reg [oM 14 0,oM 15 5,oM 16 6,oR 17 .shr 15 16,o 18 (.conv .u8 17),o 19 (.bsl (cs [.i .u8]) 1 [(0,18)]),o 20 (.appb 14 19),oM 0 20]))
 (.reg [oM 12 6,oR 13 .sub 12 (k 8),oM 6 13])))
def Yf9(lo:Lo):Int×Int×ByteArray->Option ((Int×Int×ByteArray)⊕ByteArray):=fun x=>match x with
  | (u5,shift6,out0)=>bif(decide (0<=shift6))then(chk (0<=shift6) (bif inB ([(Yzs .u8 (u5.fdiv (2^(min shift6.toNat (IntKind.bits .u64)))))])then(chk (out0.size+([(Yzs .u8 (u5.fdiv (2^(min shift6.toNat (IntKind.bits .u64)))))]).length<=maxEl) (some (.inl (u5,(Yzs .i64 (shift6-8)),(out0++Yvc ([(Yzs .u8 (u5.fdiv (2^(min shift6.toNat (IntKind.bits .u64)))))]))))))else none))else(some (.inr out0))
def Yga(lo:Lo):Int×Int×ByteArray->Option ByteArray:=lo.run (Yf9 lo)
def YrR(lo:Lo):LpE:=⟨3,[(0,some 0,false)],(Zsg [0,5,6] [.ref 1,.i .u64,.j] [.dd,.sb]),[⟨.exit 0,(Zsg [0] [.ref 1] [.dd,.sb])⟩],Yga lo⟩
def YrS(lo:Lo):LL:=(YrR lo,.loop q9_L3_b.er)::[]
theorem YrT(lo:Lo):Lk lo pf (fs9 lo) 1 (YrS lo):=.l .n (Yf9 lo)
def q9(lo:Lo)(n1:Int)(out0:ByteArray):Option ByteArray:=
  Yy7 (Yga lo ((bits .xor .u64 (Yzs .u64 n1) (9223372036854775808:Int)),(56:Int),out0)) fun y13=>some y13
def YrU:VFn:=⟨true,22,[.t 4],
 (Rg [o 4 (.mv (ke (cs [.i .u8])))]
 (Rg [oM 7 1,o 8 (.conv .u64 7),oR 9 .xor 8 (ki .u64 9223372036854775808),oM 5 9]
 (.seq (Rg [oK 6 56]
 (.blk 0 (.loop 3 q9_L3_b)))
 (Rg [oM 21 0,oM 4 21]
 .ret))))⟩
def YkA(lo:Lo):FnE:=Zfe 310 false (Zsg [0,1] [.ref 0,.j] [.sb]) (.ref 1) [.dd,.sb] (fun x=>q9 lo x.1 x.2:Int×ByteArray->Option ByteArray)
def fs10(lo:Lo):List FnE:=YkA lo::fs9 lo
theorem YrV(h:GZ P fm fs9 lo)(t:Ti P fm 310 YrU):GZ P fm fs10 lo:=
  h.i (YkA lo) (YrT lo) t
def q10_L5_b:VCode:=
 (Rg [oR 28 .lss 27 26]
 (.seq (Ce 28 1)
 (.seq (.blk 2 (Rg [oM 29 27,oM 5 29]
 (Rg [oM 30 4,oF 31 2 1,oL 32 31,oM 33 5,o 34 (.idx 32 33),o 35 (.bsl (cs [.i .u8]) 1 [(0,34)]),o 36 (.appb 30 35),oM 4 36]
 (Rg [oF 37 2 1,oL 38 37,oM 39 5,o 40 (.idx 38 39),oR 41 .eql 40 (ki .u8 0)]
 (.cond 41 (.reg [oM 42 4,o 43 (.bsl (cs [.i .u8]) 1 [(0,(ki .u8 255))]),o 44 (.appb 42 43),oM 4 44])
 .skip)))))
 (.reg [oR 45 .add 27 (k 1),oM 27 45]))))
def Yek(lo:Lo):Zp15->Option (Zp15⊕ByteArray):=fun x=>match x with
  | (v26,v27,v1_0,v1_1,v1_2,out4)=>bif(decide (v27<v26))then(chk (0<=v27/\v27< (v1_2.size:Int)) (bif inB ([(Yvg v1_2 v27)])then(chk (out4.size+([(Yvg v1_2 v27)]).length<=maxEl) (chk (0<=v27/\v27< (v1_2.size:Int)) (bif(decide ((Yvg v1_2 v27)=(0:Int)))then(bif inB ([(255:Int)])then(chk ((out4++Yvc ([(Yvg v1_2 v27)])).size+([(255:Int)]).length<=maxEl) (some (.inl (v26,(Yzs .i64 (v27+1)),v1_0,v1_1,v1_2,((out4++Yvc ([(Yvg v1_2 v27)]))++Yvc ([(255:Int)]))))))else none)else(some (.inl (v26,(Yzs .i64 (v27+1)),v1_0,v1_1,v1_2,(out4++Yvc ([(Yvg v1_2 v27)]))))))))else none))else(some (.inr out4))
def Ygb(lo:Lo):Zp15->Option ByteArray:=lo.run (Yek lo)
def YrW(lo:Lo):LpE:=⟨5,[],(Zsg [1,4,26,27] [.ptr 0 0 0,.ref 1,.j,.j] [.st [.j,.j,.s],.sb]),[⟨.exit 1,(Zsg [4] [.ref 0] [.sb])⟩],Ygb lo⟩
def YkB(lo:Lo):LL:=(YrW lo,.loop q10_L5_b.er)::[]
theorem YrX(lo:Lo):Lk lo pf (fs10 lo) 0 (YkB lo):=.l .n (Yek lo)
def q10_J17_b:VCode:=
 (.cond 15 (.reg [oM 18 4,oF 19 1 1,oL 20 19,oC 21 310 [18,20],oM 4 21])
 (Rg [oR 23 .eql 14 (k 2),oM 22 23]
 (.cond 22 (.seq (Rg [oF 24 2 1,oL 25 24,o 26 (.lenS 25),oK 27 0]
 (.blk 1 (.loop 5 q10_L5_b)))
 (.reg [oM 46 4,o 47 (.bsl (cs [.i .u8]) 2 [(0,(ki .u8 0)),(1,(ki .u8 1))]),o 48 (.appb 46 47),oM 4 48]))
 .skip)))
def YbT(lo:Lo):Int×Bool×Int×Int×ByteArray×ByteArray->Option ByteArray:=fun x=>match x with
  | (v14,v15,v1_0,v1_1,v1_2,out4)=>bif v15 then(Yy7 (q9 lo v1_1 out4) fun y14=>some y14)else(bif(decide (v14=2))then(Yy7 (Ygb lo ((v1_2.size:Int),(0:Int),v1_0,v1_1,v1_2,out4)) fun y15=>bif inB ([(0:Int),(1:Int)])then(chk (y15.size+([(0:Int),(1:Int)]).length<=maxEl) (some (y15++Yvc ([(0:Int),(1:Int)]))))else none)else(some out4))
def YrY(lo:Lo):LpE:=⟨17,[],(Zsg [1,4,14,15] [.ptr 0 0 0,.ref 1,.j,.b] [.st [.j,.j,.s],.sb]),[⟨.nor,(Zsg [4] [.ref 0] [.sb])⟩],YbT lo⟩
def YrZ(lo:Lo):LL:=(YrY lo,q10_J17_b.er)::YkB lo
theorem Yr0(lo:Lo):Lk lo pf (fs10 lo) 0 (YrZ lo):=.j (YrX lo)
def q10(lo:Lo)(v0_0:Int)(v0_1:Int)(v0_2:ByteArray):Option (ByteArray×Int):=
  Yy7 (q3 lo v0_0 v0_1 v0_2) fun y12=>bif(!y12)then(some ((Yzr #[]),(1:Int)))else(bif inB [(Yzs .u8 v0_0)]then(bif(decide (v0_0=1))then(Yy7 (YbT lo (v0_0,true,v0_0,v0_1,v0_2,(Yvc [(Yzs .u8 v0_0)]))) fun y16=>some (y16,(0:Int)))else(Yy7 (YbT lo (v0_0,(decide (v0_0=3)),v0_0,v0_1,v0_2,(Yvc [(Yzs .u8 v0_0)]))) fun y17=>some (y17,(0:Int))))else none)
def Yr1:VFn:=⟨true,51,[.t 2,.t 3],
 (Rg [oG 1 0,o 2 (.mv (ks (⟨#[]⟩))),oK 3 0]
 (.seq (Rg [oT 6 3 1,oC 7 283 [6],oX 8 7]
 (.cond 8 (Rg [o 2 (.mv (ks (⟨#[]⟩))),oK 3 1]
 (.fz [2,3] .ret))
 .skip))
 (Rg [oF 9 0 1,oL 10 9,o 11 (.conv .u8 10),o 12 (.litb [11]),oM 4 12]
 (.seq (Rg [oF 13 0 1,oL 14 13]
 (.blk 0 (.seq (Rg [oR 16 .eql 14 (k 1),oM 15 16]
 (.cond 15 .skip
 (.reg [oR 17 .eql 14 (k 3),oM 15 17])))
 (.jn 17 q10_J17_b))))
 (Rg [oM 49 4,o 50 (.bstr 49),oM 2 50,oK 3 0]
 (.fz [2,3] .ret))))))⟩
def YkC(lo:Lo):FnE:=Zfe 296 true (Zsg [0] [.ag [.j,.j,.s]] []) (.tp [.s,.j]) [] (fun x=>q10 lo x.1 x.2.1 x.2.2:Int×Int×ByteArray->Option (ByteArray×Int))
def fs11(lo:Lo):List FnE:=YkC lo::fs10 lo
theorem Yr2(h:GZ P fm fs10 lo)(t:Ti P fm 296 Yr1):GZ P fm fs11 lo:=
  h.p (YkC lo) (Yr0 lo) t
def q11(lo:Lo)(s:ByteArray):Option ByteArray:=some s
def Yr3(lo:Lo):FnE:=vchkE2 164
def fs12(lo:Lo):List FnE:=Yr3 lo::fs11 lo
theorem Yr4(h:GZ P fm fs11 lo)(hG: ∀f,fm f=164->Yu3 P f=true/\ ∃ρ:Go.Shelf.Ren,Go.Proofs.Lays.n240 P ρ/\BldOK P fm ρ/\ρ.f 240=f):GZ P fm fs12 lo:=
  ⟨h.1,h.2,YqK h.S rfl hG⟩
def q12(lo:Lo)(s1:ByteArray)(h1:ByteArray):Option (Int×ByteArray):=
  Yy7 (q11 lo h1) fun y19=>chk (y19.size=h1.size) (chk (y19.size+s1.size<=maxEl) (some ((s1.size:Int),(y19++s1))))
def Yr5:VFn:=⟨true,19,[.t 4,.t 5],
 (Rg [oK 4 0,o 5 (.mv (.c (.v .nilIface)))]
 (Rg [oM 6 0,oC 7 164 [6]]
 (Rg [oM 8 0,oM 9 0,o 10 (.nilc 9),oF 11 1 10,oL 12 11,oM 13 1,o 14 (.apps 12 13),o 15 (.nilc 8),oF 16 1 15,oS 1 16 14]
 (Rg [oM 17 1,o 18 (.lenS 17),oM 4 18,o 5 (.mv (.c (.v .nilIface)))]
 .ret))))⟩
def YkD(lo:Lo):FnE:=Zfe 149 false (Zsg [0,1] [.ptr 0 0 0,.s] [.st [.np 0,.ref 1],.sb]) (.tp [.j,.u]) [.st [.np 0,.ref 2],.dd,.sb] (fun x=>q12 lo x.1 x.2:ByteArray×ByteArray->Option (Int×ByteArray))
def fs13(lo:Lo):List FnE:=YkD lo::fs12 lo
theorem Yr6(h:GZ P fm fs12 lo)(t:Ti P fm 149 Yr5):GZ P fm fs13 lo:=
  h.i (YkD lo) .n t
def q13(lo:Lo)(s:ByteArray):Option ByteArray:=some s
def Yr7(lo:Lo):FnE:=vstrE 151
def fs14(lo:Lo):List FnE:=Yr7 lo::fs13 lo
theorem Yr8(h:GZ P fm fs13 lo)(hG: ∀f,fm f=151->Yu3 P f=true/\ ∃ρ:Go.Shelf.Ren,Go.Proofs.Lays.n169 P ρ/\BldOK P fm ρ/\fm.bu=ρ.t 5/\ρ.f 169=f):GZ P fm fs14 lo:=
  ⟨h.1,h.2,YqR h.S rfl hG⟩
def q14_L3_b:VCode:=
 (Rg [oR 11 .lss 10 9]
 (.seq (Ce 11 0)
 (.seq (.blk 1 (Rg [oI 12 3 8 10,oT 13 3 12,o 5 (.alloc [.i .i64 0,.i .i64 0,.s (⟨#[]⟩)]),oS 3 5 13]
 (Rg [oT 15 3 5,oC 16 296 [15],oM 14 16,oE 17 14 0,oE 18 14 1,oM 6 17,oM 7 18]
 (.reg [oM 19 6,oC 20 149 [3,19]]))))
 (.reg [oR 21 .add 10 (k 1),oM 10 21]))))
def Yel(lo:Lo):Zt3×Int×Int×ByteArray->Option ((Zt3×Int×Int×ByteArray)⊕ByteArray):=fun x=>match x with
  | (v8,v9,v10,h1)=>bif(decide (v10<v9))then(chk (0<=v10/\v10< (v8.length:Int)) (Yy7 (q10 lo ((v8.getD v10.toNat Zd1).1) ((v8.getD v10.toNat Zd1).2.1) ((v8.getD v10.toNat Zd1).2.2)) fun y18=>Yy7 (q12 lo y18.1 h1) fun y20=>some (.inl (v8,v9,(Yzs .i64 (v10+1)),y20.2))))else(some (.inr h1))
def Ygc(lo:Lo):Zt3×Int×Int×ByteArray->Option ByteArray:=lo.run (Yel lo)
def Yr9(lo:Lo):LpE:=⟨3,[],(Zsg [3,8,9,10] [.ptr 0 0 0,.l Zc5,.j,.j] [.st [.np 0,.ref 1],.sb]),[⟨.exit 0,(Zsg [3] [.ptr 0 0 0] [.st [.np 0,.ref 1],.sb])⟩],Ygc lo⟩
def Ysa(lo:Lo):LL:=(Yr9 lo,.loop q14_L3_b.er)::[]
theorem Ysb(lo:Lo):Lk lo pf (fs14 lo) 0 (Ysa lo):=.l .n (Yel lo)
def q14(lo:Lo)(l0:List (Int×Int×ByteArray)):Option ByteArray:=
  Yy7 (Ygc lo (l0,(l0.length:Int),(0:Int),(Yzr #[]))) fun y21=>Yy7 (q13 lo y21) fun y22=>some y22
def Ysc:VFn:=⟨true,23,[.t 2],
 (Rg [o 2 (.mv (ks (⟨#[]⟩)))]
 (Rg [o 3 (.bld)]
 (.ow [(3,some 1,false)] (.seq (Rg [oM 8 0,oN 9 8,oK 10 0]
 (.blk 0 (.loop 3 q14_L3_b)))
 (Rg [oC 22 151 [3],oM 2 22]
 (Fr 2))))))⟩
def YkE(lo:Lo):FnE:=Zfe 361 true (Zsg [0] [.l Zc5] []) .s [] (fun x=>q14 lo x:Zt3->Option ByteArray)
def fs15(lo:Lo):List FnE:=YkE lo::fs14 lo
theorem Ysd(h:GZ P fm fs14 lo)(t:Ti P fm 361 Ysc):GZ P fm fs15 lo:=
  h.p (YkE lo) (Ysb lo) t
def q15(lo:Lo)(x0:Int):Option Bool:=
  some (!decide (x0=x0))
def Yse:VFn:=⟨true,6,[.t 2],
 (Rg [oB 2 false]
 (Rg [oM 3 0,oM 4 0,oR 5 .neq 3 4,oM 2 5]
 (Fr 2)))⟩
def YkF(lo:Lo):FnE:=Zfe 376 true (Zsg [0] [.j] []) .b [] (fun x=>q15 lo x:Int->Option Bool)
def fs16(lo:Lo):List FnE:=YkF lo::fs15 lo
theorem Ysf(h:GZ P fm fs15 lo)(t:Ti P fm 376 Yse):GZ P fm fs16 lo:=
  h.p (YkF lo) .n t
def q16(lo:Lo)(x0:Int)(y1:Int):Option Bool:=
  Yy7 (q15 lo x0) fun y24=>bif y24 then(Yy7 (q15 lo y1) fun y25=>bif(!y25)then(some true)else(some (decide (x0<y1))))else(some (decide (x0<y1)))
def Ysg:VFn:=⟨true,17,[.t 4],
 (Rg [oB 4 false]
 (Rg [oM 5 0,oC 6 376 [5],oM 7 6,gT 8 7 (.mv 1),gT 9 7 (.call 376 [8]),gT 10 7 (.not 9),oP 11 7 10 (kb false),oM 12 11,gF 13 12 (.mv 0),gF 14 12 (.mv 1),gF 15 12 (.bin .lss 13 14),oP 16 12 (kb true) 15,oM 4 16]
 (Fr 4)))⟩
def YkG(lo:Lo):FnE:=Zfe 370 true (Zsg [0,1] [.j,.j] []) .b [] (fun x=>q16 lo x.1 x.2:Int×Int->Option Bool)
def fs17(lo:Lo):List FnE:=YkG lo::fs16 lo
theorem Ysh(h:GZ P fm fs16 lo)(t:Ti P fm 370 Ysg):GZ P fm fs17 lo:=
  h.p (YkG lo) .n t
def q17(lo:Lo)(x0:Int):Option Bool:=
  some (!decide (x0=x0))
def Ysi:VFn:=⟨true,6,[.t 2],
 (Rg [oB 2 false]
 (Rg [oM 3 0,oM 4 0,oR 5 .neq 3 4,oM 2 5]
 (Fr 2)))⟩
def YkH(lo:Lo):FnE:=Zfe 371 true (Zsg [0] [.j] []) .b [] (fun x=>q17 lo x:Int->Option Bool)
def fs18(lo:Lo):List FnE:=YkH lo::fs17 lo
theorem Ysj(h:GZ P fm fs17 lo)(t:Ti P fm 371 Ysi):GZ P fm fs18 lo:=
  h.p (YkH lo) .n t
def q18_L3_b:VCode:=
 (.seq (Rg [oM 13 7,oM 14 8,oR 15 .lss 13 14]
 (Ce 15 0))
 (.blk 1 (Rg [oM 16 7,oM 17 8,oR 18 .add 16 17,o 19 (.conv .u64 18),oR 20 .shr 19 (ki .u64 1),o 21 (.conv .i64 20),oM 9 21]
 (Rg [oM 22 0,oM 23 9,oI 24 1 22 23,oL 25 24,oM 26 1,oC 27 370 [25,26]]
 (.cond 27 (.reg [oM 28 9,oR 29 .add 28 (k 1),oM 7 29])
 (.reg [oM 30 9,oM 8 30]))))))
def YbU(lo:Lo):(List Int)×Int×Int×Int×Int->Option (((List Int)×Int×Int×Int×Int)⊕ (((List Int)×Int×Int×Int))):=fun x=>match x with
  | (x0,target1,n6,i7,j8)=>bif(decide (i7<j8))then(chk (0<=(1:Int)) (chk (0<=(Yzs .i64 ((Yzs .u64 (Yzs .i64 (i7+j8))).fdiv (2^(min (1:Int).toNat (IntKind.bits .u64)))))/\ (Yzs .i64 ((Yzs .u64 (Yzs .i64 (i7+j8))).fdiv (2^(min (1:Int).toNat (IntKind.bits .u64)))))< (x0.length:Int)) (Yy7 (q16 lo (x0.getD ((Yzs .i64 ((Yzs .u64 (Yzs .i64 (i7+j8))).fdiv (2^(min (1:Int).toNat (IntKind.bits .u64))))).toNat) (0:Int)) target1) fun y26=>bif y26 then(some (.inl (x0,target1,n6,(Yzs .i64 ((Yzs .i64 ((Yzs .u64 (Yzs .i64 (i7+j8))).fdiv (2^(min (1:Int).toNat (IntKind.bits .u64)))))+(1:Int))),j8)))else(some (.inl (x0,target1,n6,i7,(Yzs .i64 ((Yzs .u64 (Yzs .i64 (i7+j8))).fdiv (2^(min (1:Int).toNat (IntKind.bits .u64)))))))))))else(some (.inr (x0,target1,n6,i7)))
def Ygd(lo:Lo):(List Int)×Int×Int×Int×Int->Option (((List Int)×Int×Int×Int)):=lo.run (YbU lo)
def Ysk(lo:Lo):LpE:=⟨3,[],(Zsg [0,1,6,7,8] [.l (cs [I]),.j,.j,.j,.j] []),[⟨.exit 0,(Zsg [0,1,6,7] [.l (cs [I]),.j,.j,.j] [])⟩],Ygd lo⟩
def Ysl(lo:Lo):LL:=(Ysk lo,.loop q18_L3_b.er)::[]
theorem Ysm(lo:Lo):Lk lo pf (fs18 lo) 0 (Ysl lo):=.l .n (YbU lo)
def q18(lo:Lo)(x0:List Int)(target1:Int):Option (Int×Bool):=
  Yy7 (Ygd lo (x0,target1,(x0.length:Int),(0:Int),(x0.length:Int))) fun y27=>bif(decide (y27.2.2.2<y27.2.2.1))then(chk (0<=y27.2.2.2/\y27.2.2.2< (y27.1.length:Int)) (bif(decide ((y27.1.getD y27.2.2.2.toNat (0:Int))=y27.2.1))then(some (y27.2.2.2,true))else(chk (0<=y27.2.2.2/\y27.2.2.2< (y27.1.length:Int)) (Yy7 (q17 lo (y27.1.getD y27.2.2.2.toNat (0:Int))) fun y28=>bif y28 then(Yy7 (q17 lo y27.2.1) fun y29=>some (y27.2.2.2,y29))else(some (y27.2.2.2,false))))))else(some (y27.2.2.2,false))
def Ysn:VFn:=⟨true,54,[.t 4,.t 5],
 (Rg [oK 4 0,oB 5 false]
 (Rg [oM 10 0,oN 11 10,oM 6 11]
 (Rg [oM 12 6,oK 7 0,oM 8 12]
 (.seq (.blk 0 (.loop 3 q18_L3_b))
 (Rg [oM 31 7,oM 32 7,oM 33 6,oR 34 .lss 32 33,oM 35 34,gT 36 35 (.mv 0),gT 37 35 (.mv 7),gT 38 35 (.iad 1 36 37),gT 39 35 (.load false 1 38),gT 40 35 (.mv 1),gT 41 35 (.bin .eql 39 40),gT 42 35 (.mv 41),gF 43 42 (.mv 0),gF 44 42 (.mv 7),gF 45 42 (.iad 1 43 44),gF 46 42 (.load false 1 45),gF 47 42 (.call 371 [46]),gF 48 42 (.mv 47),gT 49 48 (.mv 1),gT 50 48 (.call 371 [49]),gF 51 42 (.pick 48 50 (kb false)),gT 52 35 (.pick 42 (kb true) 51),oP 53 35 52 (kb false),oM 4 31,oM 5 53]
 (.fz [4,5] .ret))))))⟩
def YkI(lo:Lo):FnE:=Zfe 363 true (Zsg [0,1] [.l (cs [I]),.j] []) (.tp [.j,.b]) [] (fun x=>q18 lo x.1 x.2:(List Int)×Int->Option (Int×Bool))
def fs19(lo:Lo):List FnE:=YkI lo::fs18 lo
theorem Yso(h:GZ P fm fs18 lo)(t:Ti P fm 363 Ysn):GZ P fm fs19 lo:=
  h.p (YkI lo) (Ysm lo) t
def q19(lo:Lo)(i:Int)(v l:List Int):Option (List Int):=Yxt (i,(v,l))
def Ysp(lo:Lo):FnE:=vinsE 364 (cs [I])
def fs20(lo:Lo):List FnE:=Ysp lo::fs19 lo
theorem Ysq(h:GZ P fm fs19 lo)(hG: ∀f,fm f=364->Yu3 P f=true/\ ∃(ρ:Go.Shelf.Ren) (z:List Value),InsL P ρ z/\z.length=1/\ρ.f 22=f):GZ P fm fs20 lo:=
  ⟨h.1,h.2,Yrg h.S (cs [I]) rfl hG⟩
def q20(lo:Lo)(i:Int)(v:List Int):Option (List Int):=YwU (i,v)
def Ysr(lo:Lo):FnE:=vinsNE 364 (cs [I])
def fs21(lo:Lo):List FnE:=Ysr lo::fs20 lo
theorem Yss(h:GZ P fm fs20 lo)(hG: ∀f,fm f=364->Yu3 P f=true/\ ∃(ρ:Go.Shelf.Ren) (z:List Value),InsL P ρ z/\z.length=1/\ρ.f 22=f):GZ P fm fs21 lo:=
  ⟨h.1,h.2,Yrj h.S (cs [I]) rfl hG⟩
def q21(lo:Lo)(r1_0:Int)(r1_1:List (Int×Int×ByteArray))(x0_0:Int)(x0_1:Int)(h1_0:Int)(h1_1:List (Int×Int×Int×Zt3))(h1_2:Bool)(h1_3:Bool)(h2_0:Int)(h2_1:List (Int×ByteArray× (List Int))):Option Zp14:=
  bif(!decide ((r1_1.length:Int)=x0_0))then(some ((6:Int),x0_0,x0_1,h1_0,h1_1,h1_2,h1_3,h2_0,h2_1))else(bif(decide (r1_0<=0))then(some ((1:Int),x0_0,x0_1,h1_0,h1_1,h1_2,h1_3,h2_0,h2_1))else(Yy7 (q6 lo r1_1) fun y8=>bif y8 then(some ((1:Int),x0_0,x0_1,h1_0,h1_1,h1_2,h1_3,h2_0,h2_1))else(bif(mhs eqI r1_0 h1_1)then(some ((5:Int),x0_0,x0_1,h1_0,h1_1,h1_2,h1_3,h2_0,h2_1))else(Yy7 (q7 lo r1_1) fun y9=>Yy7 (q8 lo r1_0 r1_1 x0_0 x0_1 (mck eqI h1_0 r1_0 h1_1) (mpt eqI h1_0 r1_0 (r1_0,y9) h1_1) h1_2 h1_3 h2_0 h2_1) fun y11=>Yy7 (q14 lo y11.2.2.2.2.2.2.2.2) fun y23=>Yy7 (q18 lo ((y11.2.2.2.2.2.2.2.1.getD (mix eqS y23 y11.2.2.2.2.2.2.2.1) ((0:Int),(Yzr #[]),[])).2.2) r1_0) fun y30=>bif YyW (mix eqS y23 y11.2.2.2.2.2.2.2.1) y11.2.2.2.2.2.2.2.1.length then(Yy7 (q19 lo y30.1 [r1_0] ((y11.2.2.2.2.2.2.2.1.getD (mix eqS y23 y11.2.2.2.2.2.2.2.1) ((0:Int),(Yzr #[]),[])).2.2)) fun y31=>chk (mix eqS y23 y11.2.2.2.2.2.2.2.1=(mix eqS y23 y11.2.2.2.2.2.2.2.1)) (some ((0:Int),y11.1,y11.2.1,y11.2.2.1,y11.2.2.2.1,y11.2.2.2.2.1,y11.2.2.2.2.2.1,(mck eqS y11.2.2.2.2.2.2.1 y23 y11.2.2.2.2.2.2.2.1),(mpt eqS y11.2.2.2.2.2.2.1 y23 y31 y11.2.2.2.2.2.2.2.1))))else(Yy7 (q20 lo y30.1 [r1_0]) fun y32=>some ((0:Int),y11.1,y11.2.1,y11.2.2.1,y11.2.2.2.1,y11.2.2.2.2.1,y11.2.2.2.2.2.1,(mck eqS y11.2.2.2.2.2.2.1 y23 y11.2.2.2.2.2.2.2.1),(mpt eqS y11.2.2.2.2.2.2.1 y23 y32 y11.2.2.2.2.2.2.2.1)))))))
def Yst:VFn:=⟨true,81,[.t 4],
 (Rg [oG 3 1,oK 4 0]
 (.seq (Rg [oF 10 1 3,oL 11 10,oN 12 11,oM 13 0,o 14 (.nilc 13),oF 15 0 14,oL 16 15,oR 17 .neq 12 16]
 (.cond 17 (Rg [oK 4 6]
 .ret)
 .skip))
 (.seq (Rg [oF 18 0 3,oL 19 18,oR 20 .leq 19 (k 0),oM 21 20,gF 22 21 (.fad 1 3),gF 23 21 (.load false 1 22),gF 24 21 (.call 293 [23,(.c (.f 360))]),oP 25 21 (kb true) 24]
 (.cond 25 (Rg [oK 4 1]
 .ret)
 .skip))
 (.seq (Rg [oM 27 0,o 28 (.nilc 27),oF 29 2 28,⟨some 30,.load false 1 29,none,true,false⟩,oF 31 0 3,⟨some 32,.load false 1 31,none,true,false⟩,⟨some 33,.mget (some .i64) I (cs [.l Zc5]) true true 30 32,none,true,false⟩,oM 26 33,oE 34 26 0,oE 35 26 1,o 5 (.alloc [.i .i64 0,.e Zc5]),oS 2 5 34,oM 6 35]
 (Rg [oM 36 6]
 (.cond 36 (Rg [oK 4 5]
 .ret)
 .skip)))
 (Rg [oM 37 0,o 38 (.nilc 37),oF 39 2 38,⟨some 40,.load false 1 39,none,true,false⟩,oF 41 0 3,⟨some 42,.load false 1 41,none,true,false⟩,oF 43 0 3,⟨some 44,.load false 1 43,none,true,false⟩,oF 45 1 3,oL 46 45,o 47 (.callN 308 [46] true),o 48 (.build [.i .i64 0,.e Zc5] [(0,1,44),(1,1,47)]),on (.mput (some .i64) I (cs [.l Zc5]) true 40 42 48)]
 (Rg [oM 49 0,oT 50 2 3,oC 51 362 [49,50],oC 52 361 [51],oM 7 52]
 (Rg [oM 54 0,o 55 (.nilc 54),oF 56 3 55,oL 57 56,oM 58 7,o 59 (.mget none (.l (cs [I])) (cs []) false false 57 58),oF 60 0 3,oL 61 60,oC 62 363 [59,61],oM 53 62,oE 63 53 0,oE 64 53 1,oM 8 63,oM 9 64]
 (.seq (.regN [4000000,1000000000008] [oM 65 0,o 66 (.nilc 65),oF 67 3 66,⟨some 68,.load false 1 67,none,true,false⟩,oM 69 7,oM 70 0,o 71 (.nilc 70),oF 72 3 71,oL 73 72,oM 74 7,o 75 (.mget none (.l (cs [I])) (cs []) false false 73 74),oM 76 8,oF 77 0 3,oL 78 77,o 79 (.bsl (cs [I]) 1 [(0,78)]),⟨some 80,.callF 364 [75,76,79],none,false,true⟩,on (.mput none (.l (cs [I])) (cs []) false 68 69 80)])
 (Rg [oK 4 0]
 .ret)))))))))⟩
def YkJ(lo:Lo):FnE:=Zfe 343 false (Zsg [0,1] [.ptr 0 0 0,.ag [.j,.l Zc5]] [.st [.j,.i .u32,.np 1,.np 2],.st [.j,.l Zc4,.b,.b],.fp none (cs [I])]) (.i .i64) [.st [.j,.i .u32,.np 1,.np 2],.st [.j,.l Zc4,.b,.b],.fp none (cs [I])] (fun x=>q21 lo x.1 x.2.1 x.2.2.1 x.2.2.2.1 x.2.2.2.2.1 x.2.2.2.2.2.1 x.2.2.2.2.2.2.1 x.2.2.2.2.2.2.2.1 x.2.2.2.2.2.2.2.2.1 x.2.2.2.2.2.2.2.2.2:Int×Zt3×Int×Int×Int×Zt0×Bool×Bool×Int×Zt1->Option Zp14)
def fs22(lo:Lo):List FnE:=YkJ lo::fs21 lo
theorem Ysu(h:GZ P fm fs21 lo)(t:Ti P fm 343 Yst):GZ P fm fs22 lo:=
  h.i (YkJ lo) .n t
def q22_J9_b:VCode:=
 (.seq (Rg [oM 13 0,oR 14 .geq 13 (ki .u64 256)]
 (.cond 14 (Rg [oM 15 0,oR 16 .shr 15 (ki .u64 8),oM 0 16]
 (.reg [oM 17 2,oR 18 .add 17 (k 8),oM 2 18]))
 .skip))
 (Rg [oM 19 2,oM 20 0,o 21 (.conv .u8 20),o 22 (.idx (ks (⟨#[0,1,2,2,3,3,3,3,4,4,4,4,4,4,4,4,5,5,5,5,5,5,5,5,5,5,5,5,5,5,5,5,6,6,6,6,6,6,6,6,6,6,6,6,6,6,6,6,6,6,6,6,6,6,6,6,6,6,6,6,6,6,6,6,7,7,7,7,7,7,7,7,7,7,7,7,7,7,7,7,7,7,7,7,7,7,7,7,7,7,7,7,7,7,7,7,7,7,7,7,7,7,7,7,7,7,7,7,7,7,7,7,7,7,7,7,7,7,7,7,7,7,7,7,7,7,7,7,8,8,8,8,8,8,8,8,8,8,8,8,8,8,8,8,8,8,8,8,8,8,8,8,8,8,8,8,8,8,8,8,8,8,8,8,8,8,8,8,8,8,8,8,8,8,8,8,8,8,8,8,8,8,8,8,8,8,8,8,8,8,8,8,8,8,8,8,8,8,8,8,8,8,8,8,8,8,8,8,8,8,8,8,8,8,8,8,8,8,8,8,8,8,8,8,8,8,8,8,8,8,8,8,8,8,8,8,8,8,8,8,8,8,8,8,8,8,8,8,8,8,8,8,8,8,8,8]⟩)) 21),o 23 (.conv .i64 22),oR 24 .add 19 23,oM 2 24]
 (Fr 2)))
def YcZ(lo:Lo):Int×Int->Option Int:=fun x=>match x with
  | (x0,n2)=>bif(decide (256<=x0))then(chk (0<=(8:Int)) (chk (0<=(Yzs .u8 (x0.fdiv (2^(min (8:Int).toNat (IntKind.bits .u64)))))/\ (Yzs .u8 (x0.fdiv (2^(min (8:Int).toNat (IntKind.bits .u64)))))< ((Yzr #[0,1,2,2,3,3,3,3,4,4,4,4,4,4,4,4,5,5,5,5,5,5,5,5,5,5,5,5,5,5,5,5,6,6,6,6,6,6,6,6,6,6,6,6,6,6,6,6,6,6,6,6,6,6,6,6,6,6,6,6,6,6,6,6,7,7,7,7,7,7,7,7,7,7,7,7,7,7,7,7,7,7,7,7,7,7,7,7,7,7,7,7,7,7,7,7,7,7,7,7,7,7,7,7,7,7,7,7,7,7,7,7,7,7,7,7,7,7,7,7,7,7,7,7,7,7,7,7,8,8,8,8,8,8,8,8,8,8,8,8,8,8,8,8,8,8,8,8,8,8,8,8,8,8,8,8,8,8,8,8,8,8,8,8,8,8,8,8,8,8,8,8,8,8,8,8,8,8,8,8,8,8,8,8,8,8,8,8,8,8,8,8,8,8,8,8,8,8,8,8,8,8,8,8,8,8,8,8,8,8,8,8,8,8,8,8,8,8,8,8,8,8,8,8,8,8,8,8,8,8,8,8,8,8,8,8,8,8,8,8,8,8,8,8,8,8,8,8,8,8,8,8,8,8,8,8]).size:Int)) (some (Yzs .i64 ((Yzs .i64 (n2+8))+(Yzs .i64 (Yvg (Yzr #[0,1,2,2,3,3,3,3,4,4,4,4,4,4,4,4,5,5,5,5,5,5,5,5,5,5,5,5,5,5,5,5,6,6,6,6,6,6,6,6,6,6,6,6,6,6,6,6,6,6,6,6,6,6,6,6,6,6,6,6,6,6,6,6,7,7,7,7,7,7,7,7,7,7,7,7,7,7,7,7,7,7,7,7,7,7,7,7,7,7,7,7,7,7,7,7,7,7,7,7,7,7,7,7,7,7,7,7,7,7,7,7,7,7,7,7,7,7,7,7,7,7,7,7,7,7,7,7,8,8,8,8,8,8,8,8,8,8,8,8,8,8,8,8,8,8,8,8,8,8,8,8,8,8,8,8,8,8,8,8,8,8,8,8,8,8,8,8,8,8,8,8,8,8,8,8,8,8,8,8,8,8,8,8,8,8,8,8,8,8,8,8,8,8,8,8,8,8,8,8,8,8,8,8,8,8,8,8,8,8,8,8,8,8,8,8,8,8,8,8,8,8,8,8,8,8,8,8,8,8,8,8,8,8,8,8,8,8,8,8,8,8,8,8,8,8,8,8,8,8,8,8,8,8,8,8]) (Yzs .u8 (x0.fdiv (2^(min (8:Int).toNat (IntKind.bits .u64))))))))))))else(chk (0<=(Yzs .u8 x0)/\ (Yzs .u8 x0)< ((Yzr #[0,1,2,2,3,3,3,3,4,4,4,4,4,4,4,4,5,5,5,5,5,5,5,5,5,5,5,5,5,5,5,5,6,6,6,6,6,6,6,6,6,6,6,6,6,6,6,6,6,6,6,6,6,6,6,6,6,6,6,6,6,6,6,6,7,7,7,7,7,7,7,7,7,7,7,7,7,7,7,7,7,7,7,7,7,7,7,7,7,7,7,7,7,7,7,7,7,7,7,7,7,7,7,7,7,7,7,7,7,7,7,7,7,7,7,7,7,7,7,7,7,7,7,7,7,7,7,7,8,8,8,8,8,8,8,8,8,8,8,8,8,8,8,8,8,8,8,8,8,8,8,8,8,8,8,8,8,8,8,8,8,8,8,8,8,8,8,8,8,8,8,8,8,8,8,8,8,8,8,8,8,8,8,8,8,8,8,8,8,8,8,8,8,8,8,8,8,8,8,8,8,8,8,8,8,8,8,8,8,8,8,8,8,8,8,8,8,8,8,8,8,8,8,8,8,8,8,8,8,8,8,8,8,8,8,8,8,8,8,8,8,8,8,8,8,8,8,8,8,8,8,8,8,8,8,8]).size:Int)) (some (Yzs .i64 (n2+(Yzs .i64 (Yvg (Yzr #[0,1,2,2,3,3,3,3,4,4,4,4,4,4,4,4,5,5,5,5,5,5,5,5,5,5,5,5,5,5,5,5,6,6,6,6,6,6,6,6,6,6,6,6,6,6,6,6,6,6,6,6,6,6,6,6,6,6,6,6,6,6,6,6,7,7,7,7,7,7,7,7,7,7,7,7,7,7,7,7,7,7,7,7,7,7,7,7,7,7,7,7,7,7,7,7,7,7,7,7,7,7,7,7,7,7,7,7,7,7,7,7,7,7,7,7,7,7,7,7,7,7,7,7,7,7,7,7,8,8,8,8,8,8,8,8,8,8,8,8,8,8,8,8,8,8,8,8,8,8,8,8,8,8,8,8,8,8,8,8,8,8,8,8,8,8,8,8,8,8,8,8,8,8,8,8,8,8,8,8,8,8,8,8,8,8,8,8,8,8,8,8,8,8,8,8,8,8,8,8,8,8,8,8,8,8,8,8,8,8,8,8,8,8,8,8,8,8,8,8,8,8,8,8,8,8,8,8,8,8,8,8,8,8,8,8,8,8,8,8,8,8,8,8,8,8,8,8,8,8,8,8,8,8,8,8]) (Yzs .u8 x0)))))))
def Ysv(lo:Lo):LpE:=⟨9,[],(Zsg [0,2] [.i .u64,.j] []),[⟨.ret,(Zsg [2] [.j] [])⟩],YcZ lo⟩
def Ysw(lo:Lo):LL:=(Ysv lo,q22_J9_b.er)::[]
theorem Ysx(lo:Lo):Lk lo pf (fs22 lo) 0 (Ysw lo):=.j .n
def q22(lo:Lo)(x0:Int):Option Int:=
  bif(decide (4294967296<=x0))then(chk (0<=(32:Int)) (bif(decide ((65536:Int)<=(x0.fdiv (2^(min (32:Int).toNat (IntKind.bits .u64))))))then(chk (0<=(16:Int)) (Yy7 (YcZ lo (((x0.fdiv (2^(min (32:Int).toNat (IntKind.bits .u64)))).fdiv (2^(min (16:Int).toNat (IntKind.bits .u64)))),(Yzs .i64 ((32:Int)+(16:Int))))) fun y41=>some y41))else(Yy7 (YcZ lo ((x0.fdiv (2^(min (32:Int).toNat (IntKind.bits .u64)))),(32:Int))) fun y42=>some y42)))else(bif(decide (65536<=x0))then(chk (0<=(16:Int)) (Yy7 (YcZ lo ((x0.fdiv (2^(min (16:Int).toNat (IntKind.bits .u64)))),(Yzs .i64 ((0:Int)+(16:Int))))) fun y43=>some y43))else(Yy7 (YcZ lo (x0,(0:Int))) fun y44=>some y44))
def Ysy:VFn:=⟨true,25,[.t 2],
 (Rg [oK 2 0]
 (.seq (Rg [oM 3 0,oR 4 .geq 3 (ki .u64 4294967296)]
 (.cond 4 (Rg [oM 5 0,oR 6 .shr 5 (ki .u64 32),oM 0 6]
 (.reg [oK 2 32]))
 .skip))
 (.seq (Rg [oM 7 0,oR 8 .geq 7 (ki .u64 65536)]
 (.cond 8 (Rg [oM 9 0,oR 10 .shr 9 (ki .u64 16),oM 0 10]
 (.reg [oM 11 2,oR 12 .add 11 (k 16),oM 2 12]))
 .skip))
 (.jn 9 q22_J9_b))))⟩
def YkK(lo:Lo):FnE:=Zfe 187 true (Zsg [0] [.i .u64] []) (.i .i64) [] (fun x=>q22 lo x:Int->Option Int)
def fs23(lo:Lo):List FnE:=YkK lo::fs22 lo
theorem Ysz(h:GZ P fm fs22 lo)(t:Ti P fm 187 Ysy):GZ P fm fs23 lo:=
  h.p (YkK lo) (Ysx lo) t
def q23(lo:Lo)(x0:Int):Option Int:=
  Yy7 (q22 lo x0) fun y45=>some y45
def YsA:VFn:=⟨true,8,[.t 2],
 (Rg [oK 2 0]
 (.seq (.cond (kb false) (Rg [oM 3 0,o 4 (.conv .u32 3),oC 5 186 [4],oM 2 5]
 (Fr 2))
 .skip)
 (Rg [oM 6 0,oC 7 187 [6],oM 2 7]
 (Fr 2))))⟩
def YkL(lo:Lo):FnE:=Zfe 163 true (Zsg [0] [.i .u64] []) (.i .i64) [] (fun x=>q23 lo x:Int->Option Int)
def fs24(lo:Lo):List FnE:=YkL lo::fs23 lo
theorem YsB(h:GZ P fm fs23 lo)(t:Ti P fm 163 YsA):GZ P fm fs24 lo:=
  h.p (YkL lo) .n t
end Go.Abs.G35
namespace Go.Abs.G35
open Go Go.Abs
set_option maxRecDepth 100000
set_option maxHeartbeats 1000000
variable{P:Program}{fm:FM}{lo:Lo}
def q24(lo:Lo)(x0:ByteArray):Option Bool:=
  some (!decide (x0=x0))
def YsC:VFn:=⟨true,6,[.t 2],
 (Rg [oB 2 false]
 (Rg [oM 3 0,oM 4 0,oR 5 .neq 3 4,oM 2 5]
 (Fr 2)))⟩
def YkM(lo:Lo):FnE:=Zfe 325 true (Zsg [0] [.s] []) .b [] (fun x=>q24 lo x:ByteArray->Option Bool)
def fs25(lo:Lo):List FnE:=YkM lo::fs24 lo
theorem YsD(h:GZ P fm fs24 lo)(t:Ti P fm 325 YsC):GZ P fm fs25 lo:=
  h.p (YkM lo) .n t
def q25(lo:Lo)(x0:ByteArray)(y1:ByteArray):Option Bool:=
  Yy7 (q24 lo x0) fun y47=>bif y47 then(Yy7 (q24 lo y1) fun y48=>bif(!y48)then(some true)else(some (Op.bytesLess x0.toList y1.toList)))else(some (Op.bytesLess x0.toList y1.toList))
def YsE:VFn:=⟨true,17,[.t 4],
 (Rg [oB 4 false]
 (Rg [oM 5 0,oC 6 325 [5],oM 7 6,gT 8 7 (.mv 1),gT 9 7 (.call 325 [8]),gT 10 7 (.not 9),oP 11 7 10 (kb false),oM 12 11,gF 13 12 (.mv 0),gF 14 12 (.mv 1),gF 15 12 (.bin .lss 13 14),oP 16 12 (kb true) 15,oM 4 16]
 (Fr 4)))⟩
def YkN(lo:Lo):FnE:=Zfe 317 true (Zsg [0,1] [.s,.s] []) .b [] (fun x=>q25 lo x.1 x.2:ByteArray×ByteArray->Option Bool)
def fs26(lo:Lo):List FnE:=YkN lo::fs25 lo
theorem YsF(h:GZ P fm fs25 lo)(t:Ti P fm 317 YsE):GZ P fm fs26 lo:=
  h.p (YkN lo) .n t
def q26_L3_b:VCode:=
 (.seq (Rg [oM 16 7,oM 17 1,oR 18 .gtr 16 17,oM 19 18,gT 20 19 (.mv 0),gT 21 19 (.mv 7),gT 22 19 (.iad 1 20 21),gT 23 19 (.load false 1 22),gT 24 19 (.mv 0),gT 25 19 (.mv 7),gT 26 19 (.bin .sub 25 (k 1)),gT 27 19 (.iad 1 24 26),gT 28 19 (.load false 1 27),gT 29 19 (.call 317 [23,28]),oP 30 19 29 (kb false)]
 (Ce 30 2))
 (.seq (.blk 3 (.reg [oM 33 0,oM 34 7,oM 35 0,oM 36 7,oR 37 .sub 36 (k 1),oM 38 0,oM 39 7,oR 40 .sub 39 (k 1),oI 41 1 38 40,oL 42 41,oM 43 0,oM 44 7,oI 45 1 43 44,oL 46 45,oI 47 1 33 34,oS 1 47 42,oI 48 1 35 37,oS 1 48 46]))
 (.reg [oM 31 7,oR 32 .sub 31 (k 1),oM 7 32])))
def YkO(lo:Lo):Int×Int×Int×Int×Zt2->Option ((Int×Int×Int×Int×Zt2)⊕ ((Int×Int×Int×Zt2))):=fun x=>match x with
  | (a1,b2,i6,j7,data0)=>bif(decide (a1<j7))then(chk (0<=j7/\j7< (data0.length:Int)) (chk (0<=(Yzs .i64 (j7-1))/\ (Yzs .i64 (j7-1))< (data0.length:Int)) (Yy7 (q25 lo (data0.getD j7.toNat (Yzr #[])) (data0.getD ((Yzs .i64 (j7-1)).toNat) (Yzr #[]))) fun y49=>bif y49 then(chk (0<=(Yzs .i64 (j7-1))/\ (Yzs .i64 (j7-1))< (data0.length:Int)) (chk (0<=j7/\j7< (data0.length:Int)) (chk (0<=j7/\j7< (data0.length:Int)) (chk (0<=(Yzs .i64 (j7-1))/\ (Yzs .i64 (j7-1))< ((data0.set j7.toNat (data0.getD ((Yzs .i64 (j7-1)).toNat) (Yzr #[]))).length:Int)) (some (.inl (a1,b2,i6,(Yzs .i64 (j7-1)),((data0.set j7.toNat (data0.getD ((Yzs .i64 (j7-1)).toNat) (Yzr #[]))).set ((Yzs .i64 (j7-1)).toNat) (data0.getD j7.toNat (Yzr #[]))))))))))else(some (.inr (a1,b2,i6,data0))))))else(some (.inr (a1,b2,i6,data0)))
def YkP(lo:Lo):Int×Int×Int×Int×Zt2->Option ((Int×Int×Int×Zt2)):=lo.run (YkO lo)
def YsG(lo:Lo):LpE:=⟨3,[],(Zsg [0,1,2,6,7] [.ref 0,.j,.j,.j,.j] [.sq (cs [.s])]),[⟨.exit 2,(Zsg [0,1,2,6] [.ref 0,.j,.j,.j] [.sq (cs [.s])])⟩],YkP lo⟩
def YkQ(lo:Lo):LL:=(YsG lo,.loop q26_L3_b.er)::[]
theorem YsH(lo:Lo):Lk lo pf (fs26 lo) 1 (YkQ lo):=.l .n (YkO lo)
def q26_L1_b:VCode:=
 (.seq (Rg [oM 10 6,oM 11 2,oR 12 .lss 10 11]
 (Ce 12 0))
 (.seq (.blk 1 (Rg [oM 15 6,oM 7 15]
 (.blk 2 (.loop 3 q26_L3_b))))
 (.reg [oM 13 6,oR 14 .add 13 (k 1),oM 6 14])))
def YkR(lo:Lo):Int×Int×Int×Zt2->Option ((Int×Int×Int×Zt2)⊕ ((Zt2))):=fun x=>match x with
  | (a1,b2,i6,data0)=>bif(decide (i6<b2))then(Yy7 (YkP lo (a1,b2,i6,i6,data0)) fun y50=>some (.inl (y50.1,y50.2.1,(Yzs .i64 (y50.2.2.1+(1:Int))),y50.2.2.2)))else(some (.inr data0))
def YkS(lo:Lo):Int×Int×Int×Zt2->Option ((Zt2)):=lo.run (YkR lo)
def YsI(lo:Lo):LpE:=⟨1,[],(Zsg [0,1,2,6] [.ref 0,.j,.j,.j] [.sq (cs [.s])]),[⟨.exit 0,(Zsg [] [] [.sq (cs [.s])])⟩],YkS lo⟩
def YsJ(lo:Lo):LL:=(YsI lo,.loop q26_L1_b.er)::YkQ lo
theorem YsK(lo:Lo):Lk lo pf (fs26 lo) 1 (YsJ lo):=.l (YsH lo) (YkR lo)
def q26(lo:Lo)(a1:Int)(b2:Int)(data0:List ByteArray):Option (Zt2):=
  Yy7 (YkS lo (a1,b2,(Yzs .i64 (a1+1)),data0)) fun y51=>some y51
def YsL:VFn:=⟨true,49,[],
 (Rg [oM 8 1,oR 9 .add 8 (k 1),oM 6 9]
 (.blk 0 (.loop 1 q26_L1_b)))⟩
def YkT(lo:Lo):FnE:=Zfe 311 false (Zsg [0,1,2] [.ref 0,.j,.j] [.sq (cs [.s])]) (.tp []) [.sq (cs [.s])] (fun x=>q26 lo x.1 x.2.1 x.2.2:Int×Int×Zt2->Option (Zt2))
def fs27(lo:Lo):List FnE:=YkT lo::fs26 lo
theorem YsM(h:GZ P fm fs26 lo)(t:Ti P fm 311 YsL):GZ P fm fs27 lo:=
  h.i (YkT lo) (YsK lo) t
def q27(lo:Lo)(x0:Int)(x1:Int)(x2:List ByteArray):Option (Zt2):=none
def YkU(lo:Lo):FnE:=Zfe 312 false (Zsg [0,1,2] [.ref 0,.j,.j] [.sq (cs [.s])]) (.tp []) [.sq (cs [.s])] (fun x=>q27 lo x.1 x.2.1 x.2.2:Int×Int×Zt2->Option (Zt2))
def fs28(lo:Lo):List FnE:=YkU lo::fs27 lo
theorem YsN(h:GZ P fm fs27 lo)(hN:True):GZ P fm fs28 lo:=
  ⟨h.1,h.2,YaJ h.S (YkU lo) (fun _=>rfl)⟩
def q28(lo:Lo)(x0:Int)(x1:Int)(x2:List ByteArray):Option (Zt2):=none
def YkV(lo:Lo):FnE:=Zfe 313 false (Zsg [0,1,2] [.ref 0,.j,.j] [.sq (cs [.s])]) (.tp []) [.sq (cs [.s])] (fun x=>q28 lo x.1 x.2.1 x.2.2:Int×Int×Zt2->Option (Zt2))
def fs29(lo:Lo):List FnE:=YkV lo::fs28 lo
theorem YsO(h:GZ P fm fs28 lo)(hN:True):GZ P fm fs29 lo:=
  ⟨h.1,h.2,YaJ h.S (YkV lo) (fun _=>rfl)⟩
def q29(lo:Lo)(x0:List ByteArray)(x1:Int)(x2:Int):Option (Int×Int):=none
def YkW(lo:Lo):FnE:=Zfe 314 true (Zsg [0,1,2] [.l (cs [.s]),.j,.j] []) (.tp [.j,.j]) [] (fun x=>q29 lo x.1 x.2.1 x.2.2:Zt2×Int×Int->Option (Int×Int))
def fs30(lo:Lo):List FnE:=YkW lo::fs29 lo
theorem YsP(h:GZ P fm fs29 lo)(hN:True):GZ P fm fs30 lo:=
  ⟨h.1,h.2,YaJ h.S (YkW lo) (fun _=>rfl)⟩
def q30(lo:Lo)(x0:Int)(x1:Int)(x2:List ByteArray):Option (Zt2):=none
def YkX(lo:Lo):FnE:=Zfe 315 false (Zsg [0,1,2] [.ref 0,.j,.j] [.sq (cs [.s])]) (.tp []) [.sq (cs [.s])] (fun x=>q30 lo x.1 x.2.1 x.2.2:Int×Int×Zt2->Option (Zt2))
def fs31(lo:Lo):List FnE:=YkX lo::fs30 lo
theorem YsQ(h:GZ P fm fs30 lo)(hN:True):GZ P fm fs31 lo:=
  ⟨h.1,h.2,YaJ h.S (YkX lo) (fun _=>rfl)⟩
def q31(lo:Lo)(x0:Int)(x1:Int)(x2:List ByteArray):Option (Bool×Zt2):=none
def YkY(lo:Lo):FnE:=Zfe 316 false (Zsg [0,1,2] [.ref 0,.j,.j] [.sq (cs [.s])]) .b [.sq (cs [.s])] (fun x=>q31 lo x.1 x.2.1 x.2.2:Int×Int×Zt2->Option (Bool×Zt2))
def fs32(lo:Lo):List FnE:=YkY lo::fs31 lo
theorem YsR(h:GZ P fm fs31 lo)(hN:True):GZ P fm fs32 lo:=
  ⟨h.1,h.2,YaJ h.S (YkY lo) (fun _=>rfl)⟩
def q32(lo:Lo)(x0:Int)(x1:Int)(x2:Int)(x3:List ByteArray):Option (Int×Zt2):=none
def YkZ(lo:Lo):FnE:=Zfe 318 false (Zsg [0,1,2,3] [.ref 0,.j,.j,.j] [.sq (cs [.s])]) (.i .i64) [.sq (cs [.s])] (fun x=>q32 lo x.1 x.2.1 x.2.2.1 x.2.2.2:Int×Int×Int×Zt2->Option (Int×Zt2))
def fs33(lo:Lo):List FnE:=YkZ lo::fs32 lo
theorem YsS(h:GZ P fm fs32 lo)(hN:True):GZ P fm fs33 lo:=
  ⟨h.1,h.2,YaJ h.S (YkZ lo) (fun _=>rfl)⟩
def q33(lo:Lo)(x0:Int)(x1:Int)(x2:Int)(x3:List ByteArray):Option (Int×Bool×Zt2):=none
def Yk0(lo:Lo):FnE:=Zfe 319 false (Zsg [0,1,2,3] [.ref 0,.j,.j,.j] [.sq (cs [.s])]) (.tp [.j,.b]) [.sq (cs [.s])] (fun x=>q33 lo x.1 x.2.1 x.2.2.1 x.2.2.2:Int×Int×Int×Zt2->Option (Int×Bool×Zt2))
def fs34(lo:Lo):List FnE:=Yk0 lo::fs33 lo
theorem YsT(h:GZ P fm fs33 lo)(hN:True):GZ P fm fs34 lo:=
  ⟨h.1,h.2,YaJ h.S (Yk0 lo) (fun _=>rfl)⟩
def Yc0(F:Int×Int×Int×Zt2->Option (Zt2)):FnE:=⟨301,false,(Zsg [0,1,2,3] [.ref 0,.j,.j,.j] [.sq (cs [.s])]),.tp [],[.sq (cs [.s])],(cs [.l (cs [.s])]),F⟩
def q34_J20_b:VCode:=
 (.seq (Rg [oM 73 1,oR 74 .gtr 73 (k 0),oM 75 74,gT 76 75 (.mv 0),gT 77 75 (.mv 1),gT 78 75 (.bin .sub 77 (k 1)),gT 79 75 (.iad 1 76 78),gT 80 75 (.load false 1 79),gT 81 75 (.mv 0),gT 82 75 (.mv 11),gT 83 75 (.iad 1 81 82),gT 84 75 (.load false 1 83),gT 85 75 (.call 317 [80,84]),gT 86 75 (.not 85),oP 87 75 86 (kb false)]
 (.cond 87 (Rg [oM 88 0,oM 89 1,oM 90 2,oM 91 11,oC 92 318 [88,89,90,91],oM 13 92]
 (Rg [oM 93 13,oM 1 93]
 (.exit 1)))
 .skip))
 (Rg [oM 95 0,oM 96 1,oM 97 2,oM 98 11,oC 99 319 [95,96,97,98],oM 94 99,oE 100 94 0,oE 101 94 1,oM 14 100,oM 15 101]
 (Rg [oM 102 15,oM 9 102]
 (Rg [oM 103 14,oM 104 1,oR 105 .sub 103 104,oM 106 2,oM 107 14,oR 108 .sub 106 107,oM 16 105,oM 17 108]
 (Rg [oM 109 10,oR 110 .quo 109 (k 8),oM 18 110]
 (Rg [oM 111 16,oM 112 17,oR 113 .lss 111 112]
 (.cond 113 (Rg [oM 114 16,oM 115 18,oR 116 .geq 114 115,oM 8 116]
 (Rg [oM 117 0,oM 118 1,oM 119 14,oM 120 3,oC 121 301 [117,118,119,120]]
 (.reg [oM 122 14,oR 123 .add 122 (k 1),oM 1 123])))
 (Rg [oM 124 17,oM 125 18,oR 126 .geq 124 125,oM 8 126]
 (Rg [oM 127 0,oM 128 14,oR 129 .add 128 (k 1),oM 130 2,oM 131 3,oC 132 301 [127,129,130,131]]
 (.reg [oM 133 14,oM 2 133]))))))))))
def Yc1(lo:Lo)(rec:Int×Int×Int×Zt2->Option (Zt2)):Int×Int×Int×Bool×Bool×Int×Int×Zt2->Option (Zp17⊕Zp17):=fun x=>match x with
  | (a1,b2,limit3,wasBalanced8,wasPartitioned9,length10,pivot11,data0)=>bif(decide (0<a1))then(chk (0<=(Yzs .i64 (a1-1))/\ (Yzs .i64 (a1-1))< (data0.length:Int)) (chk (0<=pivot11/\pivot11< (data0.length:Int)) (Yy7 (q25 lo (data0.getD ((Yzs .i64 (a1-1)).toNat) (Yzr #[])) (data0.getD pivot11.toNat (Yzr #[]))) fun y58=>bif(!y58)then(Yy7 (q32 lo a1 b2 pivot11 data0) fun y59=>chk (y59.2.length=data0.length) (some (.inl (y59.1,b2,limit3,wasBalanced8,wasPartitioned9,y59.2))))else(Yy7 (q33 lo a1 b2 pivot11 data0) fun y60=>chk (y60.2.2.length=data0.length) (chk ((8:Int)≠0) (bif(decide ((Yzs .i64 (y60.1-a1))< (Yzs .i64 (b2-y60.1))))then(Yy7 (rec (a1,y60.1,limit3,y60.2.2)) fun y61=>chk (y61.length=y60.2.2.length) (some (.inr ((Yzs .i64 (y60.1+(1:Int))),b2,limit3,(decide ((Yzs .i64 (length10.tdiv (8:Int)))<=(Yzs .i64 (y60.1-a1)))),y60.2.1,y61))))else(Yy7 (rec ((Yzs .i64 (y60.1+(1:Int))),b2,limit3,y60.2.2)) fun y62=>chk (y62.length=y60.2.2.length) (some (.inr (a1,y60.1,limit3,(decide ((Yzs .i64 (length10.tdiv (8:Int)))<=(Yzs .i64 (b2-y60.1)))),y60.2.1,y62))))))))))else(Yy7 (q33 lo a1 b2 pivot11 data0) fun y63=>chk (y63.2.2.length=data0.length) (chk ((8:Int)≠0) (bif(decide ((Yzs .i64 (y63.1-a1))< (Yzs .i64 (b2-y63.1))))then(Yy7 (rec (a1,y63.1,limit3,y63.2.2)) fun y64=>chk (y64.length=y63.2.2.length) (some (.inr ((Yzs .i64 (y63.1+(1:Int))),b2,limit3,(decide ((Yzs .i64 (length10.tdiv (8:Int)))<=(Yzs .i64 (y63.1-a1)))),y63.2.1,y64))))else(Yy7 (rec ((Yzs .i64 (y63.1+(1:Int))),b2,limit3,y63.2.2)) fun y65=>chk (y65.length=y63.2.2.length) (some (.inr (a1,y63.1,limit3,(decide ((Yzs .i64 (length10.tdiv (8:Int)))<=(Yzs .i64 (b2-y63.1)))),y63.2.1,y65)))))))
def YsU(lo:Lo)(rec:Int×Int×Int×Zt2->Option (Zt2)):LpE:=⟨20,[],(Zsg [0,1,2,3,8,9,10,11] [.ref 0,.j,.j,.j,.b,.b,.j,.j] [.sq (cs [.s])]),[⟨.exit 1,(Zsg [0,1,2,3,8,9] [.ref 0,.j,.j,.j,.b,.b] [.sq (cs [.s])])⟩,⟨.nor,(Zsg [0,1,2,3,8,9] [.ref 0,.j,.j,.j,.b,.b] [.sq (cs [.s])])⟩],Yc1 lo rec⟩
def Yk1(lo:Lo)(rec:Int×Int×Int×Zt2->Option (Zt2)):LL:=(YsU lo rec,q34_J20_b.er)::[]
theorem YsV(lo:Lo)(rec:Int×Int×Int×Zt2->Option (Zt2)):Lk lo pf (Yc0 rec::fs34 lo) 1 (Yk1 lo rec):=.j .n
def q34_J25_b:VCode:=
 (.seq (Rg [oM 61 8,oM 62 61,gT 63 62 (.mv 9),oP 64 62 63 (kb false),oM 65 64,gT 66 65 (.mv 12),gT 67 65 (.bin .eql 66 (k 1)),oP 68 65 67 (kb false)]
 (.cond 68 (Rg [oM 69 0,oM 70 1,oM 71 2,oC 72 316 [69,70,71]]
 (.cond 72 .ret
 .skip))
 .skip))
 (.jn 20 q34_J20_b))
def Yge(lo:Lo)(rec:Int×Int×Int×Zt2->Option (Zt2)):Int×Int×Int×Bool×Bool×Int×Int×Int×Zt2->Option ((Zt2)⊕Zp17⊕Zp17):=fun x=>match x with
  | (a1,b2,limit3,wasBalanced8,wasPartitioned9,length10,pivot11,hint12,data0)=>bif wasBalanced8 then(bif wasPartitioned9 then(bif(decide (hint12=1))then(Yy7 (q31 lo a1 b2 data0) fun y57=>chk (y57.2.length=data0.length) (bif y57.1 then(some (.inl y57.2))else(Yy7 (Yc1 lo rec (a1,b2,limit3,wasBalanced8,wasPartitioned9,length10,pivot11,y57.2)) fun y66=>alt2 y66 (fun y67=>some (.inr (.inl (y67.1,y67.2.1,y67.2.2.1,y67.2.2.2.1,y67.2.2.2.2.1,y67.2.2.2.2.2)))) (fun y68=>some (.inr (.inr (y68.1,y68.2.1,y68.2.2.1,y68.2.2.2.1,y68.2.2.2.2.1,y68.2.2.2.2.2)))))))else(Yy7 (Yc1 lo rec (a1,b2,limit3,wasBalanced8,wasPartitioned9,length10,pivot11,data0)) fun y69=>alt2 y69 (fun y70=>some (.inr (.inl (y70.1,y70.2.1,y70.2.2.1,y70.2.2.2.1,y70.2.2.2.2.1,y70.2.2.2.2.2)))) (fun y71=>some (.inr (.inr (y71.1,y71.2.1,y71.2.2.1,y71.2.2.2.1,y71.2.2.2.2.1,y71.2.2.2.2.2))))))else(Yy7 (Yc1 lo rec (a1,b2,limit3,wasBalanced8,wasPartitioned9,length10,pivot11,data0)) fun y72=>alt2 y72 (fun y73=>some (.inr (.inl (y73.1,y73.2.1,y73.2.2.1,y73.2.2.2.1,y73.2.2.2.2.1,y73.2.2.2.2.2)))) (fun y74=>some (.inr (.inr (y74.1,y74.2.1,y74.2.2.1,y74.2.2.2.1,y74.2.2.2.2.1,y74.2.2.2.2.2))))))else(Yy7 (Yc1 lo rec (a1,b2,limit3,wasBalanced8,wasPartitioned9,length10,pivot11,data0)) fun y75=>alt2 y75 (fun y76=>some (.inr (.inl (y76.1,y76.2.1,y76.2.2.1,y76.2.2.2.1,y76.2.2.2.2.1,y76.2.2.2.2.2)))) (fun y77=>some (.inr (.inr (y77.1,y77.2.1,y77.2.2.1,y77.2.2.2.1,y77.2.2.2.2.1,y77.2.2.2.2.2)))))
def YsW(lo:Lo)(rec:Int×Int×Int×Zt2->Option (Zt2)):LpE:=⟨25,[],(Zsg [0,1,2,3,8,9,10,11,12] [.ref 0,.j,.j,.j,.b,.b,.j,.j,.j] [.sq (cs [.s])]),[⟨.ret,(Zsg [] [] [.sq (cs [.s])])⟩,⟨.exit 1,(Zsg [0,1,2,3,8,9] [.ref 0,.j,.j,.j,.b,.b] [.sq (cs [.s])])⟩,⟨.nor,(Zsg [0,1,2,3,8,9] [.ref 0,.j,.j,.j,.b,.b] [.sq (cs [.s])])⟩],Yge lo rec⟩
def Yk2(lo:Lo)(rec:Int×Int×Int×Zt2->Option (Zt2)):LL:=(YsW lo rec,q34_J25_b.er)::Yk1 lo rec
theorem YsX(lo:Lo)(rec:Int×Int×Int×Zt2->Option (Zt2)):Lk lo pf (Yc0 rec::fs34 lo) 1 (Yk2 lo rec):=.j (YsV lo rec)
def q34_J30_b:VCode:=
 (Rg [oM 43 0,oM 44 1,oM 45 2,oC 46 314 [43,44,45],oM 42 46,oE 47 42 0,oE 48 42 1,oM 11 47,oM 12 48]
 (.seq (Rg [oM 49 12,oR 50 .eql 49 (k 2)]
 (.cond 50 (Rg [oM 51 0,oM 52 1,oM 53 2,oC 54 315 [51,52,53]]
 (Rg [oM 55 2,oR 56 .sub 55 (k 1),oM 57 11,oM 58 1,oR 59 .sub 57 58,oR 60 .sub 56 59,oM 11 60]
 (.reg [oK 12 1])))
 .skip))
 (.jn 25 q34_J25_b)))
def Ygf(lo:Lo)(rec:Int×Int×Int×Zt2->Option (Zt2)):Int×Int×Int×Bool×Bool×Int×Zt2->Option ((Zt2)⊕Zp17⊕Zp17):=fun x=>match x with
  | (a1,b2,limit3,wasBalanced8,wasPartitioned9,length10,data0)=>Yy7 (q29 lo data0 a1 b2) fun y55=>bif(decide (y55.2=(2:Int)))then(Yy7 (q30 lo a1 b2 data0) fun y56=>chk (y56.length=data0.length) (Yy7 (Yge lo rec (a1,b2,limit3,wasBalanced8,wasPartitioned9,length10,(Yzs .i64 ((Yzs .i64 (b2-1))-(Yzs .i64 (y55.1-a1)))),(1:Int),y56)) fun y78=>alt2 y78 (fun y79=>some (.inl y79)) (fun y80=>alt2 y80 (fun y81=>some (.inr (.inl (y81.1,y81.2.1,y81.2.2.1,y81.2.2.2.1,y81.2.2.2.2.1,y81.2.2.2.2.2)))) (fun y82=>some (.inr (.inr (y82.1,y82.2.1,y82.2.2.1,y82.2.2.2.1,y82.2.2.2.2.1,y82.2.2.2.2.2)))))))else(Yy7 (Yge lo rec (a1,b2,limit3,wasBalanced8,wasPartitioned9,length10,y55.1,y55.2,data0)) fun y83=>alt2 y83 (fun y84=>some (.inl y84)) (fun y85=>alt2 y85 (fun y86=>some (.inr (.inl (y86.1,y86.2.1,y86.2.2.1,y86.2.2.2.1,y86.2.2.2.2.1,y86.2.2.2.2.2)))) (fun y87=>some (.inr (.inr (y87.1,y87.2.1,y87.2.2.1,y87.2.2.2.1,y87.2.2.2.2.1,y87.2.2.2.2.2))))))
def YsY(lo:Lo)(rec:Int×Int×Int×Zt2->Option (Zt2)):LpE:=⟨30,[],(Zsg [0,1,2,3,8,9,10] [.ref 0,.j,.j,.j,.b,.b,.j] [.sq (cs [.s])]),[⟨.ret,(Zsg [] [] [.sq (cs [.s])])⟩,⟨.exit 1,(Zsg [0,1,2,3,8,9] [.ref 0,.j,.j,.j,.b,.b] [.sq (cs [.s])])⟩,⟨.nor,(Zsg [0,1,2,3,8,9] [.ref 0,.j,.j,.j,.b,.b] [.sq (cs [.s])])⟩],Ygf lo rec⟩
def Yk3(lo:Lo)(rec:Int×Int×Int×Zt2->Option (Zt2)):LL:=(YsY lo rec,q34_J30_b.er)::Yk2 lo rec
theorem YsZ(lo:Lo)(rec:Int×Int×Int×Zt2->Option (Zt2)):Lk lo pf (Yc0 rec::fs34 lo) 1 (Yk3 lo rec):=.j (YsX lo rec)
def q34_L1_b:VCode:=
 (.blk 1 (Rg [oM 19 2,oM 20 1,oR 21 .sub 19 20,oM 10 21]
 (.seq (Rg [oM 22 10,oR 23 .leq 22 (k 12)]
 (.cond 23 (Rg [oM 24 0,oM 25 1,oM 26 2,oC 27 311 [24,25,26]]
 .ret)
 .skip))
 (.seq (Rg [oM 28 3,oR 29 .eql 28 (k 0)]
 (.cond 29 (Rg [oM 30 0,oM 31 1,oM 32 2,oC 33 312 [30,31,32]]
 .ret)
 .skip))
 (.seq (Rg [oM 34 8,oX 35 34]
 (.cond 35 (Rg [oM 36 0,oM 37 1,oM 38 2,oC 39 313 [36,37,38]]
 (.reg [oM 40 3,oR 41 .sub 40 (k 1),oM 3 41]))
 .skip))
 (.jn 30 q34_J30_b))))))
def Yk4(lo:Lo)(rec:Int×Int×Int×Zt2->Option (Zt2)):Zp17->Option (Zp17⊕ ((Zt2))):=fun x=>match x with
  | (a1,b2,limit3,wasBalanced8,wasPartitioned9,data0)=>bif(decide ((Yzs .i64 (b2-a1))<=(12:Int)))then(Yy7 (q26 lo a1 b2 data0) fun y52=>chk (y52.length=data0.length) (some (.inr y52)))else(bif(decide (limit3=0))then(Yy7 (q27 lo a1 b2 data0) fun y53=>chk (y53.length=data0.length) (some (.inr y53)))else(bif(!wasBalanced8)then(Yy7 (q28 lo a1 b2 data0) fun y54=>chk (y54.length=data0.length) (Yy7 (Ygf lo rec (a1,b2,(Yzs .i64 (limit3-1)),wasBalanced8,wasPartitioned9,(Yzs .i64 (b2-a1)),y54)) fun y88=>alt2 y88 (fun y89=>some (.inr y89)) (fun y90=>alt2 y90 (fun y91=>some (.inl (y91.1,y91.2.1,y91.2.2.1,y91.2.2.2.1,y91.2.2.2.2.1,y91.2.2.2.2.2))) (fun y92=>some (.inl (y92.1,y92.2.1,y92.2.2.1,y92.2.2.2.1,y92.2.2.2.2.1,y92.2.2.2.2.2))))))else(Yy7 (Ygf lo rec (a1,b2,limit3,wasBalanced8,wasPartitioned9,(Yzs .i64 (b2-a1)),data0)) fun y93=>alt2 y93 (fun y94=>some (.inr y94)) (fun y95=>alt2 y95 (fun y96=>some (.inl (y96.1,y96.2.1,y96.2.2.1,y96.2.2.2.1,y96.2.2.2.2.1,y96.2.2.2.2.2))) (fun y97=>some (.inl (y97.1,y97.2.1,y97.2.2.1,y97.2.2.2.1,y97.2.2.2.2.1,y97.2.2.2.2.2)))))))
def Yk5(lo:Lo)(rec:Int×Int×Int×Zt2->Option (Zt2)):Zp17->Option ((Zt2)):=lo.run (Yk4 lo rec)
def Ys0(lo:Lo)(rec:Int×Int×Int×Zt2->Option (Zt2)):LpE:=⟨1,[],(Zsg [0,1,2,3,8,9] [.ref 0,.j,.j,.j,.b,.b] [.sq (cs [.s])]),[⟨.ret,(Zsg [] [] [.sq (cs [.s])])⟩],Yk5 lo rec⟩
def Yk6(lo:Lo)(rec:Int×Int×Int×Zt2->Option (Zt2)):LL:=(Ys0 lo rec,.loop q34_L1_b.er)::Yk3 lo rec
theorem Ys1(lo:Lo)(rec:Int×Int×Int×Zt2->Option (Zt2)):Lk lo pf (Yc0 rec::fs34 lo) 1 (Yk6 lo rec):=.l (YsZ lo rec) (Yk4 lo rec)
def Ys2(lo:Lo)(rec:Int×Int×Int×Zt2->Option (Zt2))(a1:Int)(b2:Int)(limit3:Int)(data0:List ByteArray):Option (Zt2):=
  Yy7 (Yk5 lo rec (a1,b2,limit3,true,true,data0)) fun y98=>some y98
def Ygg(lo:Lo):Nat->Int×Int×Int×Zt2->Option (Zt2)
  |0,_=>none
  |n+1,x=>Ys2 lo (Ygg lo n) x.1 x.2.1 x.2.2.1 x.2.2.2
def q34(lo:Lo)(a1:Int)(b2:Int)(limit3:Int)(data0:List ByteArray):Option (Zt2):=lo.run (fixS (Ygg lo)) (0,(a1,b2,limit3,data0))
def Ys3:VFn:=⟨true,134,[],
 (Rg [oB 8 true]
 (Rg [oB 9 true]
 (.blk 0 (.loop 1 q34_L1_b))))⟩
def Yk7(lo:Lo):FnE:=Yc0 (fun x=>q34 lo x.1 x.2.1 x.2.2.1 x.2.2.2)
def fs35(lo:Lo):List FnE:=Yk7 lo::fs34 lo
theorem Ys4(h:GZ P fm fs34 lo)(t:Ti P fm 301 Ys3):GZ P fm fs35 lo:=
  h.ir (Yk7 lo) (Ygg lo) (ls:=fun rec=>Yk6 lo rec) (fun rec=>(Ys1 lo rec)) t (by kernel_rfl) (fun _=>rfl) rfl (fun _=>by kernel_rfl) fun n x=>by kernel_rfl
def q35(lo:Lo)(x0:List ByteArray):Option (Zt2):=
  Yy7 (q23 lo (Yzs .u64 (x0.length:Int))) fun y46=>Yy7 (q34 lo (0:Int) (x0.length:Int) y46 x0) fun y99=>chk (y99.length=x0.length) (some y99)
def Ys5:VFn:=⟨true,11,[],
 (Rg [oM 3 0,oN 4 3,oM 2 4]
 (.reg [oM 5 0,oM 6 2,oM 7 2,o 8 (.conv .u64 7),oC 9 163 [8],oC 10 301 [5,(k 0),6,9]]))⟩
def Yk8(lo:Lo):FnE:=Zfe 271 false (Zsg [0] [.ref 0] [.sq (cs [.s])]) (.tp []) [.sq (cs [.s])] (fun x=>q35 lo x:Zt2->Option (Zt2))
def fs36(lo:Lo):List FnE:=Yk8 lo::fs35 lo
theorem Ys6(h:GZ P fm fs35 lo)(t:Ti P fm 271 Ys5):GZ P fm fs36 lo:=
  h.i (Yk8 lo) .n t
def q36(lo:Lo)(l:List ByteArray):Option Zt2:=YxG (q35 lo) l
def Ys7(lo:Lo):FnE:=vsortE 271 (.cons (.s) .nil) (q36 lo)
def fs37(lo:Lo):List FnE:=Ys7 lo::fs36 lo
theorem Ys8(h:GZ P fm fs36 lo)(hG: ∀f,fm f=271->Yu3 P f=true/\ ∃ρ:Go.Shelf.Ren,Go.Proofs.Lays.n190 P ρ/\ρ.f 190=f):GZ P fm fs37 lo:=
  ⟨h.1,h.2,Yq8 h.S rfl (F0:=q35 lo) (YyA ..) hG⟩
def q37(lo:Lo)(l:List Int):Option (List Int):=bif YyZ l.length maxEl&&YyZ 1 1 then some l else none
def Ys9(lo:Lo):FnE:=vcloneE 245 (cs [I])
def fs38(lo:Lo):List FnE:=Ys9 lo::fs37 lo
theorem Yta(h:GZ P fm fs37 lo)(htie: ∀f,fm f=245->fnTr P fm pf f=some (8,[.t 2],YvL 1 [(.int .i64 0)])):GZ P fm fs38 lo:=
  ⟨h.1,h.2,YjY h.S h.mx (cs [I]) rfl [(.int .i64 0)] 8 (by decide) htie⟩
def q38_L3_b:VCode:=
 (Rg [oR 26 .lss 25 24]
 (.seq (Ce 26 2)
 (.seq (.blk 3 (Rg [oI 27 1 23 25,oL 28 27,oM 7 28]
 (.reg [oM 29 5,oM 30 0,o 31 (.nilc 30),oF 32 3 31,oL 33 32,oM 34 7,o 35 (.mget none (.l (cs [I])) (cs []) false false 33 34),o 36 (.callN 245 [35] true),o 37 (.bsl Zc7 1 [(0,36)]),o 38 (.app Zc7 0 29 37),oM 5 38])))
 (.reg [oR 39 .add 25 (k 1),oM 25 39]))))
def Yem(lo:Lo):Zp13->Option (Zp13⊕ ((Int×Int×Int×Zt0×Bool×Bool×Int×Zt1×Zt6))):=fun x=>match x with
  | (v24,v25,x0_0,x0_1,h1_0,h1_1,h1_2,h1_3,h2_0,h2_1,out5,v23)=>bif(decide (v25<v24))then(chk (0<=v25/\v25< (v23.length:Int)) (Yy7 (q37 lo ((h2_1.getD (mix eqS (v23.getD v25.toNat (Yzr #[])) h2_1) ((0:Int),(Yzr #[]),[])).2.2)) fun y101=>chk (out5.length+[y101].length<=maxEl) (some (.inl (v24,(Yzs .i64 (v25+1)),x0_0,x0_1,h1_0,h1_1,h1_2,h1_3,h2_0,h2_1,(out5++[y101]),v23)))))else(some (.inr (x0_0,x0_1,h1_0,h1_1,h1_2,h1_3,h2_0,h2_1,out5)))
def Ygh(lo:Lo):Zp13->Option ((Int×Int×Int×Zt0×Bool×Bool×Int×Zt1×Zt6)):=lo.run (Yem lo)
def Ytb(lo:Lo):LpE:=⟨3,[(5,none,false)],(Zsg [0,5,23,24,25] [.ptr 0 0 0,.ref 3,.ref 4,.j,.j] [.st [.j,.i .u32,.np 1,.np 2],.st [.j,.l Zc4,.b,.b],.fp none (cs [I]),.sq Zc7,.sq (cs [.s])]),[⟨.exit 2,(Zsg [0,5] [.ptr 0 0 0,.ref 3] [.st [.j,.i .u32,.np 1,.np 2],.st [.j,.l Zc4,.b,.b],.fp none (cs [I]),.sq Zc7])⟩],Ygh lo⟩
def Yk9(lo:Lo):LL:=(Ytb lo,.loop q38_L3_b.er)::[]
theorem Ytc(lo:Lo):Lk lo pf (fs38 lo) 3 (Yk9 lo):=.l .n (Yem lo)
def Yla:VCode:=
 (.reg [oM 8 0,o 9 (.nilc 8),oF 10 3 9,oL 11 10,o 12 (.mrng 11)])
def Ylb:VCode:=
 (.blk 1 (Rg [o 15 (.ment none (.l (cs [I])) (cs []) false 12),oE 16 15 0,oM 4 16]
 (.reg [oM 17 3,oM 18 4,o 19 (.bsl (cs [.s]) 1 [(0,18)]),o 20 (.app (cs [.s]) 0 17 19),oM 3 20])))
def Ylc:VCode:=
 (Rg [oM 21 3,oC 22 271 [21]]
 (Rg [o 5 (.mv (ke Zc7))]
 (.seq (Rg [oM 23 3,oN 24 23,oK 25 0]
 (.blk 2 (.loop 3 q38_L3_b)))
 (Rg [oM 40 5,oM 2 40]
 .ret))))
def q38_J18_b:VCode:=.seq (.seq Yla (.blk 0 (.loop 12 (Rg [o 13 (.mnxt 12),oE 14 13 0] (Ywr 14 0 Ylb))))) Ylc
def Ytd:Sg:=(Zsg [0,3,12] [.ptr 0 0 0,.ref 3,.np 4] [.st [.j,.i .u32,.np 1,.np 2],.st [.j,.l Zc4,.b,.b],.fp none (cs [I]),.sq (cs [.s]),.st [.np 2,.j,.j,.l (cs [I]),.b]])
def Yld(lo:Lo):(Int×Int×Int×Zt0×Bool×Bool×Int×Zt1×Zt2)->Option (Int×Int×Int×Zt0×Bool×Bool×Int×Zt1×Zt2×Int×Int× (List Int)×Bool):=fun x=>match x with
  | (x0_0,x0_1,h1_0,h1_1,h1_2,h1_3,h2_0,h2_1,keys3)=>some (x0_0,x0_1,h1_0,h1_1,h1_2,h1_3,h2_0,h2_1,keys3,h2_0,h2_0,([]:List Int),false)
def Yen:Zp10->ItP:=fun x=>match x with
  | (x0_0,x0_1,h1_0,h1_1,h1_2,h1_3,h2_0,h2_1,keys3,v12_0,v12_1,v12_2,v12_3)=>(h2_1.map (fun e=>e.1),v12_2,h2_0,v12_0,v12_1)
def Yc2(lo:Lo):Zp10->Int->Option (Int×Int×Int×Zt0×Bool×Bool×Int×Zt1×Zt2×Int×Int× (List Int)×Bool):=fun x b=>match x with
  | (x0_0,x0_1,h1_0,h1_1,h1_2,h1_3,h2_0,h2_1,keys3,v12_0,v12_1,v12_2,v12_3)=>chk (v12_1=h2_0) (Yy7 (addI v12_2 b).getLast? fun y39=>Yy7 (mbf y39 h2_1) fun y40=>chk (keys3.length+[y40.1].length<=maxEl) (some (x0_0,x0_1,h1_0,h1_1,h1_2,h1_3,h2_0,h2_1,(keys3++[y40.1]),v12_0,v12_1,(addI v12_2 b),v12_3)))
def Yeo(lo:Lo):Zp10->Option ((Int×Int×Int×Zt0×Bool×Bool×Int×Zt1×Zt6)):=fun x=>match x with
  | (x0_0,x0_1,h1_0,h1_1,h1_2,h1_3,h2_0,h2_1,keys3,v12_0,v12_1,v12_2,v12_3)=>Yy7 (q36 lo keys3) fun y100=>chk (y100.length=keys3.length) (Yy7 (Ygh lo ((y100.length:Int),(0:Int),x0_0,x0_1,h1_0,h1_1,h1_2,h1_3,h2_0,h2_1,[],y100)) fun y102=>some (y102.1,y102.2.1,y102.2.2.1,y102.2.2.2.1,y102.2.2.2.2.1,y102.2.2.2.2.2.1,y102.2.2.2.2.2.2.1,y102.2.2.2.2.2.2.2.1,y102.2.2.2.2.2.2.2.2))
noncomputable def Ygi(lo:Lo):(Int×Int×Int×Zt0×Bool×Bool×Int×Zt1×Zt2)->Option ((Int×Int×Int×Zt0×Bool×Bool×Int×Zt1×Zt6)):=fun x=>Yy7 (Yld lo x) (rngF Yen (Yc2 lo) (Yeo lo))
noncomputable def Yep(lo:Lo):LpE:=⟨18,[(3,none,false)],(Zsg [0,3] [.ptr 0 0 0,.ref 3] [.st [.j,.i .u32,.np 1,.np 2],.st [.j,.l Zc4,.b,.b],.fp none (cs [I]),.sq (cs [.s])]),[⟨.ret,(Zsg [2,0] [.ref 3,.ptr 0 0 0] [.st [.j,.i .u32,.np 1,.np 2],.st [.j,.l Zc4,.b,.b],.fp none (cs [I]),.sq Zc7])⟩],Ygi lo⟩
noncomputable def Yte(lo:Lo):LL:=(Yep lo,q38_J18_b.er)::Yk9 lo
theorem Ytf(lo:Lo):Lk lo pf (fs38 lo) 3 (Yte lo):=
  .m (Ytc lo) (it:=12) (nx:=13) (mo:=14) (out:=0) (own:=(Yep lo).own) (g0:=(Yep lo).g) (outs:=(Yep lo).outs) (g:=Ytd) (pre:=Yla) (bb:=Ylb) (rest:=Ylc) (p:=Yen) (t:=Yc2 lo) (r:=Yeo lo) (u:=Yld lo) (by kernel_rfl) (fun x=>by kernel_rfl) (fun x b=>by kernel_rfl) (fun x=>by kernel_rfl) (fun x=>by kernel_rfl) rfl
noncomputable def q38(lo:Lo)(x0_0:Int)(x0_1:Int)(h1_0:Int)(h1_1:List (Int×Int×Int×Zt3))(h1_2:Bool)(h1_3:Bool)(h2_0:Int)(h2_1:List (Int×ByteArray× (List Int))):Option (Int×Int×Int×Zt0×Bool×Bool×Int×Zt1×Zt6):=
  Yy7 (Ygi lo (x0_0,x0_1,h1_0,h1_1,h1_2,h1_3,h2_0,h2_1,[])) fun y103=>some (y103.1,y103.2.1,y103.2.2.1,y103.2.2.2.1,y103.2.2.2.2.1,y103.2.2.2.2.2.1,y103.2.2.2.2.2.2.1,y103.2.2.2.2.2.2.2.1,y103.2.2.2.2.2.2.2.2)
def Ytg:VFn:=⟨true,41,[.t 2],
 (Rg [o 2 (.mv (ke Zc7))]
 (Rg [o 3 (.mv (ke (cs [.s])))]
 (.jn 18 q38_J18_b)))⟩
noncomputable def Yle(lo:Lo):FnE:=Zfe 340 false (Zsg [0] [.ptr 0 0 0] [.st [.j,.i .u32,.np 1,.np 2],.st [.j,.l Zc4,.b,.b],.fp none (cs [I])]) (.ref 3) [.st [.j,.i .u32,.np 1,.np 2],.st [.j,.l Zc4,.b,.b],.fp none (cs [I]),.sq Zc7] (fun x=>q38 lo x.1 x.2.1 x.2.2.1 x.2.2.2.1 x.2.2.2.2.1 x.2.2.2.2.2.1 x.2.2.2.2.2.2.1 x.2.2.2.2.2.2.2:Int×Int×Int×Zt0×Bool×Bool×Int×Zt1->Option (Int×Int×Int×Zt0×Bool×Bool×Int×Zt1×Zt6))
noncomputable def fs39(lo:Lo):List FnE:=Yle lo::fs38 lo
theorem Yth(h:GZ P fm fs38 lo)(t:Ti P fm 340 Ytg):GZ P fm fs39 lo:=
  h.i (Yle lo) (Ytf lo) t
def q39_L3_b:VCode:=
 (.seq (Rg [oM 11 5,oM 12 0,oN 13 12,oR 14 .lss 11 13]
 (Ce 14 0))
 (.seq (.blk 1 (Rg [oM 17 0,oM 18 5,oI 19 1 17 18,oL 20 19,oM 21 1,oM 22 5,oI 23 1 21 22,oL 24 23,oR 25 .neq 20 24]
 (.cond 25 (Rg [oB 4 false]
 (Fr 4))
 .skip)))
 (.reg [oM 15 5,oR 16 .add 15 (k 1),oM 5 16])))
def Yeq(lo:Lo):(List Int)× (List Int)×Int->Option (((List Int)× (List Int)×Int)⊕ (Bool⊕Unit)):=fun x=>match x with
  | (a0,b1,i5)=>bif(decide (i5< (a0.length:Int)))then(chk (0<=i5/\i5< (a0.length:Int)) (chk (0<=i5/\i5< (b1.length:Int)) (bif(!decide ((a0.getD i5.toNat (0:Int))=(b1.getD i5.toNat (0:Int))))then(some (.inr (.inl false)))else(some (.inl (a0,b1,(Yzs .i64 (i5+1))))))))else(some (.inr (.inr ())))
def Ygj(lo:Lo):(List Int)× (List Int)×Int->Option (Bool⊕Unit):=lo.run (Yeq lo)
def Yti(lo:Lo):LpE:=⟨3,[],(Zsg [0,1,5] [.l (cs [I]),.l (cs [I]),.j] []),[⟨.ret,(Zsg [4] [.b] [])⟩,⟨.exit 0,(Zsg [] [] [])⟩],Ygj lo⟩
def Ytj(lo:Lo):LL:=(Yti lo,.loop q39_L3_b.er)::[]
theorem Ytk(lo:Lo):Lk lo pf (fs39 lo) 0 (Ytj lo):=.l .n (Yeq lo)
def q39(lo:Lo)(a0:List Int)(b1:List Int):Option Bool:=
  bif(!decide ((a0.length:Int)=(b1.length:Int)))then(some false)else(Yy7 (Ygj lo (a0,b1,(0:Int))) fun y105=>alt2 y105 (fun y106=>some y106) (fun y107=>some true))
def Ytl:VFn:=⟨true,26,[.t 4],
 (Rg [oB 4 false]
 (.seq (Rg [oM 6 0,oN 7 6,oM 8 1,oN 9 8,oR 10 .neq 7 9]
 (.cond 10 (Rg [oB 4 false]
 (Fr 4))
 .skip))
 (.seq (Rg [oK 5 0]
 (.blk 0 (.loop 3 q39_L3_b)))
 (Rg [oB 4 true]
 (Fr 4)))))⟩
def Ylf(lo:Lo):FnE:=Zfe 351 true (Zsg [0,1] [.l (cs [I]),.l (cs [I])] []) .b [] (fun x=>q39 lo x.1 x.2:(List Int)× (List Int)->Option Bool)
noncomputable def fs40(lo:Lo):List FnE:=Ylf lo::fs39 lo
theorem Ytm(h:GZ P fm fs39 lo)(t:Ti P fm 351 Ytl):GZ P fm fs40 lo:=
  h.p (Ylf lo) (Ytk lo) t
def q40_L3_b:VCode:=
 (.seq (Rg [oM 11 5,oM 12 0,oN 13 12,oR 14 .lss 11 13]
 (Ce 14 0))
 (.seq (.blk 1 (Rg [oM 17 0,oM 18 5,oI 19 1 17 18,oL 20 19,oM 21 1,oM 22 5,oI 23 1 21 22,oL 24 23,oC 25 351 [20,24],oX 26 25]
 (.cond 26 (Rg [oB 4 false]
 (Fr 4))
 .skip)))
 (.reg [oM 15 5,oR 16 .add 15 (k 1),oM 5 16])))
def Yer(lo:Lo):Zt6×Zt6×Int->Option ((Zt6×Zt6×Int)⊕ (Bool⊕Unit)):=fun x=>match x with
  | (a0,b1,i5)=>bif(decide (i5< (a0.length:Int)))then(chk (0<=i5/\i5< (a0.length:Int)) (chk (0<=i5/\i5< (b1.length:Int)) (Yy7 (q39 lo (a0.getD i5.toNat []) (b1.getD i5.toNat [])) fun y108=>bif(!y108)then(some (.inr (.inl false)))else(some (.inl (a0,b1,(Yzs .i64 (i5+1))))))))else(some (.inr (.inr ())))
def Ygk(lo:Lo):Zt6×Zt6×Int->Option (Bool⊕Unit):=lo.run (Yer lo)
def Ytn(lo:Lo):LpE:=⟨3,[],(Zsg [0,1,5] [.l Zc7,.l Zc7,.j] []),[⟨.ret,(Zsg [4] [.b] [])⟩,⟨.exit 0,(Zsg [] [] [])⟩],Ygk lo⟩
def Yto(lo:Lo):LL:=(Ytn lo,.loop q40_L3_b.er)::[]
theorem Ytp(lo:Lo):Lk lo pf (fs40 lo) 0 (Yto lo):=.l .n (Yer lo)
def q40(lo:Lo)(a0:List ((List Int)))(b1:List ((List Int))):Option Bool:=
  bif(!decide ((a0.length:Int)=(b1.length:Int)))then(some false)else(Yy7 (Ygk lo (a0,b1,(0:Int))) fun y109=>alt2 y109 (fun y110=>some y110) (fun y111=>some true))
def Ytq:VFn:=⟨true,27,[.t 4],
 (Rg [oB 4 false]
 (.seq (Rg [oM 6 0,oN 7 6,oM 8 1,oN 9 8,oR 10 .neq 7 9]
 (.cond 10 (Rg [oB 4 false]
 (Fr 4))
 .skip))
 (.seq (Rg [oK 5 0]
 (.blk 0 (.loop 3 q40_L3_b)))
 (Rg [oB 4 true]
 (Fr 4)))))⟩
def Ylg(lo:Lo):FnE:=Zfe 346 true (Zsg [0,1] [.l Zc7,.l Zc7] []) .b [] (fun x=>q40 lo x.1 x.2:Zt6×Zt6->Option Bool)
noncomputable def fs41(lo:Lo):List FnE:=Ylg lo::fs40 lo
theorem Ytr(h:GZ P fm fs40 lo)(t:Ti P fm 346 Ytq):GZ P fm fs41 lo:=
  h.p (Ylg lo) (Ytp lo) t
def q41_L3_b:VCode:=
 (.seq (Rg [oM 16 7,oM 17 1,oR 18 .gtr 16 17,oM 19 18,gT 20 19 (.mv 0),gT 21 19 (.mv 7),gT 22 19 (.iad 1 20 21),gT 23 19 (.load false 1 22),gT 24 19 (.mv 0),gT 25 19 (.mv 7),gT 26 19 (.bin .sub 25 (k 1)),gT 27 19 (.iad 1 24 26),gT 28 19 (.load false 1 27),gT 29 19 (.call 370 [23,28]),oP 30 19 29 (kb false)]
 (Ce 30 2))
 (.seq (.blk 3 (.reg [oM 33 0,oM 34 7,oM 35 0,oM 36 7,oR 37 .sub 36 (k 1),oM 38 0,oM 39 7,oR 40 .sub 39 (k 1),oI 41 1 38 40,oL 42 41,oM 43 0,oM 44 7,oI 45 1 43 44,oL 46 45,oI 47 1 33 34,oS 1 47 42,oI 48 1 35 37,oS 1 48 46]))
 (.reg [oM 31 7,oR 32 .sub 31 (k 1),oM 7 32])))
def Ylh(lo:Lo):Int×Int×Int×Int× (List Int)->Option ((Int×Int×Int×Int× (List Int))⊕ ((Int×Int×Int× (List Int)))):=fun x=>match x with
  | (a1,b2,i6,j7,data0)=>bif(decide (a1<j7))then(chk (0<=j7/\j7< (data0.length:Int)) (chk (0<=(Yzs .i64 (j7-1))/\ (Yzs .i64 (j7-1))< (data0.length:Int)) (Yy7 (q16 lo (data0.getD j7.toNat (0:Int)) (data0.getD ((Yzs .i64 (j7-1)).toNat) (0:Int))) fun y119=>bif y119 then(chk (0<=(Yzs .i64 (j7-1))/\ (Yzs .i64 (j7-1))< (data0.length:Int)) (chk (0<=j7/\j7< (data0.length:Int)) (chk (0<=j7/\j7< (data0.length:Int)) (chk (0<=(Yzs .i64 (j7-1))/\ (Yzs .i64 (j7-1))< ((data0.set j7.toNat (data0.getD ((Yzs .i64 (j7-1)).toNat) (0:Int))).length:Int)) (some (.inl (a1,b2,i6,(Yzs .i64 (j7-1)),((data0.set j7.toNat (data0.getD ((Yzs .i64 (j7-1)).toNat) (0:Int))).set ((Yzs .i64 (j7-1)).toNat) (data0.getD j7.toNat (0:Int))))))))))else(some (.inr (a1,b2,i6,data0))))))else(some (.inr (a1,b2,i6,data0)))
def Yli(lo:Lo):Int×Int×Int×Int× (List Int)->Option ((Int×Int×Int× (List Int))):=lo.run (Ylh lo)
def Yts(lo:Lo):LpE:=⟨3,[],(Zsg [0,1,2,6,7] [.ref 0,.j,.j,.j,.j] [.sq (cs [I])]),[⟨.exit 2,(Zsg [0,1,2,6] [.ref 0,.j,.j,.j] [.sq (cs [I])])⟩],Yli lo⟩
def Ylj(lo:Lo):LL:=(Yts lo,.loop q41_L3_b.er)::[]
theorem Ytt(lo:Lo):Lk lo pf (fs41 lo) 1 (Ylj lo):=.l .n (Ylh lo)
def q41_L1_b:VCode:=
 (.seq (Rg [oM 10 6,oM 11 2,oR 12 .lss 10 11]
 (Ce 12 0))
 (.seq (.blk 1 (Rg [oM 15 6,oM 7 15]
 (.blk 2 (.loop 3 q41_L3_b))))
 (.reg [oM 13 6,oR 14 .add 13 (k 1),oM 6 14])))
def Ylk(lo:Lo):Int×Int×Int× (List Int)->Option ((Int×Int×Int× (List Int))⊕ (((List Int)))):=fun x=>match x with
  | (a1,b2,i6,data0)=>bif(decide (i6<b2))then(Yy7 (Yli lo (a1,b2,i6,i6,data0)) fun y120=>some (.inl (y120.1,y120.2.1,(Yzs .i64 (y120.2.2.1+(1:Int))),y120.2.2.2)))else(some (.inr data0))
def Yll(lo:Lo):Int×Int×Int× (List Int)->Option (((List Int))):=lo.run (Ylk lo)
def Ytu(lo:Lo):LpE:=⟨1,[],(Zsg [0,1,2,6] [.ref 0,.j,.j,.j] [.sq (cs [I])]),[⟨.exit 0,(Zsg [] [] [.sq (cs [I])])⟩],Yll lo⟩
def Ytv(lo:Lo):LL:=(Ytu lo,.loop q41_L1_b.er)::Ylj lo
theorem Ytw(lo:Lo):Lk lo pf (fs41 lo) 1 (Ytv lo):=.l (Ytt lo) (Ylk lo)
def q41(lo:Lo)(a1:Int)(b2:Int)(data0:List Int):Option ((List Int)):=
  Yy7 (Yll lo (a1,b2,(Yzs .i64 (a1+1)),data0)) fun y121=>some y121
def Ytx:VFn:=⟨true,49,[],
 (Rg [oM 8 1,oR 9 .add 8 (k 1),oM 6 9]
 (.blk 0 (.loop 1 q41_L1_b)))⟩
def Ylm(lo:Lo):FnE:=Zfe 378 false (Zsg [0,1,2] [.ref 0,.j,.j] [.sq (cs [I])]) (.tp []) [.sq (cs [I])] (fun x=>q41 lo x.1 x.2.1 x.2.2:Int×Int× (List Int)->Option ((List Int)))
noncomputable def fs42(lo:Lo):List FnE:=Ylm lo::fs41 lo
theorem Yty(h:GZ P fm fs41 lo)(t:Ti P fm 378 Ytx):GZ P fm fs42 lo:=
  h.i (Ylm lo) (Ytw lo) t
end Go.Abs.G35
namespace Go.Abs.G35
open Go Go.Abs
set_option maxRecDepth 100000
set_option maxHeartbeats 1000000
variable{P:Program}{fm:FM}{lo:Lo}
def q42(lo:Lo)(x0:Int)(x1:Int)(x2:List Int):Option ((List Int)):=none
def Yln(lo:Lo):FnE:=Zfe 379 false (Zsg [0,1,2] [.ref 0,.j,.j] [.sq (cs [I])]) (.tp []) [.sq (cs [I])] (fun x=>q42 lo x.1 x.2.1 x.2.2:Int×Int× (List Int)->Option ((List Int)))
noncomputable def fs43(lo:Lo):List FnE:=Yln lo::fs42 lo
theorem Ytz(h:GZ P fm fs42 lo)(hN:True):GZ P fm fs43 lo:=
  ⟨h.1,h.2,YaJ h.S (Yln lo) (fun _=>rfl)⟩
def q43(lo:Lo)(x0:Int)(x1:Int)(x2:List Int):Option ((List Int)):=none
def Ylo(lo:Lo):FnE:=Zfe 380 false (Zsg [0,1,2] [.ref 0,.j,.j] [.sq (cs [I])]) (.tp []) [.sq (cs [I])] (fun x=>q43 lo x.1 x.2.1 x.2.2:Int×Int× (List Int)->Option ((List Int)))
noncomputable def fs44(lo:Lo):List FnE:=Ylo lo::fs43 lo
theorem YtA(h:GZ P fm fs43 lo)(hN:True):GZ P fm fs44 lo:=
  ⟨h.1,h.2,YaJ h.S (Ylo lo) (fun _=>rfl)⟩
def q44(lo:Lo)(x0:List Int)(x1:Int)(x2:Int):Option (Int×Int):=none
def Ylp(lo:Lo):FnE:=Zfe 381 true (Zsg [0,1,2] [.l (cs [I]),.j,.j] []) (.tp [.j,.j]) [] (fun x=>q44 lo x.1 x.2.1 x.2.2:(List Int)×Int×Int->Option (Int×Int))
noncomputable def fs45(lo:Lo):List FnE:=Ylp lo::fs44 lo
theorem YtB(h:GZ P fm fs44 lo)(hN:True):GZ P fm fs45 lo:=
  ⟨h.1,h.2,YaJ h.S (Ylp lo) (fun _=>rfl)⟩
def q45(lo:Lo)(x0:Int)(x1:Int)(x2:List Int):Option ((List Int)):=none
def Ylq(lo:Lo):FnE:=Zfe 382 false (Zsg [0,1,2] [.ref 0,.j,.j] [.sq (cs [I])]) (.tp []) [.sq (cs [I])] (fun x=>q45 lo x.1 x.2.1 x.2.2:Int×Int× (List Int)->Option ((List Int)))
noncomputable def fs46(lo:Lo):List FnE:=Ylq lo::fs45 lo
theorem YtC(h:GZ P fm fs45 lo)(hN:True):GZ P fm fs46 lo:=
  ⟨h.1,h.2,YaJ h.S (Ylq lo) (fun _=>rfl)⟩
def q46(lo:Lo)(x0:Int)(x1:Int)(x2:List Int):Option (Bool× (List Int)):=none
def Ylr(lo:Lo):FnE:=Zfe 383 false (Zsg [0,1,2] [.ref 0,.j,.j] [.sq (cs [I])]) .b [.sq (cs [I])] (fun x=>q46 lo x.1 x.2.1 x.2.2:Int×Int× (List Int)->Option (Bool× (List Int)))
noncomputable def fs47(lo:Lo):List FnE:=Ylr lo::fs46 lo
theorem YtD(h:GZ P fm fs46 lo)(hN:True):GZ P fm fs47 lo:=
  ⟨h.1,h.2,YaJ h.S (Ylr lo) (fun _=>rfl)⟩
def q47(lo:Lo)(x0:Int)(x1:Int)(x2:Int)(x3:List Int):Option (Int× (List Int)):=none
def Yls(lo:Lo):FnE:=Zfe 384 false (Zsg [0,1,2,3] [.ref 0,.j,.j,.j] [.sq (cs [I])]) (.i .i64) [.sq (cs [I])] (fun x=>q47 lo x.1 x.2.1 x.2.2.1 x.2.2.2:Int×Int×Int× (List Int)->Option (Int× (List Int)))
noncomputable def fs48(lo:Lo):List FnE:=Yls lo::fs47 lo
theorem YtE(h:GZ P fm fs47 lo)(hN:True):GZ P fm fs48 lo:=
  ⟨h.1,h.2,YaJ h.S (Yls lo) (fun _=>rfl)⟩
def q48(lo:Lo)(x0:Int)(x1:Int)(x2:Int)(x3:List Int):Option (Int×Bool× (List Int)):=none
def Ylt(lo:Lo):FnE:=Zfe 385 false (Zsg [0,1,2,3] [.ref 0,.j,.j,.j] [.sq (cs [I])]) (.tp [.j,.b]) [.sq (cs [I])] (fun x=>q48 lo x.1 x.2.1 x.2.2.1 x.2.2.2:Int×Int×Int× (List Int)->Option (Int×Bool× (List Int)))
noncomputable def fs49(lo:Lo):List FnE:=Ylt lo::fs48 lo
theorem YtF(h:GZ P fm fs48 lo)(hN:True):GZ P fm fs49 lo:=
  ⟨h.1,h.2,YaJ h.S (Ylt lo) (fun _=>rfl)⟩
def Yc3(F:Int×Int×Int× (List Int)->Option ((List Int))):FnE:=⟨375,false,(Zsg [0,1,2,3] [.ref 0,.j,.j,.j] [.sq (cs [I])]),.tp [],[.sq (cs [I])],Zc7,F⟩
def q49_J20_b:VCode:=
 (.seq (Rg [oM 73 1,oR 74 .gtr 73 (k 0),oM 75 74,gT 76 75 (.mv 0),gT 77 75 (.mv 1),gT 78 75 (.bin .sub 77 (k 1)),gT 79 75 (.iad 1 76 78),gT 80 75 (.load false 1 79),gT 81 75 (.mv 0),gT 82 75 (.mv 11),gT 83 75 (.iad 1 81 82),gT 84 75 (.load false 1 83),gT 85 75 (.call 370 [80,84]),gT 86 75 (.not 85),oP 87 75 86 (kb false)]
 (.cond 87 (Rg [oM 88 0,oM 89 1,oM 90 2,oM 91 11,oC 92 384 [88,89,90,91],oM 13 92]
 (Rg [oM 93 13,oM 1 93]
 (.exit 1)))
 .skip))
 (Rg [oM 95 0,oM 96 1,oM 97 2,oM 98 11,oC 99 385 [95,96,97,98],oM 94 99,oE 100 94 0,oE 101 94 1,oM 14 100,oM 15 101]
 (Rg [oM 102 15,oM 9 102]
 (Rg [oM 103 14,oM 104 1,oR 105 .sub 103 104,oM 106 2,oM 107 14,oR 108 .sub 106 107,oM 16 105,oM 17 108]
 (Rg [oM 109 10,oR 110 .quo 109 (k 8),oM 18 110]
 (Rg [oM 111 16,oM 112 17,oR 113 .lss 111 112]
 (.cond 113 (Rg [oM 114 16,oM 115 18,oR 116 .geq 114 115,oM 8 116]
 (Rg [oM 117 0,oM 118 1,oM 119 14,oM 120 3,oC 121 375 [117,118,119,120]]
 (.reg [oM 122 14,oR 123 .add 122 (k 1),oM 1 123])))
 (Rg [oM 124 17,oM 125 18,oR 126 .geq 124 125,oM 8 126]
 (Rg [oM 127 0,oM 128 14,oR 129 .add 128 (k 1),oM 130 2,oM 131 3,oC 132 375 [127,129,130,131]]
 (.reg [oM 133 14,oM 2 133]))))))))))
def Yc4(lo:Lo)(rec:Int×Int×Int× (List Int)->Option ((List Int))):Int×Int×Int×Bool×Bool×Int×Int× (List Int)->Option (Zp16⊕Zp16):=fun x=>match x with
  | (a1,b2,limit3,wasBalanced8,wasPartitioned9,length10,pivot11,data0)=>bif(decide (0<a1))then(chk (0<=(Yzs .i64 (a1-1))/\ (Yzs .i64 (a1-1))< (data0.length:Int)) (chk (0<=pivot11/\pivot11< (data0.length:Int)) (Yy7 (q16 lo (data0.getD ((Yzs .i64 (a1-1)).toNat) (0:Int)) (data0.getD pivot11.toNat (0:Int))) fun y128=>bif(!y128)then(Yy7 (q47 lo a1 b2 pivot11 data0) fun y129=>chk (y129.2.length=data0.length) (some (.inl (y129.1,b2,limit3,wasBalanced8,wasPartitioned9,y129.2))))else(Yy7 (q48 lo a1 b2 pivot11 data0) fun y130=>chk (y130.2.2.length=data0.length) (chk ((8:Int)≠0) (bif(decide ((Yzs .i64 (y130.1-a1))< (Yzs .i64 (b2-y130.1))))then(Yy7 (rec (a1,y130.1,limit3,y130.2.2)) fun y131=>chk (y131.length=y130.2.2.length) (some (.inr ((Yzs .i64 (y130.1+(1:Int))),b2,limit3,(decide ((Yzs .i64 (length10.tdiv (8:Int)))<=(Yzs .i64 (y130.1-a1)))),y130.2.1,y131))))else(Yy7 (rec ((Yzs .i64 (y130.1+(1:Int))),b2,limit3,y130.2.2)) fun y132=>chk (y132.length=y130.2.2.length) (some (.inr (a1,y130.1,limit3,(decide ((Yzs .i64 (length10.tdiv (8:Int)))<=(Yzs .i64 (b2-y130.1)))),y130.2.1,y132))))))))))else(Yy7 (q48 lo a1 b2 pivot11 data0) fun y133=>chk (y133.2.2.length=data0.length) (chk ((8:Int)≠0) (bif(decide ((Yzs .i64 (y133.1-a1))< (Yzs .i64 (b2-y133.1))))then(Yy7 (rec (a1,y133.1,limit3,y133.2.2)) fun y134=>chk (y134.length=y133.2.2.length) (some (.inr ((Yzs .i64 (y133.1+(1:Int))),b2,limit3,(decide ((Yzs .i64 (length10.tdiv (8:Int)))<=(Yzs .i64 (y133.1-a1)))),y133.2.1,y134))))else(Yy7 (rec ((Yzs .i64 (y133.1+(1:Int))),b2,limit3,y133.2.2)) fun y135=>chk (y135.length=y133.2.2.length) (some (.inr (a1,y133.1,limit3,(decide ((Yzs .i64 (length10.tdiv (8:Int)))<=(Yzs .i64 (b2-y133.1)))),y133.2.1,y135)))))))
def YtG(lo:Lo)(rec:Int×Int×Int× (List Int)->Option ((List Int))):LpE:=⟨20,[],(Zsg [0,1,2,3,8,9,10,11] [.ref 0,.j,.j,.j,.b,.b,.j,.j] [.sq (cs [I])]),[⟨.exit 1,(Zsg [0,1,2,3,8,9] [.ref 0,.j,.j,.j,.b,.b] [.sq (cs [I])])⟩,⟨.nor,(Zsg [0,1,2,3,8,9] [.ref 0,.j,.j,.j,.b,.b] [.sq (cs [I])])⟩],Yc4 lo rec⟩
def Ylu(lo:Lo)(rec:Int×Int×Int× (List Int)->Option ((List Int))):LL:=(YtG lo rec,q49_J20_b.er)::[]
theorem YtH(lo:Lo)(rec:Int×Int×Int× (List Int)->Option ((List Int))):Lk lo pf (Yc3 rec::fs49 lo) 1 (Ylu lo rec):=.j .n
def q49_J25_b:VCode:=
 (.seq (Rg [oM 61 8,oM 62 61,gT 63 62 (.mv 9),oP 64 62 63 (kb false),oM 65 64,gT 66 65 (.mv 12),gT 67 65 (.bin .eql 66 (k 1)),oP 68 65 67 (kb false)]
 (.cond 68 (Rg [oM 69 0,oM 70 1,oM 71 2,oC 72 383 [69,70,71]]
 (.cond 72 .ret
 .skip))
 .skip))
 (.jn 20 q49_J20_b))
def Ygl(lo:Lo)(rec:Int×Int×Int× (List Int)->Option ((List Int))):Int×Int×Int×Bool×Bool×Int×Int×Int× (List Int)->Option (((List Int))⊕Zp16⊕Zp16):=fun x=>match x with
  | (a1,b2,limit3,wasBalanced8,wasPartitioned9,length10,pivot11,hint12,data0)=>bif wasBalanced8 then(bif wasPartitioned9 then(bif(decide (hint12=1))then(Yy7 (q46 lo a1 b2 data0) fun y127=>chk (y127.2.length=data0.length) (bif y127.1 then(some (.inl y127.2))else(Yy7 (Yc4 lo rec (a1,b2,limit3,wasBalanced8,wasPartitioned9,length10,pivot11,y127.2)) fun y136=>alt2 y136 (fun y137=>some (.inr (.inl (y137.1,y137.2.1,y137.2.2.1,y137.2.2.2.1,y137.2.2.2.2.1,y137.2.2.2.2.2)))) (fun y138=>some (.inr (.inr (y138.1,y138.2.1,y138.2.2.1,y138.2.2.2.1,y138.2.2.2.2.1,y138.2.2.2.2.2)))))))else(Yy7 (Yc4 lo rec (a1,b2,limit3,wasBalanced8,wasPartitioned9,length10,pivot11,data0)) fun y139=>alt2 y139 (fun y140=>some (.inr (.inl (y140.1,y140.2.1,y140.2.2.1,y140.2.2.2.1,y140.2.2.2.2.1,y140.2.2.2.2.2)))) (fun y141=>some (.inr (.inr (y141.1,y141.2.1,y141.2.2.1,y141.2.2.2.1,y141.2.2.2.2.1,y141.2.2.2.2.2))))))else(Yy7 (Yc4 lo rec (a1,b2,limit3,wasBalanced8,wasPartitioned9,length10,pivot11,data0)) fun y142=>alt2 y142 (fun y143=>some (.inr (.inl (y143.1,y143.2.1,y143.2.2.1,y143.2.2.2.1,y143.2.2.2.2.1,y143.2.2.2.2.2)))) (fun y144=>some (.inr (.inr (y144.1,y144.2.1,y144.2.2.1,y144.2.2.2.1,y144.2.2.2.2.1,y144.2.2.2.2.2))))))else(Yy7 (Yc4 lo rec (a1,b2,limit3,wasBalanced8,wasPartitioned9,length10,pivot11,data0)) fun y145=>alt2 y145 (fun y146=>some (.inr (.inl (y146.1,y146.2.1,y146.2.2.1,y146.2.2.2.1,y146.2.2.2.2.1,y146.2.2.2.2.2)))) (fun y147=>some (.inr (.inr (y147.1,y147.2.1,y147.2.2.1,y147.2.2.2.1,y147.2.2.2.2.1,y147.2.2.2.2.2)))))
def YtI(lo:Lo)(rec:Int×Int×Int× (List Int)->Option ((List Int))):LpE:=⟨25,[],(Zsg [0,1,2,3,8,9,10,11,12] [.ref 0,.j,.j,.j,.b,.b,.j,.j,.j] [.sq (cs [I])]),[⟨.ret,(Zsg [] [] [.sq (cs [I])])⟩,⟨.exit 1,(Zsg [0,1,2,3,8,9] [.ref 0,.j,.j,.j,.b,.b] [.sq (cs [I])])⟩,⟨.nor,(Zsg [0,1,2,3,8,9] [.ref 0,.j,.j,.j,.b,.b] [.sq (cs [I])])⟩],Ygl lo rec⟩
def Ylv(lo:Lo)(rec:Int×Int×Int× (List Int)->Option ((List Int))):LL:=(YtI lo rec,q49_J25_b.er)::Ylu lo rec
theorem YtJ(lo:Lo)(rec:Int×Int×Int× (List Int)->Option ((List Int))):Lk lo pf (Yc3 rec::fs49 lo) 1 (Ylv lo rec):=.j (YtH lo rec)
def q49_J30_b:VCode:=
 (Rg [oM 43 0,oM 44 1,oM 45 2,oC 46 381 [43,44,45],oM 42 46,oE 47 42 0,oE 48 42 1,oM 11 47,oM 12 48]
 (.seq (Rg [oM 49 12,oR 50 .eql 49 (k 2)]
 (.cond 50 (Rg [oM 51 0,oM 52 1,oM 53 2,oC 54 382 [51,52,53]]
 (Rg [oM 55 2,oR 56 .sub 55 (k 1),oM 57 11,oM 58 1,oR 59 .sub 57 58,oR 60 .sub 56 59,oM 11 60]
 (.reg [oK 12 1])))
 .skip))
 (.jn 25 q49_J25_b)))
def Ygm(lo:Lo)(rec:Int×Int×Int× (List Int)->Option ((List Int))):Int×Int×Int×Bool×Bool×Int× (List Int)->Option (((List Int))⊕Zp16⊕Zp16):=fun x=>match x with
  | (a1,b2,limit3,wasBalanced8,wasPartitioned9,length10,data0)=>Yy7 (q44 lo data0 a1 b2) fun y125=>bif(decide (y125.2=(2:Int)))then(Yy7 (q45 lo a1 b2 data0) fun y126=>chk (y126.length=data0.length) (Yy7 (Ygl lo rec (a1,b2,limit3,wasBalanced8,wasPartitioned9,length10,(Yzs .i64 ((Yzs .i64 (b2-1))-(Yzs .i64 (y125.1-a1)))),(1:Int),y126)) fun y148=>alt2 y148 (fun y149=>some (.inl y149)) (fun y150=>alt2 y150 (fun y151=>some (.inr (.inl (y151.1,y151.2.1,y151.2.2.1,y151.2.2.2.1,y151.2.2.2.2.1,y151.2.2.2.2.2)))) (fun y152=>some (.inr (.inr (y152.1,y152.2.1,y152.2.2.1,y152.2.2.2.1,y152.2.2.2.2.1,y152.2.2.2.2.2)))))))else(Yy7 (Ygl lo rec (a1,b2,limit3,wasBalanced8,wasPartitioned9,length10,y125.1,y125.2,data0)) fun y153=>alt2 y153 (fun y154=>some (.inl y154)) (fun y155=>alt2 y155 (fun y156=>some (.inr (.inl (y156.1,y156.2.1,y156.2.2.1,y156.2.2.2.1,y156.2.2.2.2.1,y156.2.2.2.2.2)))) (fun y157=>some (.inr (.inr (y157.1,y157.2.1,y157.2.2.1,y157.2.2.2.1,y157.2.2.2.2.1,y157.2.2.2.2.2))))))
def YtK(lo:Lo)(rec:Int×Int×Int× (List Int)->Option ((List Int))):LpE:=⟨30,[],(Zsg [0,1,2,3,8,9,10] [.ref 0,.j,.j,.j,.b,.b,.j] [.sq (cs [I])]),[⟨.ret,(Zsg [] [] [.sq (cs [I])])⟩,⟨.exit 1,(Zsg [0,1,2,3,8,9] [.ref 0,.j,.j,.j,.b,.b] [.sq (cs [I])])⟩,⟨.nor,(Zsg [0,1,2,3,8,9] [.ref 0,.j,.j,.j,.b,.b] [.sq (cs [I])])⟩],Ygm lo rec⟩
def Ylw(lo:Lo)(rec:Int×Int×Int× (List Int)->Option ((List Int))):LL:=(YtK lo rec,q49_J30_b.er)::Ylv lo rec
theorem YtL(lo:Lo)(rec:Int×Int×Int× (List Int)->Option ((List Int))):Lk lo pf (Yc3 rec::fs49 lo) 1 (Ylw lo rec):=.j (YtJ lo rec)
def q49_L1_b:VCode:=
 (.blk 1 (Rg [oM 19 2,oM 20 1,oR 21 .sub 19 20,oM 10 21]
 (.seq (Rg [oM 22 10,oR 23 .leq 22 (k 12)]
 (.cond 23 (Rg [oM 24 0,oM 25 1,oM 26 2,oC 27 378 [24,25,26]]
 .ret)
 .skip))
 (.seq (Rg [oM 28 3,oR 29 .eql 28 (k 0)]
 (.cond 29 (Rg [oM 30 0,oM 31 1,oM 32 2,oC 33 379 [30,31,32]]
 .ret)
 .skip))
 (.seq (Rg [oM 34 8,oX 35 34]
 (.cond 35 (Rg [oM 36 0,oM 37 1,oM 38 2,oC 39 380 [36,37,38]]
 (.reg [oM 40 3,oR 41 .sub 40 (k 1),oM 3 41]))
 .skip))
 (.jn 30 q49_J30_b))))))
def Ylx(lo:Lo)(rec:Int×Int×Int× (List Int)->Option ((List Int))):Zp16->Option (Zp16⊕ (((List Int)))):=fun x=>match x with
  | (a1,b2,limit3,wasBalanced8,wasPartitioned9,data0)=>bif(decide ((Yzs .i64 (b2-a1))<=(12:Int)))then(Yy7 (q41 lo a1 b2 data0) fun y122=>chk (y122.length=data0.length) (some (.inr y122)))else(bif(decide (limit3=0))then(Yy7 (q42 lo a1 b2 data0) fun y123=>chk (y123.length=data0.length) (some (.inr y123)))else(bif(!wasBalanced8)then(Yy7 (q43 lo a1 b2 data0) fun y124=>chk (y124.length=data0.length) (Yy7 (Ygm lo rec (a1,b2,(Yzs .i64 (limit3-1)),wasBalanced8,wasPartitioned9,(Yzs .i64 (b2-a1)),y124)) fun y158=>alt2 y158 (fun y159=>some (.inr y159)) (fun y160=>alt2 y160 (fun y161=>some (.inl (y161.1,y161.2.1,y161.2.2.1,y161.2.2.2.1,y161.2.2.2.2.1,y161.2.2.2.2.2))) (fun y162=>some (.inl (y162.1,y162.2.1,y162.2.2.1,y162.2.2.2.1,y162.2.2.2.2.1,y162.2.2.2.2.2))))))else(Yy7 (Ygm lo rec (a1,b2,limit3,wasBalanced8,wasPartitioned9,(Yzs .i64 (b2-a1)),data0)) fun y163=>alt2 y163 (fun y164=>some (.inr y164)) (fun y165=>alt2 y165 (fun y166=>some (.inl (y166.1,y166.2.1,y166.2.2.1,y166.2.2.2.1,y166.2.2.2.2.1,y166.2.2.2.2.2))) (fun y167=>some (.inl (y167.1,y167.2.1,y167.2.2.1,y167.2.2.2.1,y167.2.2.2.2.1,y167.2.2.2.2.2)))))))
def Yly(lo:Lo)(rec:Int×Int×Int× (List Int)->Option ((List Int))):Zp16->Option (((List Int))):=lo.run (Ylx lo rec)
def YtM(lo:Lo)(rec:Int×Int×Int× (List Int)->Option ((List Int))):LpE:=⟨1,[],(Zsg [0,1,2,3,8,9] [.ref 0,.j,.j,.j,.b,.b] [.sq (cs [I])]),[⟨.ret,(Zsg [] [] [.sq (cs [I])])⟩],Yly lo rec⟩
def Ylz(lo:Lo)(rec:Int×Int×Int× (List Int)->Option ((List Int))):LL:=(YtM lo rec,.loop q49_L1_b.er)::Ylw lo rec
theorem YtN(lo:Lo)(rec:Int×Int×Int× (List Int)->Option ((List Int))):Lk lo pf (Yc3 rec::fs49 lo) 1 (Ylz lo rec):=.l (YtL lo rec) (Ylx lo rec)
def YtO(lo:Lo)(rec:Int×Int×Int× (List Int)->Option ((List Int)))(a1:Int)(b2:Int)(limit3:Int)(data0:List Int):Option ((List Int)):=
  Yy7 (Yly lo rec (a1,b2,limit3,true,true,data0)) fun y168=>some y168
def Ygn(lo:Lo):Nat->Int×Int×Int× (List Int)->Option ((List Int))
  |0,_=>none
  |n+1,x=>YtO lo (Ygn lo n) x.1 x.2.1 x.2.2.1 x.2.2.2
def q49(lo:Lo)(a1:Int)(b2:Int)(limit3:Int)(data0:List Int):Option ((List Int)):=lo.run (fixS (Ygn lo)) (0,(a1,b2,limit3,data0))
def YtP:VFn:=⟨true,134,[],
 (Rg [oB 8 true]
 (Rg [oB 9 true]
 (.blk 0 (.loop 1 q49_L1_b))))⟩
def YlA(lo:Lo):FnE:=Yc3 (fun x=>q49 lo x.1 x.2.1 x.2.2.1 x.2.2.2)
noncomputable def fs50(lo:Lo):List FnE:=YlA lo::fs49 lo
theorem YtQ(h:GZ P fm fs49 lo)(t:Ti P fm 375 YtP):GZ P fm fs50 lo:=
  h.ir (YlA lo) (Ygn lo) (ls:=fun rec=>Ylz lo rec) (fun rec=>(YtN lo rec)) t (by kernel_rfl) (fun _=>rfl) rfl (fun _=>by kernel_rfl) fun n x=>by kernel_rfl
def q50(lo:Lo)(x0:List Int):Option ((List Int)):=
  Yy7 (q23 lo (Yzs .u64 (x0.length:Int))) fun y118=>Yy7 (q49 lo (0:Int) (x0.length:Int) y118 x0) fun y169=>chk (y169.length=x0.length) (some y169)
def YtR:VFn:=⟨true,11,[],
 (Rg [oM 3 0,oN 4 3,oM 2 4]
 (.reg [oM 5 0,oM 6 2,oM 7 2,o 8 (.conv .u64 7),oC 9 163 [8],oC 10 375 [5,(k 0),6,9]]))⟩
def YlB(lo:Lo):FnE:=Zfe 367 false (Zsg [0] [.ref 0] [.sq (cs [I])]) (.tp []) [.sq (cs [I])] (fun x=>q50 lo x:(List Int)->Option ((List Int)))
noncomputable def fs51(lo:Lo):List FnE:=YlB lo::fs50 lo
theorem YtS(h:GZ P fm fs50 lo)(t:Ti P fm 367 YtR):GZ P fm fs51 lo:=
  h.i (YlB lo) .n t
def q51(lo:Lo)(l:List Int):Option (List Int):=YxH (q50 lo) l
def YtT(lo:Lo):FnE:=vsortE 367 (.cons (.i .i64) .nil) (q51 lo)
noncomputable def fs52(lo:Lo):List FnE:=YtT lo::fs51 lo
theorem YtU(h:GZ P fm fs51 lo)(hG: ∀f,fm f=367->Yu3 P f=true/\ ∃ρ:Go.Shelf.Ren,Go.Proofs.SlLaysN.n53 P ρ/\ρ.f 53=f):GZ P fm fs52 lo:=
  ⟨h.1,h.2,Yrs h.S rfl (F0:=q50 lo) (YyA ..) hG⟩
def q52_L7_b:VCode:=
 (Rg [oR 35 .lss 34 33]
 (.seq (Ce 35 2)
 (.seq (.blk 3 (Rg [oM 36 34,oI 37 3 32 34,oT 38 3 37,o 12 (.alloc [.i .i64 0,.i .i64 0,.s (⟨#[]⟩)]),oM 11 36,oS 3 12 38]
 (Rg [oT 39 3 12,oF 40 1 4,oL 41 40,oM 42 11,oI 43 3 41 42,oT 44 3 43,o 45 (.eqa true [1,1,2] 39 44)]
 (.cond 45 (.reg [oM 46 10,oM 47 11,oR 48 .shl (ki .u32 1) 47,oR 49 .or 46 48,oM 10 49])
 .skip))))
 (.reg [oR 50 .add 34 (k 1),oM 34 50]))))
def Yes(lo:Lo):Zp8->Option (Zp8⊕ ((Int×Int×Int×Int×Int×Int×Zt0×Bool×Bool×Int×Zt1×Int×Zt3× (List Int)×Int×Int× (List Int)×Bool))):=fun x=>match x with
  | (rhs2,id8,differ10,v32,v33,v34,x0_0,x0_1,h1_0,h1_1,h1_2,h1_3,h2_0,h2_1,r4_0,r4_1,out7,h5_0,h5_1,h5_2,h5_3)=>bif(decide (v34<v33))then(chk (0<=v34/\v34< (v32.length:Int)) (chk (0<=v34/\v34< (r4_1.length:Int)) (bif(!((decide ((v32.getD v34.toNat Zd1).1=(r4_1.getD v34.toNat Zd1).1))&& ((decide ((v32.getD v34.toNat Zd1).2.1=(r4_1.getD v34.toNat Zd1).2.1))&& ((decide ((v32.getD v34.toNat Zd1).2.2=(r4_1.getD v34.toNat Zd1).2.2))&&true))))then(chk (0<=v34) (some (.inl (rhs2,id8,(bits .or .u32 differ10 (Yzs .u32 ((1:Int)*2^(min v34.toNat (IntKind.bits .u32))))),v32,v33,(Yzs .i64 (v34+1)),x0_0,x0_1,h1_0,h1_1,h1_2,h1_3,h2_0,h2_1,r4_0,r4_1,out7,h5_0,h5_1,h5_2,h5_3))))else(some (.inl (rhs2,id8,differ10,v32,v33,(Yzs .i64 (v34+1)),x0_0,x0_1,h1_0,h1_1,h1_2,h1_3,h2_0,h2_1,r4_0,r4_1,out7,h5_0,h5_1,h5_2,h5_3))))))else(some (.inr (rhs2,id8,differ10,x0_0,x0_1,h1_0,h1_1,h1_2,h1_3,h2_0,h2_1,r4_0,r4_1,out7,h5_0,h5_1,h5_2,h5_3)))
def Ygo(lo:Lo):Zp8->Option ((Int×Int×Int×Int×Int×Int×Zt0×Bool×Bool×Int×Zt1×Int×Zt3× (List Int)×Int×Int× (List Int)×Bool)):=lo.run (Yes lo)
def YtV(lo:Lo):LpE:=⟨7,[],(Zsg [0,2,4,7,8,10,25,32,33,34] [.ptr 0 0 0,.i .u32,.ptr 3 0 0,.ref 4,.j,.i .u32,.np 5,.l Zc5,.j,.j] [.st [.j,.i .u32,.np 1,.np 2],.st [.j,.l Zc4,.b,.b],.fp none (cs [I]),.st [.j,.l Zc5],.sq (cs [I]),.st [.np 1,.j,.j,.l (cs [I]),.b]]),[⟨.exit 2,(Zsg [0,2,4,7,8,10,25] [.ptr 0 0 0,.i .u32,.ptr 3 0 0,.ref 4,.j,.i .u32,.np 5] [.st [.j,.i .u32,.np 1,.np 2],.st [.j,.l Zc4,.b,.b],.fp none (cs [I]),.st [.j,.l Zc5],.sq (cs [I]),.st [.np 1,.j,.j,.l (cs [I]),.b]])⟩],Ygo lo⟩
def YlC(lo:Lo):LL:=(YtV lo,.loop q52_L7_b.er)::[]
theorem YtW(lo:Lo):Lk lo pf (fs52 lo) 3 (YlC lo):=.l .n (Yes lo)
def YlD:VCode:=
 (.reg [oM 21 0,o 22 (.nilc 21),oF 23 2 22,oL 24 23,o 25 (.mrng 24)])
def YlE:VCode:=
 (.blk 1 (Rg [o 28 (.ment (some .i64) I (cs [.l Zc5]) true 25),oE 29 28 0,oE 30 28 1,o 9 (.alloc [.i .i64 0,.e Zc5]),oM 8 29,oS 2 9 30]
 (Rg [o 10 (.mv (ki .u32 0))]
 (.seq (Rg [oF 31 1 9,oL 32 31,oN 33 32,oK 34 0]
 (.blk 2 (.loop 7 q52_L7_b)))
 (Rg [oM 51 8,oF 52 0 4,oL 53 52,oR 54 .neq 51 53,oM 55 54,gT 56 55 (.mv 10),gT 57 55 (.mv 0),gT 58 55 (.nilc 57),gT 59 55 (.fad 1 58),gT 60 55 (.load false 1 59),gT 61 55 (.bin .and 56 60),gT 62 55 (.bin .eql 61 (ki .u32 0)),oP 63 55 62 (kb false),oM 64 63,gT 65 64 (.mv 10),gT 66 64 (.mv 2),gT 67 64 (.bin .and 65 66),gT 68 64 (.bin .neq 67 (ki .u32 0)),oP 69 64 68 (kb false)]
 (.cond 69 (.reg [oM 70 7,oM 71 8,o 72 (.bsl (cs [I]) 1 [(0,71)]),o 73 (.app (cs [I]) 0 70 72),oM 7 73])
 .skip))))))
def YlF:VCode:=
 (Rg [oM 74 7,oC 75 367 [74]]
 (Rg [oM 76 7,oM 6 76]
 (Fr 6)))
def q52_J20_b:VCode:=.seq (.seq YlD (.blk 0 (.loop 4 (Rg [o 26 (.mnxt 25),oE 27 26 0] (Ywr 27 0 YlE))))) YlF
def YtX:Sg:=(Zsg [0,2,4,7,25] [.ptr 0 0 0,.i .u32,.ptr 3 0 0,.ref 4,.np 5] [.st [.j,.i .u32,.np 1,.np 2],.st [.j,.l Zc4,.b,.b],.fp none (cs [I]),.st [.j,.l Zc5],.sq (cs [I]),.st [.np 1,.j,.j,.l (cs [I]),.b]])
def YlG(lo:Lo):Zp11->Option (Int×Int×Int×Int×Zt0×Bool×Bool×Int×Zt1×Int×Zt3× (List Int)×Int×Int× (List Int)×Bool):=fun x=>match x with
  | (rhs2,x0_0,x0_1,h1_0,h1_1,h1_2,h1_3,h2_0,h2_1,r4_0,r4_1,out7)=>some (rhs2,x0_0,x0_1,h1_0,h1_1,h1_2,h1_3,h2_0,h2_1,r4_0,r4_1,out7,h1_0,h1_0,([]:List Int),false)
def Yet:Zp9->ItP:=fun x=>match x with
  | (rhs2,x0_0,x0_1,h1_0,h1_1,h1_2,h1_3,h2_0,h2_1,r4_0,r4_1,out7,v25_0,v25_1,v25_2,v25_3)=>(h1_1.map (fun e=>e.1),v25_2,h1_0,v25_0,v25_1)
def Yc5(lo:Lo):Zp9->Int->Option (Int×Int×Int×Int×Zt0×Bool×Bool×Int×Zt1×Int×Zt3× (List Int)×Int×Int× (List Int)×Bool):=fun x b=>match x with
  | (rhs2,x0_0,x0_1,h1_0,h1_1,h1_2,h1_3,h2_0,h2_1,r4_0,r4_1,out7,v25_0,v25_1,v25_2,v25_3)=>chk (v25_1=h1_0) (Yy7 (addI v25_2 b).getLast? fun y173=>Yy7 (mbf y173 h1_1) fun y174=>Yy7 (Ygo lo (rhs2,y174.1,(0:Int),y174.2.2,(y174.2.2.length:Int),(0:Int),x0_0,x0_1,h1_0,h1_1,h1_2,h1_3,h2_0,h2_1,r4_0,r4_1,out7,v25_0,v25_1,(addI v25_2 b),v25_3)) fun y175=>bif(!decide (y175.2.1=y175.2.2.2.2.2.2.2.2.2.2.2.1))then(bif(decide ((bits .and .u32 y175.2.2.1 y175.2.2.2.2.1)=(0:Int)))then(bif(!decide ((bits .and .u32 y175.2.2.1 y175.1)=(0:Int)))then(chk (y175.2.2.2.2.2.2.2.2.2.2.2.2.2.1.length+[y175.2.1].length<=maxEl) (some (y175.1,y175.2.2.2.1,y175.2.2.2.2.1,y175.2.2.2.2.2.1,y175.2.2.2.2.2.2.1,y175.2.2.2.2.2.2.2.1,y175.2.2.2.2.2.2.2.2.1,y175.2.2.2.2.2.2.2.2.2.1,y175.2.2.2.2.2.2.2.2.2.2.1,y175.2.2.2.2.2.2.2.2.2.2.2.1,y175.2.2.2.2.2.2.2.2.2.2.2.2.1,(y175.2.2.2.2.2.2.2.2.2.2.2.2.2.1++[y175.2.1]),y175.2.2.2.2.2.2.2.2.2.2.2.2.2.2.1,y175.2.2.2.2.2.2.2.2.2.2.2.2.2.2.2.1,y175.2.2.2.2.2.2.2.2.2.2.2.2.2.2.2.2.1,y175.2.2.2.2.2.2.2.2.2.2.2.2.2.2.2.2.2)))else(some (y175.1,y175.2.2.2.1,y175.2.2.2.2.1,y175.2.2.2.2.2.1,y175.2.2.2.2.2.2.1,y175.2.2.2.2.2.2.2.1,y175.2.2.2.2.2.2.2.2.1,y175.2.2.2.2.2.2.2.2.2.1,y175.2.2.2.2.2.2.2.2.2.2.1,y175.2.2.2.2.2.2.2.2.2.2.2.1,y175.2.2.2.2.2.2.2.2.2.2.2.2.1,y175.2.2.2.2.2.2.2.2.2.2.2.2.2.1,y175.2.2.2.2.2.2.2.2.2.2.2.2.2.2.1,y175.2.2.2.2.2.2.2.2.2.2.2.2.2.2.2.1,y175.2.2.2.2.2.2.2.2.2.2.2.2.2.2.2.2.1,y175.2.2.2.2.2.2.2.2.2.2.2.2.2.2.2.2.2)))else(some (y175.1,y175.2.2.2.1,y175.2.2.2.2.1,y175.2.2.2.2.2.1,y175.2.2.2.2.2.2.1,y175.2.2.2.2.2.2.2.1,y175.2.2.2.2.2.2.2.2.1,y175.2.2.2.2.2.2.2.2.2.1,y175.2.2.2.2.2.2.2.2.2.2.1,y175.2.2.2.2.2.2.2.2.2.2.2.1,y175.2.2.2.2.2.2.2.2.2.2.2.2.1,y175.2.2.2.2.2.2.2.2.2.2.2.2.2.1,y175.2.2.2.2.2.2.2.2.2.2.2.2.2.2.1,y175.2.2.2.2.2.2.2.2.2.2.2.2.2.2.2.1,y175.2.2.2.2.2.2.2.2.2.2.2.2.2.2.2.2.1,y175.2.2.2.2.2.2.2.2.2.2.2.2.2.2.2.2.2)))else(some (y175.1,y175.2.2.2.1,y175.2.2.2.2.1,y175.2.2.2.2.2.1,y175.2.2.2.2.2.2.1,y175.2.2.2.2.2.2.2.1,y175.2.2.2.2.2.2.2.2.1,y175.2.2.2.2.2.2.2.2.2.1,y175.2.2.2.2.2.2.2.2.2.2.1,y175.2.2.2.2.2.2.2.2.2.2.2.1,y175.2.2.2.2.2.2.2.2.2.2.2.2.1,y175.2.2.2.2.2.2.2.2.2.2.2.2.2.1,y175.2.2.2.2.2.2.2.2.2.2.2.2.2.2.1,y175.2.2.2.2.2.2.2.2.2.2.2.2.2.2.2.1,y175.2.2.2.2.2.2.2.2.2.2.2.2.2.2.2.2.1,y175.2.2.2.2.2.2.2.2.2.2.2.2.2.2.2.2.2)))
def Yc6(lo:Lo):Zp9->Option (((List Int)×Int×Int×Int×Zt0×Bool×Bool×Int×Zt1)):=fun x=>match x with
  | (rhs2,x0_0,x0_1,h1_0,h1_1,h1_2,h1_3,h2_0,h2_1,r4_0,r4_1,out7,v25_0,v25_1,v25_2,v25_3)=>Yy7 (q51 lo out7) fun y176=>chk (y176.length=out7.length) (some (y176,x0_0,x0_1,h1_0,h1_1,h1_2,h1_3,h2_0,h2_1))
noncomputable def Ygp(lo:Lo):Zp11->Option (((List Int)×Int×Int×Int×Zt0×Bool×Bool×Int×Zt1)):=fun x=>Yy7 (YlG lo x) (rngF Yet (Yc5 lo) (Yc6 lo))
noncomputable def Yeu(lo:Lo):LpE:=⟨20,[(7,none,false)],(Zsg [0,2,4,7] [.ptr 0 0 0,.i .u32,.ptr 3 0 0,.ref 4] [.st [.j,.i .u32,.np 1,.np 2],.st [.j,.l Zc4,.b,.b],.fp none (cs [I]),.st [.j,.l Zc5],.sq (cs [I])]),[⟨.ret,(Zsg [6,0] [.l (cs [I]),.ptr 0 0 0] [.st [.j,.i .u32,.np 1,.np 2],.st [.j,.l Zc4,.b,.b],.fp none (cs [I])])⟩],Ygp lo⟩
noncomputable def YtY(lo:Lo):LL:=(Yeu lo,q52_J20_b.er)::YlC lo
theorem YtZ(lo:Lo):Lk lo pf (fs52 lo) 3 (YtY lo):=
  .m (YtW lo) (it:=25) (nx:=26) (mo:=27) (out:=0) (own:=(Yeu lo).own) (g0:=(Yeu lo).g) (outs:=(Yeu lo).outs) (g:=YtX) (pre:=YlD) (bb:=YlE) (rest:=YlF) (p:=Yet) (t:=Yc5 lo) (r:=Yc6 lo) (u:=YlG lo) (by kernel_rfl) (fun x=>by kernel_rfl) (fun x b=>by kernel_rfl) (fun x=>by kernel_rfl) (fun x=>by kernel_rfl) rfl
noncomputable def q52(lo:Lo)(r1_0:Int)(r1_1:List (Int×Int×ByteArray))(rhs2:Int)(x0_0:Int)(x0_1:Int)(h1_0:Int)(h1_1:List (Int×Int×Int×Zt3))(h1_2:Bool)(h1_3:Bool)(h2_0:Int)(h2_1:List (Int×ByteArray× (List Int))):Option ((List Int)×Int×Int×Int×Zt0×Bool×Bool×Int×Zt1):=
  bif(!decide ((r1_1.length:Int)=x0_0))then(some (([]:List Int),x0_0,x0_1,h1_0,h1_1,h1_2,h1_3,h2_0,h2_1))else(Yy7 (Ygp lo (rhs2,x0_0,x0_1,h1_0,h1_1,h1_2,h1_3,h2_0,h2_1,r1_0,r1_1,[])) fun y177=>some (y177.1,y177.2.1,y177.2.2.1,y177.2.2.2.1,y177.2.2.2.2.1,y177.2.2.2.2.2.1,y177.2.2.2.2.2.2.1,y177.2.2.2.2.2.2.2.1,y177.2.2.2.2.2.2.2.2))
def Yt0:VFn:=⟨true,77,[.t 6],
 (Rg [oG 4 1,o 6 (.mv (ke (cs [I])))]
 (.seq (Rg [oF 13 1 4,oL 14 13,oN 15 14,oM 16 0,o 17 (.nilc 16),oF 18 0 17,oL 19 18,oR 20 .neq 15 19]
 (.cond 20 (Rg [o 6 (.mv (ke (cs [I])))]
 (Fr 6))
 .skip))
 (Rg [o 7 (.mv (ke (cs [I])))]
 (.jn 20 q52_J20_b))))⟩
noncomputable def YlH(lo:Lo):FnE:=Zfe 347 false (Zsg [0,1,2] [.ptr 0 0 0,.ag [.j,.l Zc5],.i .u32] [.st [.j,.i .u32,.np 1,.np 2],.st [.j,.l Zc4,.b,.b],.fp none (cs [I])]) (.l (cs [I])) [.st [.j,.i .u32,.np 1,.np 2],.st [.j,.l Zc4,.b,.b],.fp none (cs [I])] (fun x=>q52 lo x.1 x.2.1 x.2.2.1 x.2.2.2.1 x.2.2.2.2.1 x.2.2.2.2.2.1 x.2.2.2.2.2.2.1 x.2.2.2.2.2.2.2.1 x.2.2.2.2.2.2.2.2.1 x.2.2.2.2.2.2.2.2.2.1 x.2.2.2.2.2.2.2.2.2.2:Int×Zt3×Int×Int×Int×Int×Zt0×Bool×Bool×Int×Zt1->Option ((List Int)×Int×Int×Int×Zt0×Bool×Bool×Int×Zt1))
noncomputable def fs53(lo:Lo):List FnE:=YlH lo::fs52 lo
theorem Yt1(h:GZ P fm fs52 lo)(t:Ti P fm 347 Yt0):GZ P fm fs53 lo:=
  h.i (YlH lo) (YtZ lo) t
def q53(lo:Lo)(l:List Int)(n:Int):Option (Int×List Int):=delF (l,n)
def Yt2(lo:Lo):FnE:=delE 365 366
noncomputable def fs54(lo:Lo):List FnE:=Yt2 lo::fs53 lo
theorem Yt3(h:GZ P fm fs53 lo)(hG: ∀f,fm f=365->Yu3 P f=true/\ ∃ρ:Go.Shelf.Ren,Go.Proofs.SlLaysH.n10 P ρ/\ (∀w,(zeroValue (ρ.t 23)).run P w= .ok (.int .i64 0) w)/\ (∀f,fm f=366->EqClo P f)/\ρ.f 10=f):GZ P fm fs54 lo:=
  ⟨h.1,h.2,Yrq h.S 366 rfl hG⟩
def q54(lo:Lo)(id1:Int)(x0_0:Int)(x0_1:Int)(h1_0:Int)(h1_1:List (Int×Int×Int×Zt3))(h1_2:Bool)(h1_3:Bool)(h2_0:Int)(h2_1:List (Int×ByteArray× (List Int))):Option Zp14:=
  bif(!(mhs eqI id1 h1_1))then(some ((4:Int),x0_0,x0_1,h1_0,h1_1,h1_2,h1_3,h2_0,h2_1))else(Yy7 (q8 lo ((mgt eqI id1 h1_1 ((0:Int),[])).1) ((mgt eqI id1 h1_1 ((0:Int),[])).2) x0_0 x0_1 h1_0 (mdl eqI id1 h1_1) h1_2 h1_3 h2_0 h2_1) fun y180=>Yy7 (q14 lo y180.2.2.2.2.2.2.2.2) fun y181=>bif YyW (mix eqS y181 y180.2.2.2.2.2.2.2.1) y180.2.2.2.2.2.2.2.1.length then(Yy7 (q53 lo ((y180.2.2.2.2.2.2.2.1.getD (mix eqS y181 y180.2.2.2.2.2.2.2.1) ((0:Int),(Yzr #[]),[])).2.2) id1) fun y182=>chk ((y182.2.length:Int)=(y182.2.length:Int)) (chk (mix eqS y181 y180.2.2.2.2.2.2.2.1=(mix eqS y181 y180.2.2.2.2.2.2.2.1)) (bif(decide ((y182.2.length:Int)=0))then(some ((0:Int),y180.1,y180.2.1,y180.2.2.1,y180.2.2.2.1,y180.2.2.2.2.1,y180.2.2.2.2.2.1,(mck eqS y180.2.2.2.2.2.2.1 y181 y180.2.2.2.2.2.2.2.1),(mdl eqS y181 (mpt eqS y180.2.2.2.2.2.2.1 y181 y182.2 y180.2.2.2.2.2.2.2.1))))else(some ((0:Int),y180.1,y180.2.1,y180.2.2.1,y180.2.2.2.1,y180.2.2.2.2.1,y180.2.2.2.2.2.1,(mck eqS y180.2.2.2.2.2.2.1 y181 y180.2.2.2.2.2.2.2.1),(mpt eqS y180.2.2.2.2.2.2.1 y181 y182.2 y180.2.2.2.2.2.2.2.1))))))else(none))
def Yt4:VFn:=⟨true,51,[.t 4],
 (Rg [oG 3 1,oK 4 0]
 (Rg [oM 10 0,o 11 (.nilc 10),oF 12 2 11,⟨some 13,.load false 1 12,none,true,false⟩,⟨some 14,.load false 1 3,none,true,false⟩,⟨some 15,.mget (some .i64) I (cs [.l Zc5]) true true 13 14,none,true,false⟩,oM 9 15,oE 16 9 0,oE 17 9 1,o 5 (.alloc [.i .i64 0,.e Zc5]),oS 2 5 16,oM 6 17]
 (.seq (Rg [oM 18 6,oX 19 18]
 (.cond 19 (Rg [oK 4 4]
 .ret)
 .skip))
 (Rg [oM 20 0,o 21 (.nilc 20),oF 22 2 21,oL 23 22,oL 24 3,on (.mdel (some .i64) I (cs [.l Zc5]) 23 24)]
 (Rg [oM 25 0,oT 26 2 5,oC 27 362 [25,26],oC 28 361 [27],oM 7 28]
 (Rg [oM 29 0,o 30 (.nilc 29),oF 31 3 30,oL 32 31,oM 33 7,o 34 (.mget none (.l (cs [I])) (cs []) false false 32 33),o 35 (.mkf 366 [3]),o 36 (.callF 365 [34,35]),o 8 (.mvp 36)]
 (Rg [oM 37 0,o 38 (.nilc 37),oF 39 3 38,oL 40 39,oM 41 7,oM 42 8,on (.mput none (.l (cs [I])) (cs []) false 40 41 42)]
 (.seq (Rg [oM 43 8,oN 44 43,oR 45 .eql 44 (k 0)]
 (.cond 45 (.reg [oM 46 0,o 47 (.nilc 46),oF 48 3 47,oL 49 48,oM 50 7,on (.mdel none (.l (cs [I])) (cs []) 49 50)])
 .skip))
 (Rg [oK 4 0]
 .ret)))))))))⟩
def YlI(lo:Lo):FnE:=Zfe 345 false (Zsg [0,1] [.ptr 0 0 0,.j] [.st [.j,.i .u32,.np 1,.np 2],.st [.j,.l Zc4,.b,.b],.fp none (cs [I])]) (.i .i64) [.st [.j,.i .u32,.np 1,.np 2],.st [.j,.l Zc4,.b,.b],.fp none (cs [I])] (fun x=>q54 lo x.1 x.2.1 x.2.2.1 x.2.2.2.1 x.2.2.2.2.1 x.2.2.2.2.2.1 x.2.2.2.2.2.2.1 x.2.2.2.2.2.2.2.1 x.2.2.2.2.2.2.2.2:Zp14->Option Zp14)
noncomputable def fs55(lo:Lo):List FnE:=YlI lo::fs54 lo
theorem Yt5(h:GZ P fm fs54 lo)(t:Ti P fm 345 Yt4):GZ P fm fs55 lo:=
  h.i (YlI lo) .n t
def q55(lo:Lo)(x0_0:Int)(x0_1:Int)(h1_0:Int)(h1_1:List (Int×Int×Int×Zt3))(h1_2:Bool)(h1_3:Bool)(h2_0:Int)(h2_1:List (Int×ByteArray× (List Int))):Option Zp14:=
  some ((h1_1.length:Int),x0_0,x0_1,h1_0,h1_1,h1_2,h1_3,h2_0,h2_1)
def Yt6:VFn:=⟨true,8,[.t 2],
 (Rg [oK 2 0]
 (Rg [oM 3 0,o 4 (.nilc 3),oF 5 2 4,oL 6 5,o 7 (.mlen 6),oM 2 7]
 .ret))⟩
def YlJ(lo:Lo):FnE:=Zfe 339 false (Zsg [0] [.ptr 0 0 0] [.st [.j,.i .u32,.np 1,.np 2],.st [.j,.l Zc4,.b,.b],.fp none (cs [I])]) (.i .i64) [.st [.j,.i .u32,.np 1,.np 2],.st [.j,.l Zc4,.b,.b],.fp none (cs [I])] (fun x=>q55 lo x.1 x.2.1 x.2.2.1 x.2.2.2.1 x.2.2.2.2.1 x.2.2.2.2.2.1 x.2.2.2.2.2.2.1 x.2.2.2.2.2.2.2:Int×Int×Int×Zt0×Bool×Bool×Int×Zt1->Option Zp14)
noncomputable def fs56(lo:Lo):List FnE:=YlJ lo::fs55 lo
theorem Yt7(h:GZ P fm fs55 lo)(t:Ti P fm 339 Yt6):GZ P fm fs56 lo:=
  h.i (YlJ lo) .n t
noncomputable def q56(lo:Lo):Option Bool:=
  altO (q1 lo (2:Int) (1:Int)) (fun y0=>bif(!decide (y0.1=(0:Int)))then(some false)else(Yy7 (q2 lo (1:Int) (5:Int) (Yzr #[120])) fun y1=>Yy7 (q21 lo y1.1 y1.2 y0.2.1 y0.2.2.1 y0.2.2.2.1 y0.2.2.2.2.1 y0.2.2.2.2.2.1 y0.2.2.2.2.2.2.1 y0.2.2.2.2.2.2.2.1 y0.2.2.2.2.2.2.2.2) fun y33=>bif(!decide (y33.1=(0:Int)))then(some false)else(Yy7 (q2 lo (2:Int) (7:Int) (Yzr #[121])) fun y34=>Yy7 (q21 lo y34.1 y34.2 y33.2.1 y33.2.2.1 y33.2.2.2.1 y33.2.2.2.2.1 y33.2.2.2.2.2.1 y33.2.2.2.2.2.2.1 y33.2.2.2.2.2.2.2.1 y33.2.2.2.2.2.2.2.2) fun y35=>bif(!decide (y35.1=(0:Int)))then(some false)else(Yy7 (q2 lo (3:Int) (5:Int) (Yzr #[122])) fun y36=>Yy7 (q21 lo y36.1 y36.2 y35.2.1 y35.2.2.1 y35.2.2.2.1 y35.2.2.2.2.1 y35.2.2.2.2.2.1 y35.2.2.2.2.2.2.1 y35.2.2.2.2.2.2.2.1 y35.2.2.2.2.2.2.2.2) fun y37=>bif(!decide (y37.1=(0:Int)))then(some false)else(Yy7 (q38 lo y37.2.1 y37.2.2.1 y37.2.2.2.1 y37.2.2.2.2.1 y37.2.2.2.2.2.1 y37.2.2.2.2.2.2.1 y37.2.2.2.2.2.2.2.1 y37.2.2.2.2.2.2.2.2) fun y104=>Yy7 (q40 lo y104.2.2.2.2.2.2.2.2 ([[(1:Int),(3:Int)],[(2:Int)]])) fun y112=>bif y112 then(Yy7 (q2 lo (9:Int) (5:Int) (Yzr #[120])) fun y113=>Yy7 (q52 lo y113.1 y113.2 (2:Int) y104.1 y104.2.1 y104.2.2.1 y104.2.2.2.1 y104.2.2.2.2.1 y104.2.2.2.2.2.1 y104.2.2.2.2.2.2.1 y104.2.2.2.2.2.2.2.1) fun y178=>Yy7 (q39 lo y178.1 ([(3:Int)])) fun y179=>bif y179 then(Yy7 (q54 lo (1:Int) y178.2.1 y178.2.2.1 y178.2.2.2.1 y178.2.2.2.2.1 y178.2.2.2.2.2.1 y178.2.2.2.2.2.2.1 y178.2.2.2.2.2.2.2.1 y178.2.2.2.2.2.2.2.2) fun y183=>bif(decide (y183.1=(0:Int)))then(Yy7 (q38 lo y183.2.1 y183.2.2.1 y183.2.2.2.1 y183.2.2.2.2.1 y183.2.2.2.2.2.1 y183.2.2.2.2.2.2.1 y183.2.2.2.2.2.2.2.1 y183.2.2.2.2.2.2.2.2) fun y184=>Yy7 (q40 lo y184.2.2.2.2.2.2.2.2 ([[(3:Int)],[(2:Int)]])) fun y185=>bif y185 then(Yy7 (q55 lo y184.1 y184.2.1 y184.2.2.1 y184.2.2.2.1 y184.2.2.2.2.1 y184.2.2.2.2.2.1 y184.2.2.2.2.2.2.1 y184.2.2.2.2.2.2.2.1) fun y186=>some (decide (y186.1=(2:Int))))else(some false))else(some false))else(some false))else(some false)))))) (Yy7 (q0 lo (2:Int) (1:Int)) fun y187=>bif(!decide (y187=0))then(some false)else(some false))
def Yt8:VFn:=⟨true,69,[.t 0],
 (Rg [oB 0 false]
 (Rg [o 1 (.mv (.c (.f 358)))]
 (Rg [oC 6 337 [(k 2),(ki .u32 1)],oM 5 6,oE 7 5 0,oE 8 5 1,oM 2 7,oM 3 8]
 (.seq (Rg [oM 9 3,oR 10 .neq 9 (k 0),oM 11 10,gF 12 11 (.mv 2),gF 13 11 (.isp false 12),oP 14 11 (kb true) 13,oM 15 14,gF 16 15 (.mv 2),gF 17 15 (.mv 1),gF 18 15 (.dyn 17 [(k 1),(k 5),(ks (⟨#[120]⟩))]),gF 19 15 (.call 343 [16,18]),gF 20 15 (.bin .neq 19 (k 0)),oP 21 15 (kb true) 20,oM 22 21,gF 23 22 (.mv 2),gF 24 22 (.mv 1),gF 25 22 (.dyn 24 [(k 2),(k 7),(ks (⟨#[121]⟩))]),gF 26 22 (.call 343 [23,25]),gF 27 22 (.bin .neq 26 (k 0)),oP 28 22 (kb true) 27,oM 29 28,gF 30 29 (.mv 2),gF 31 29 (.mv 1),gF 32 29 (.dyn 31 [(k 3),(k 5),(ks (⟨#[122]⟩))]),gF 33 29 (.call 343 [30,32]),gF 34 29 (.bin .neq 33 (k 0)),oP 35 29 (kb true) 34]
 (.cond 35 (Rg [oB 0 false]
 (Fr 0))
 .skip))
 (Rg [oM 36 2,oC 37 340 [36],o 38 (.bsl (cs [I]) 2 [(0,(k 1)),(1,(k 3))]),o 39 (.bsl (cs [I]) 1 [(0,(k 2))]),o 40 (.bsl Zc7 2 [(0,38),(1,39)]),oC 41 346 [37,40],oM 42 41,gT 43 42 (.mv 2),gT 44 42 (.mv 1),gT 45 42 (.dyn 44 [(k 9),(k 5),(ks (⟨#[120]⟩))]),gT 46 42 (.call 347 [43,45,(ki .u32 2)]),gT 47 42 (.bsl (cs [I]) 1 [(0,(k 3))]),gT 48 42 (.call 351 [46,47]),oP 49 42 48 (kb false),oM 4 49]
 (Rg [oM 50 4,oM 51 50,gT 52 51 (.mv 2),gT 53 51 (.call 345 [52,(k 1)]),gT 54 51 (.bin .eql 53 (k 0)),oP 55 51 54 (kb false),oM 56 55,gT 57 56 (.mv 2),gT 58 56 (.call 340 [57]),gT 59 56 (.bsl (cs [I]) 1 [(0,(k 3))]),gT 60 56 (.bsl (cs [I]) 1 [(0,(k 2))]),gT 61 56 (.bsl Zc7 2 [(0,59),(1,60)]),gT 62 56 (.call 346 [58,61]),oP 63 56 62 (kb false),oM 64 63,gT 65 64 (.mv 2),gT 66 64 (.call 339 [65]),gT 67 64 (.bin .eql 66 (k 2)),oP 68 64 67 (kb false),oM 0 68]
 (Fr 0)))))))⟩
noncomputable def YlK(lo:Lo):FnE:=Zfe 336 true (Zsg [] [] []) .b [] (fun x=>q56 lo:Unit->Option Bool)
noncomputable def fs57(lo:Lo):List FnE:=YlK lo::fs56 lo
theorem Yt9(h:GZ P fm fs56 lo)(t:Ti P fm 336 Yt8):GZ P fm fs57 lo:=
  h.p (YlK lo) .n t
def q57_L3_b:VCode:=
 (.seq (Rg [oM 5 4,oM 6 0,oR 7 .lss 5 6,oM 8 7,gT 9 8 (.mv 4),gT 10 8 (.bin .lss 9 (k 32)),oP 11 8 10 (kb false)]
 (Ce 11 0))
 (.seq (.blk 1 (.reg [oM 14 3,oM 15 4,oR 16 .shl (ki .u32 1) 15,oR 17 .or 14 16,oM 3 17]))
 (.reg [oM 12 4,oR 13 .add 12 (k 1),oM 4 13])))
def Yev(lo:Lo):Int×Int×Int->Option ((Int×Int×Int)⊕Int):=fun x=>match x with
  | (n0,s3,i4)=>bif(decide (i4<n0))then(bif(decide (i4<32))then(chk (0<=i4) (some (.inl (n0,(bits .or .u32 s3 (Yzs .u32 ((1:Int)*2^(min i4.toNat (IntKind.bits .u32))))),(Yzs .i64 (i4+1))))))else(some (.inr s3)))else(some (.inr s3))
def Ygq(lo:Lo):Int×Int×Int->Option Int:=lo.run (Yev lo)
def Yua(lo:Lo):LpE:=⟨3,[],(Zsg [0,3,4] [.j,.i .u32,.j] []),[⟨.exit 0,(Zsg [3] [.i .u32] [])⟩],Ygq lo⟩
def Yub(lo:Lo):LL:=(Yua lo,.loop q57_L3_b.er)::[]
theorem Yuc(lo:Lo):Lk lo pf (fs57 lo) 0 (Yub lo):=.l .n (Yev lo)
def q57(lo:Lo)(n0:Int):Option Int:=
  Yy7 (Ygq lo (n0,(0:Int),(0:Int))) fun y190=>some y190
def Yud:VFn:=⟨true,19,[.t 2],
 (Rg [o 2 (.mv (ki .u32 0))]
 (Rg [o 3 (.mv (ki .u32 0))]
 (.seq (Rg [oK 4 0]
 (.blk 0 (.loop 3 q57_L3_b)))
 (Rg [oM 18 3,oM 2 18]
 (Fr 2)))))⟩
def YlL(lo:Lo):FnE:=Zfe 118 true (Zsg [0] [.j] []) (.i .u32) [] (fun x=>q57 lo x:Int->Option Int)
noncomputable def fs58(lo:Lo):List FnE:=YlL lo::fs57 lo
theorem Yue(h:GZ P fm fs57 lo)(t:Ti P fm 118 Yud):GZ P fm fs58 lo:=
  h.p (YlL lo) (Yuc lo) t
end Go.Abs.G35
namespace Go.Abs.G35
open Go Go.Abs
set_option maxRecDepth 100000
set_option maxHeartbeats 1000000
variable{P:Program}{fm:FM}{lo:Lo}
def q58(lo:Lo)(n0:Int)(s1:Int):Option Int:=
  bif(decide (n0<0))then(some (7:Int))else(bif(decide (16<n0))then(some (7:Int))else(Yy7 (q57 lo n0) fun y191=>bif(!decide ((bits .andNot .u32 s1 y191)=(0:Int)))then(some (6:Int))else(some (0:Int))))
def Yuf:VFn:=⟨true,16,[.t 4],
 (Rg [oK 4 0]
 (.seq (Rg [oM 5 0,oR 6 .lss 5 (k 0),oM 7 6,gF 8 7 (.mv 0),gF 9 7 (.bin .gtr 8 (k 16)),oP 10 7 (kb true) 9]
 (.cond 10 (Rg [oK 4 7]
 (Fr 4))
 .skip))
 (.seq (Rg [oM 11 1,oM 12 0,oC 13 118 [12],oR 14 .andNot 11 13,oR 15 .neq 14 (ki .u32 0)]
 (.cond 15 (Rg [oK 4 6]
 (Fr 4))
 .skip))
 (Rg [oK 4 0]
 (Fr 4)))))⟩
def YlM(lo:Lo):FnE:=Zfe 338 true (Zsg [0,1] [.j,.i .u32] []) (.i .i64) [] (fun x=>q58 lo x.1 x.2:Int×Int->Option Int)
noncomputable def fs59(lo:Lo):List FnE:=YlM lo::fs58 lo
theorem Yug(h:GZ P fm fs58 lo)(t:Ti P fm 338 Yuf):GZ P fm fs59 lo:=
  h.p (YlM lo) .n t
noncomputable def q59(lo:Lo)(n0:Int)(s1:Int):Option Bool:=
  Yy7 (q56 lo) fun y188=>bif(!y188)then(some false)else(altO (q1 lo n0 s1) (fun y189=>Yy7 (q58 lo n0 s1) fun y192=>bif(!decide (y192=0))then(bif(decide (y189.1=y192))then(some false)else(some false))else(bif(decide (y189.1=(0:Int)))then(Yy7 (q55 lo y189.2.1 y189.2.2.1 y189.2.2.2.1 y189.2.2.2.2.1 y189.2.2.2.2.2.1 y189.2.2.2.2.2.2.1 y189.2.2.2.2.2.2.2.1 y189.2.2.2.2.2.2.2.2) fun y193=>bif(decide (y193.1=(0:Int)))then(Yy7 (q38 lo y193.2.1 y193.2.2.1 y193.2.2.2.1 y193.2.2.2.2.1 y193.2.2.2.2.2.1 y193.2.2.2.2.2.2.1 y193.2.2.2.2.2.2.2.1 y193.2.2.2.2.2.2.2.2) fun y194=>some (decide ((y194.2.2.2.2.2.2.2.2.length:Int)=0)))else(some false))else(some false))) (Yy7 (q0 lo n0 s1) fun y195=>Yy7 (q58 lo n0 s1) fun y196=>bif(!decide (y196=0))then(bif(decide (y195=y196))then(some true)else(some false))else(bif(decide (y195=0))then(some false)else(some false))))
def Yuh:VFn:=⟨true,45,[.t 4],
 (Rg [oB 4 false]
 (.seq (Rg [oC 8 336 [],oX 9 8]
 (.cond 9 (Rg [oB 4 false]
 (Fr 4))
 .skip))
 (Rg [oM 11 0,oM 12 1,oC 13 337 [11,12],oM 10 13,oE 14 10 0,oE 15 10 1,oM 5 14,oM 6 15]
 (.seq (Rg [oM 16 0,oM 17 1,oC 18 338 [16,17],oM 7 18]
 (Rg [oM 19 7,oR 20 .neq 19 (k 0)]
 (.cond 20 (Rg [oM 21 6,oM 22 7,oR 23 .eql 21 22,oM 24 23,gT 25 24 (.mv 5),gT 26 24 (.isp false 25),oP 27 24 26 (kb false),oM 4 27]
 (Fr 4))
 .skip)))
 (Rg [oM 28 6,oR 29 .eql 28 (k 0),oM 30 29,gT 31 30 (.mv 5),gT 32 30 (.isp true 31),oP 33 30 32 (kb false),oM 34 33,gT 35 34 (.mv 5),gT 36 34 (.call 339 [35]),gT 37 34 (.bin .eql 36 (k 0)),oP 38 34 37 (kb false),oM 39 38,gT 40 39 (.mv 5),gT 41 39 (.call 340 [40]),gT 42 39 (.len 41),gT 43 39 (.bin .eql 42 (k 0)),oP 44 39 43 (kb false),oM 4 44]
 (Fr 4))))))⟩
noncomputable def q59_f(lo:Lo):FnE:=Zfe 328 true (Zsg [0,1] [.j,.i .u32] []) .b [] (fun x=>q59 lo x.1 x.2:Int×Int->Option Bool)
noncomputable def fs60(lo:Lo):List FnE:=q59_f lo::fs59 lo
theorem Yui(h:GZ P fm fs59 lo)(t:Ti P fm 328 Yuh):GZ P fm fs60 lo:=
  h.p (q59_f lo) .n t
def q64(lo:Lo)(code0:Int):Option (Int×Int×ByteArray):=
  chk ((12:Int)≠0) (bif(decide ((code0.tmod (12:Int))=(0:Int)))then(some ((1:Int),(0:Int),(Yzr #[])))else(bif(decide ((code0.tmod (12:Int))=(1:Int)))then(some ((1:Int),(1:Int),(Yzr #[])))else(bif(decide ((code0.tmod (12:Int))=(2:Int)))then(some ((1:Int),(2:Int),(Yzr #[])))else(bif(decide ((code0.tmod (12:Int))=(3:Int)))then(some Zd1)else(bif(decide ((code0.tmod (12:Int))=(4:Int)))then(some ((2:Int),(0:Int),(Yzr #[97])))else(bif(decide ((code0.tmod (12:Int))=(5:Int)))then(some ((2:Int),(0:Int),(Yzr #[98])))else(bif(decide ((code0.tmod (12:Int))=(6:Int)))then(some ((2:Int),(0:Int),(Yzr #[])))else(bif(decide ((code0.tmod (12:Int))=(7:Int)))then(some ((3:Int),(1:Int),(Yzr #[])))else(bif(decide ((code0.tmod (12:Int))=(8:Int)))then(some ((1:Int),(-1:Int),(Yzr #[])))else(bif(decide ((code0.tmod (12:Int))=(9:Int)))then(some ((2:Int),(0:Int),(Yzr #[97,98])))else(bif(decide ((code0.tmod (12:Int))=(10:Int)))then(some ((3:Int),(2:Int),(Yzr #[])))else(some ((1:Int),(7:Int),(Yzr #[]))))))))))))))
end Go.Abs.G35
