/- Functions of the program as functions of data (written by program). No condition. -/
import Derived.Test.YtgjoneiojhakgaaB
set_option linter.unusedVariables false
set_option linter.unusedSimpArgs false
set_option linter.unusedSectionVars false
open List renaming mem_cons_self → Yz2
open Nat renaming beq → YAt, blt → YAu, ble → YAx
open Option renaming bind → YAF
open ByteArray renaming mk → YAY
open Go.IntKind renaming wrap → YAZ
namespace Go.Abs.G35
open Go Go.Abs
abbrev Zd1:Int×Int×ByteArray:=((0:Int),(0:Int),(YAY #[]))
abbrev _root_.Go.Abs.SV.j:SV:=.i .i64
mutual
def ZtS:SV->List Ty
 | .i k=>[.i k]
 | .b=>[.b]
 | .s=>[.s]
 | .l c=>[.l c]
 | .pre _=>[I]
 | .ag l=>ZtL l
 | .tp l=>ZtL l
 | .clo _ l=>ZtL l
 |_=>[]
def ZtL:List SV->List Ty
 | []=>[]
 |a::r=>ZtS a++ZtL r
end
def ZtO:List SO->List Ty
 | []=>[]
 | .sq c::r=>.l c::ZtO r
 | .fm A _ c::r=>.l (sn c A)::ZtO r
 | .fp o c::r=>I:: .l (mapC o (.l c) .nil)::ZtO r
 | .st l::r=>ZtL l++ZtO r
 | .sb::r=>.s::ZtO r
 | .dd::r=>ZtO r
abbrev Zsg(t:List Nat)(v:List SV)(o:List SO):Sg:=⟨t,v,o,cs (ZtL v++ZtO o)⟩
abbrev Zfe(g:Nat)(p:Bool)(a:Sg)(r:SV)(o:List SO)(F:a.c.den->Option (cs (ZtS r++ZtO o)).den):FnE:=⟨g,p,a,r,o,_,F⟩
abbrev Zt0:Type:=List (Int×Int×ByteArray)
abbrev Zt1:Type:=List (Int×ByteArray× (List Int))
abbrev Zt2:Type:=List (Int×Int×Int×Zt0)
abbrev Zc3:Cs:=cs [I,I,.s]
abbrev Zt4:Type:=List ByteArray
abbrev Zc5:Cs:=cs [I,I,I,.l Zc3]
abbrev Zt6:Type:=List (Int×Zt0)
abbrev Zc7:Cs:=cs [I,.l Zc3]
abbrev Zt8:Type:=List ((List Int))
abbrev Zc9:Cs:=cs [.l (cs [I])]
abbrev Zt10:Type:=List (Bool×Int× (List Int))
abbrev Zc11:Cs:=cs [.i .u8]
abbrev Zp12:Type:=Bool×Int×Bool×Int× (List Int)×Int×Int×Int×Int×Zt6×Int×Int×Int×Zt2×Bool×Bool×Int×Zt1×Int×Zt2×Bool×Bool×Int×Zt1
abbrev Zp13:Type:=Int×Int×Int×Zt0×Int×Int×Int×Int×Int×Zt2×Bool×Bool×Int×Zt1×Int×Zt0× (List Int)×Int×Int× (List Int)×Bool
abbrev Zp14:Type:=Int×Int×Int×Int×Int×Int×Int×Zt8×Int×Zt2×Bool×Bool×Int×Zt1×Int×Zt2×Bool×Bool×Int×Zt1
abbrev Zp15:Type:=(Int×Int×Int×Int×Zt2×Bool×Bool×Int×Zt1×Int×Zt0× (List Int)×Int×Int× (List Int)×Bool)
abbrev Zp16:Type:=(Int×Int×Int×Zt2×Bool×Bool×Int×Zt1×Zt4×Int×Int× (List Int)×Bool)
abbrev Zp17:Type:=Zt10×Int×Int×Int×Int×Int×Int×Zt6×Int×Zt2×Bool×Bool×Int×Zt1
abbrev Zp18:Type:=(Int×Int×Int×Int×Zt2×Bool×Bool×Int×Zt1×Int×Zt0× (List Int))
abbrev Zp19:Type:=Zt0×Int×Int×Int×Int×Int×Zt2×Bool×Bool×Int×Zt1×Zt0
abbrev Zp20:Type:=Int×Int×Int×Int×Int×Zt2×Bool×Bool×Int×Zt1×Zt8×Zt4
abbrev Zp21:Type:=Int×Int×Int×Int×Zt2×Bool×Bool×Int×Zt1
abbrev Zp22:Type:=Int×Int×Int×Int×ByteArray×ByteArray
abbrev Zp23:Type:=Int×Int×Int×Bool×Bool× (List Int)
abbrev Zp24:Type:=Int×Int×Int×Int×Int×Zt6×Zt6
abbrev Zp25:Type:=Int×Int×Int×Bool×Bool×Zt4
instance{n:Nat}:OfNat VOpd n:=⟨.t n⟩
abbrev Rg(l:List VI)(b:VCode):VCode:=.seq (.reg l) b
abbrev Fr(n:Nat):VCode:=.fz [n] .ret
abbrev Ce(c e:Nat):VCode:=.cond (t c) .skip (.exit e)
abbrev oM(n a:Nat):VI:=o n (.mv (t a))
abbrev oL(n a:Nat):VI:=o n (.load false 1 (t a))
abbrev oT(n s a:Nat):VI:=o n (.load true s (t a))
abbrev oF(n i a:Nat):VI:=o n (.fad i (t a))
abbrev oE(n a i:Nat):VI:=o n (.ext (t a) i)
abbrev oN(n a:Nat):VI:=o n (.len (t a))
abbrev oI(n e a i:Nat):VI:=o n (.iad e (t a) (t i))
abbrev oS(n a b:Nat):VI:=on (.store n (t a) (t b))
abbrev oP(n c:Nat)(a b:VOpd):VI:=o n (.pick (t c) a b)
abbrev oK(n:Nat)(a:Int):VI:=o n (.mv (k a))
abbrev oB(n:Nat)(a:Bool):VI:=o n (.mv (kb a))
abbrev oC(n f:Nat)(l:List VOpd):VI:=o n (.call f l)
abbrev oX(n a:Nat):VI:=o n (.not (t a))
abbrev oG(n a:Nat):VI:=o n (.box (t a))
abbrev oR(n:Nat)(p:BinOp)(a b:VOpd):VI:=o n (.bin p a b)
abbrev gT(n g:Nat)(p:VOp):VI:=og n g true p
abbrev gF(n g:Nat)(p:VOp):VI:=og n g false p
set_option maxRecDepth 100000
set_option maxHeartbeats 1000000
variable{P:Program}{fm:FM}{lo:Lo}
abbrev pf:Nat->Bool:=fun g=> !(List.any ([310,337,339,340,341,342,343,345,347,349,353,356,293,362,365,366,309,149,151,374,164,196,323,324,388,389,327,390,271,364,367,301,373,375,311,312,313,315,316,318,319,377,378,379,380,382,383,384,385,322,386,387,308,245]:List Nat) (YAt g))
abbrev GZ(P:Program)(fm:FM)(fs:Lo->List FnE)(lo:Lo):Prop:=GS P fm pf (fs lo) lo
abbrev Ti(P:Program)(fm:FM)(g:Nat)(F:VFn):Prop:=TieF P fm pf g F
def fs0(_:Lo):List FnE:=[]
def q0(lo:Lo)(n0:Int)(s1:Int):Option Int:=
  bif(decide (n0<0))then(some (7:Int))else(bif(decide (16<n0))then(some (7:Int))else(chk (0<=n0) (bif(!decide ((s1.fdiv (2^(min n0.toNat (IntKind.bits .u32))))=(0:Int)))then(some (6:Int))else(none))))
def Yr6:VFn:=⟨true,22,[.t 4,.t 5],
 (Rg [o 4 (.mv (.c (.one .nl))),oK 5 0]
 (.seq (Rg [oM 6 0,oR 7 .lss 6 (k 0),oM 8 7,gF 9 8 (.mv 0),gF 10 8 (.bin .gtr 9 (k 16)),oP 11 8 (kb true) 10]
 (.cond 11 (Rg [o 4 (.mv (.c (.one .nl))),oK 5 7]
 (Fr 4))
 .skip))
 (.seq (Rg [oM 12 1,oM 13 0,oR 14 .shr 12 13,oR 15 .neq 14 (ki .u32 0)]
 (.cond 15 (Rg [o 4 (.mv (.c (.one .nl))),oK 5 6]
 (Fr 4))
 .skip))
 (Rg [oM 16 0,oM 17 1,o 18 (.mkm (some .i64) I (cs [.l Zc3]) true),o 19 (.mkmF none (cs [I])),o 20 (.build [.i .i64 0,.i .u32 0,.v (.map none),.v (.map none)] [(0,1,16),(1,1,17),(2,1,18),(3,1,19)]),oG 21 20,oM 4 21,oK 5 0]
 (Fr 4)))))⟩
def YkP(lo:Lo):FnE:=Zfe 337 false (Zsg [0,1] [.j,.i .u32] []) (.tp [.nl,.j]) [] (fun x=>q0 lo x.1 x.2:Int×Int->Option Int)
def fs1(lo:Lo):List FnE:=YkP lo::fs0 lo
theorem Yr7(h:GZ P fm fs0 lo)(t:Ti P fm 337 Yr6):GZ P fm fs1 lo:=
  h.i (YkP lo) .n t
def q1(lo:Lo)(n0:Int)(s1:Int):Option Zp21:=
  bif(decide (n0<0))then(none)else(bif(decide (16<n0))then(none)else(chk (0<=n0) (bif(!decide ((s1.fdiv (2^(min n0.toNat (IntKind.bits .u32))))=(0:Int)))then(none)else(some ((0:Int),n0,s1,(0:Int),([]:List (Int×Int×Int×Zt0)),false,false,(0:Int),([]:List (Int×ByteArray× (List Int))))))))
def Yr8:VFn:=⟨true,22,[.t 4,.t 5],
 (Rg [o 4 (.mv (.c (.one .nl))),oK 5 0]
 (.seq (Rg [oM 6 0,oR 7 .lss 6 (k 0),oM 8 7,gF 9 8 (.mv 0),gF 10 8 (.bin .gtr 9 (k 16)),oP 11 8 (kb true) 10]
 (.cond 11 (Rg [o 4 (.mv (.c (.one .nl))),oK 5 7]
 .ret)
 .skip))
 (.seq (Rg [oM 12 1,oM 13 0,oR 14 .shr 12 13,oR 15 .neq 14 (ki .u32 0)]
 (.cond 15 (Rg [o 4 (.mv (.c (.one .nl))),oK 5 6]
 .ret)
 .skip))
 (Rg [oM 16 0,oM 17 1,o 18 (.mkm (some .i64) I (cs [.l Zc3]) true),o 19 (.mkmF none (cs [I])),o 20 (.build [.i .i64 0,.i .u32 0,.v (.map none),.v (.map none)] [(0,1,16),(1,1,17),(2,1,18),(3,1,19)]),oG 21 20,oM 4 21,oK 5 0]
 .ret))))⟩
def YkQ(lo:Lo):FnE:=Zfe 337 false (Zsg [0,1] [.j,.i .u32] []) (.tp [.ptr 0 0 0,.j]) [.st [.j,.i .u32,.np 1,.np 2],.st [.j,.l Zc5,.b,.b],.fp none (cs [I])] (fun x=>q1 lo x.1 x.2:Int×Int->Option Zp21)
def fs2(lo:Lo):List FnE:=YkQ lo::fs1 lo
theorem Yr9(h:GZ P fm fs1 lo)(t:Ti P fm 337 Yr8):GZ P fm fs2 lo:=
  h.i (YkQ lo) .n t
def q2(lo:Lo)(id0:Int)(n1:Int)(s2:ByteArray):Option (Int×Zt0):=
  some (id0,[((1:Int),n1,(YAY #[])),((2:Int),(0:Int),s2)])
def Ysa:VFn:=⟨true,14,[.c 6 true 2],
 (Rg [o 6 (.alloc [.i .i64 0,.e Zc3])]
 (Rg [oM 7 0,oM 8 1,o 9 (.build [.i .i64 0,.i .i64 0,.s (⟨#[]⟩)] [(0,1,(k 1)),(1,1,8)]),oM 10 2,o 11 (.build [.i .i64 0,.i .i64 0,.s (⟨#[]⟩)] [(0,1,(k 2)),(2,1,10)]),o 12 (.bsl Zc3 2 [(0,9),(1,11)]),o 13 (.build [.i .i64 0,.e Zc3] [(0,1,7),(1,1,12)]),oS 2 6 13]
 (Fr 6)))⟩
def YkR(lo:Lo):FnE:=Zfe 358 true (Zsg [0,1,2] [.j,.j,.s] []) (.ag [.j,.l Zc3]) [] (fun x=>q2 lo x.1 x.2.1 x.2.2:Int×Int×ByteArray->Option (Int×Zt0))
def fs3(lo:Lo):List FnE:=YkR lo::fs2 lo
theorem Ysb(h:GZ P fm fs2 lo)(t:Ti P fm 358 Ysa):GZ P fm fs3 lo:=
  h.p (YkR lo) .n t
def q3(lo:Lo)(v0_0:Int)(v0_1:Int)(v0_2:ByteArray):Option Bool:=
  bif(decide (v0_0=0))then(bif(decide (v0_1=0))then(some (decide (v0_2=(YAY #[]))))else(some false))else(bif(decide (v0_0=1))then(some (decide (v0_2=(YAY #[]))))else(bif(decide (v0_0=2))then(bif(decide (v0_1=0))then(some (decide ((v0_2.size:Int)<=200)))else(some false))else(bif(decide (v0_0=3))then(bif(decide (1<=v0_1))then(some (decide (v0_2=(YAY #[]))))else(some false))else(some false))))
def Ysc:VFn:=⟨true,41,[.t 2],
 (Rg [oG 1 0,oB 2 false]
 (.seq (Rg [oF 3 0 1,oL 4 3]
 (.blk 0 (Rg [oR 6 .eql 4 (k 0),oM 5 6]
 (.cond 5 (Rg [oF 7 1 1,oL 8 7,oR 9 .eql 8 (k 0),oM 10 9,gT 11 10 (.fad 2 1),gT 12 10 (.load false 1 11),gT 13 10 (.bin .eql 12 (ks (⟨#[]⟩))),oP 14 10 13 (kb false),oM 2 14]
 (Fr 2))
 (Rg [oR 16 .eql 4 (k 1),oM 15 16]
 (.cond 15 (Rg [oF 17 2 1,oL 18 17,oR 19 .eql 18 (ks (⟨#[]⟩)),oM 2 19]
 (Fr 2))
 (Rg [oR 21 .eql 4 (k 2),oM 20 21]
 (.cond 20 (Rg [oF 22 1 1,oL 23 22,oR 24 .eql 23 (k 0),oM 25 24,gT 26 25 (.fad 2 1),gT 27 25 (.load false 1 26),gT 28 25 (.lenS 27),gT 29 25 (.bin .leq 28 (k 200)),oP 30 25 29 (kb false),oM 2 30]
 (Fr 2))
 (Rg [oR 32 .eql 4 (k 3),oM 31 32]
 (.cond 31 (Rg [oF 33 1 1,oL 34 33,oR 35 .geq 34 (k 1),oM 36 35,gT 37 36 (.fad 2 1),gT 38 36 (.load false 1 37),gT 39 36 (.bin .eql 38 (ks (⟨#[]⟩))),oP 40 36 39 (kb false),oM 2 40]
 (Fr 2))
 .skip))))))))))
 (Rg [oB 2 false]
 (Fr 2))))⟩
def YkS(lo:Lo):FnE:=Zfe 283 true (Zsg [0] [.ag [.j,.j,.s]] []) .b [] (fun x=>q3 lo x.1 x.2.1 x.2.2:Int×Int×ByteArray->Option Bool)
def fs4(lo:Lo):List FnE:=YkS lo::fs3 lo
theorem Ysd(h:GZ P fm fs3 lo)(t:Ti P fm 283 Ysc):GZ P fm fs4 lo:=
  h.p (YkS lo) .n t
def q4(lo:Lo)(v0_0:Int)(v0_1:Int)(v0_2:ByteArray):Option Bool:=
  YAF (q3 lo v0_0 v0_1 v0_2) fun y2=>some (!y2)
def Yse:VFn:=⟨true,6,[.t 2],
 (Rg [oG 1 0,oB 2 false]
 (Rg [oT 3 3 1,oC 4 283 [3],oX 5 4,oM 2 5]
 (Fr 2)))⟩
def YkT(lo:Lo):FnE:=Zfe 360 true (Zsg [0] [.ag [.j,.j,.s]] []) .b [] (fun x=>q4 lo x.1 x.2.1 x.2.2:Int×Int×ByteArray->Option Bool)
def fs5(lo:Lo):List FnE:=YkT lo::fs4 lo
theorem Ysf(h:GZ P fm fs4 lo)(t:Ti P fm 360 Yse):GZ P fm fs5 lo:=
  h.p (YkT lo) .n t
def q5_L3_b:VCode:=
 (Rg [oR 9 .lss 8 7]
 (.seq (Ce 9 0)
 (.seq (.blk 1 (Rg [oM 10 8,oM 5 10]
 (Rg [oM 11 1,oM 12 0,oM 13 5,oI 14 3 12 13,oT 15 3 14,o 16 (.dyn 11 [15])]
 (.cond 16 (Rg [oM 17 5,oM 4 17]
 .ret)
 .skip))))
 (.reg [oR 18 .add 8 (k 1),oM 8 18]))))
def Yel(lo:Lo):Zt0×Int×Int->Option ((Zt0×Int×Int)⊕ (Int⊕Unit)):=fun x=>match x with
  | (s0,v7,v8)=>bif(decide (v8<v7))then(chk (0<=v8/\v8< (s0.length:Int)) (YAF (q4 lo ((s0.getD v8.toNat Zd1).1) ((s0.getD v8.toNat Zd1).2.1) ((s0.getD v8.toNat Zd1).2.2)) fun y3=>bif y3 then(some (.inr (.inl v8)))else(some (.inl (s0,v7,(YAZ .i64 (v8+1)))))))else(some (.inr (.inr ())))
def Ygk(lo:Lo):Zt0×Int×Int->Option (Int⊕Unit):=lo.run (Yel lo)
def Ysg(lo:Lo):LpE:=⟨3,[],(Zsg [0,1,7,8] [.l Zc3,.clo 360 [],.j,.j] []),[⟨.ret,(Zsg [4] [.j] [])⟩,⟨.exit 0,(Zsg [] [] [])⟩],Ygk lo⟩
def Ysh(lo:Lo):LL:=(Ysg lo,.loop q5_L3_b.er)::[]
theorem Ysi(lo:Lo):Lk lo pf (fs5 lo) 0 (Ysh lo):=.l .n (Yel lo)
def q5(lo:Lo)(s0:List (Int×Int×ByteArray)):Option Int:=
  YAF (Ygk lo (s0,(s0.length:Int),(0:Int))) fun y4=>alt2 y4 (fun y5=>some y5) (fun y6=>some (-1:Int))
def Ysj:VFn:=⟨true,19,[.t 4],
 (Rg [oK 4 0]
 (.seq (Rg [oM 6 0,oN 7 6,oK 8 0]
 (.blk 0 (.loop 3 q5_L3_b)))
 (Rg [oK 4 (-1)]
 .ret)))⟩
def YkU(lo:Lo):FnE:=Zfe 309 false (Zsg [0,1] [.l Zc3,.clo 360 []] []) (.i .i64) [] (fun x=>q5 lo x:Zt0->Option Int)
def fs6(lo:Lo):List FnE:=YkU lo::fs5 lo
theorem Ysk(h:GZ P fm fs5 lo)(t:Ti P fm 309 Ysj):GZ P fm fs6 lo:=
  h.i (YkU lo) (Ysi lo) t
def q6(lo:Lo)(s0:List (Int×Int×ByteArray)):Option Bool:=
  YAF (q5 lo s0) fun y7=>some (decide (0<=y7))
def Ysl:VFn:=⟨true,9,[.t 4],
 (Rg [oB 4 false]
 (Rg [oM 5 0,oM 6 1,oC 7 309 [5,6],oR 8 .geq 7 (k 0),oM 4 8]
 .ret))⟩
def YkV(lo:Lo):FnE:=Zfe 293 false (Zsg [0,1] [.l Zc3,.clo 360 []] []) .b [] (fun x=>q6 lo x:Zt0->Option Bool)
def fs7(lo:Lo):List FnE:=YkV lo::fs6 lo
theorem Ysm(h:GZ P fm fs6 lo)(t:Ti P fm 293 Ysl):GZ P fm fs7 lo:=
  h.i (YkV lo) .n t
def q7(lo:Lo)(l:List (Int×Int×ByteArray)):Option Zt0:=bif YAx l.length maxEl&&YAx 1 3 then some l else none
def Ysn(lo:Lo):FnE:=vcloneE 308 Zc3
def fs8(lo:Lo):List FnE:=Ysn lo::fs7 lo
theorem Yso(h:GZ P fm fs7 lo)(htie: ∀f,fm f=308->fnTr P fm pf f=some (8,[.t 2],Yw8 3 [(.int .i64 0),(.int .i64 0),(.string (⟨#[]⟩))])):GZ P fm fs8 lo:=
  ⟨h.1,h.2,Ykl h.S h.mx Zc3 rfl [(.int .i64 0),(.int .i64 0),(.string (⟨#[]⟩))] 8 (by decide) htie⟩
def q8_L3_b:VCode:=
 (Rg [oR 12 .lss 11 10]
 (.seq (Ce 12 0)
 (.seq (.blk 1 (Rg [oM 13 11,oI 14 3 9 11,oT 15 3 14,o 7 (.alloc [.i .i64 0,.i .i64 0,.s (⟨#[]⟩)]),oM 6 13,oS 3 7 15]
 (Rg [oM 16 0,o 17 (.nilc 16),oF 18 1 17,oL 19 18,oM 20 6,oR 21 .shr 19 20,oR 22 .and 21 (ki .u32 1),oR 23 .eql 22 (ki .u32 1)]
 (.cond 23 (.reg [oM 24 5,oT 25 3 7,o 26 (.bsl Zc3 1 [(0,25)]),o 27 (.app Zc3 0 24 26),oM 5 27])
 .skip))))
 (.reg [oR 28 .add 11 (k 1),oM 11 28]))))
def Yem(lo:Lo):Zp19->Option (Zp19⊕ ((Int×Int×Int×Zt2×Bool×Bool×Int×Zt1×Zt0))):=fun x=>match x with
  | (v9,v10,v11,x0_0,x0_1,h1_0,h1_1,h1_2,h1_3,h2_0,h2_1,out5)=>bif(decide (v11<v10))then(chk (0<=v11/\v11< (v9.length:Int)) (chk (0<=v11) (bif(decide ((bits .and .u32 (x0_1.fdiv (2^(min v11.toNat (IntKind.bits .u32)))) (1:Int))=(1:Int)))then(chk (out5.length+([(v9.getD v11.toNat Zd1)]).length<=maxEl) (some (.inl (v9,v10,(YAZ .i64 (v11+1)),x0_0,x0_1,h1_0,h1_1,h1_2,h1_3,h2_0,h2_1,(out5++([(v9.getD v11.toNat Zd1)]))))))else(some (.inl (v9,v10,(YAZ .i64 (v11+1)),x0_0,x0_1,h1_0,h1_1,h1_2,h1_3,h2_0,h2_1,out5))))))else(some (.inr (x0_0,x0_1,h1_0,h1_1,h1_2,h1_3,h2_0,h2_1,out5)))
def Ygl(lo:Lo):Zp19->Option ((Int×Int×Int×Zt2×Bool×Bool×Int×Zt1×Zt0)):=lo.run (Yem lo)
def Ysp(lo:Lo):LpE:=⟨3,[(5,none,false)],(Zsg [0,5,9,10,11] [.ptr 0 0 0,.ref 3,.l Zc3,.j,.j] [.st [.j,.i .u32,.np 1,.np 2],.st [.j,.l Zc5,.b,.b],.fp none (cs [I]),.sq Zc3]),[⟨.exit 0,(Zsg [0,5] [.ptr 0 0 0,.ref 3] [.st [.j,.i .u32,.np 1,.np 2],.st [.j,.l Zc5,.b,.b],.fp none (cs [I]),.sq Zc3])⟩],Ygl lo⟩
def Ysq(lo:Lo):LL:=(Ysp lo,.loop q8_L3_b.er)::[]
theorem Ysr(lo:Lo):Lk lo pf (fs8 lo) 3 (Ysq lo):=.l .n (Yem lo)
def q8(lo:Lo)(r1_0:Int)(r1_1:List (Int×Int×ByteArray))(x0_0:Int)(x0_1:Int)(h1_0:Int)(h1_1:List (Int×Int×Int×Zt0))(h1_2:Bool)(h1_3:Bool)(h2_0:Int)(h2_1:List (Int×ByteArray× (List Int))):Option (Int×Int×Int×Zt2×Bool×Bool×Int×Zt1×Zt0):=
  YAF (Ygl lo (r1_1,(r1_1.length:Int),(0:Int),x0_0,x0_1,h1_0,h1_1,h1_2,h1_3,h2_0,h2_1,[])) fun y10=>some (y10.1,y10.2.1,y10.2.2.1,y10.2.2.2.1,y10.2.2.2.2.1,y10.2.2.2.2.2.1,y10.2.2.2.2.2.2.1,y10.2.2.2.2.2.2.2.1,y10.2.2.2.2.2.2.2.2)
def Yss:VFn:=⟨true,30,[.t 4],
 (Rg [oG 3 1,o 4 (.mv (ke Zc3))]
 (Rg [o 5 (.mv (ke Zc3))]
 (.seq (Rg [oF 8 1 3,oL 9 8,oN 10 9,oK 11 0]
 (.blk 0 (.loop 3 q8_L3_b)))
 (Rg [oM 29 5,oM 4 29]
 .ret))))⟩
def YkW(lo:Lo):FnE:=Zfe 362 false (Zsg [0,1] [.ptr 0 0 0,.ag [.j,.l Zc3]] [.st [.j,.i .u32,.np 1,.np 2],.st [.j,.l Zc5,.b,.b],.fp none (cs [I])]) (.ref 3) [.st [.j,.i .u32,.np 1,.np 2],.st [.j,.l Zc5,.b,.b],.fp none (cs [I]),.sq Zc3] (fun x=>q8 lo x.1 x.2.1 x.2.2.1 x.2.2.2.1 x.2.2.2.2.1 x.2.2.2.2.2.1 x.2.2.2.2.2.2.1 x.2.2.2.2.2.2.2.1 x.2.2.2.2.2.2.2.2.1 x.2.2.2.2.2.2.2.2.2:Int×Zt0×Int×Int×Int×Zt2×Bool×Bool×Int×Zt1->Option (Int×Int×Int×Zt2×Bool×Bool×Int×Zt1×Zt0))
def fs9(lo:Lo):List FnE:=YkW lo::fs8 lo
theorem Yst(h:GZ P fm fs8 lo)(t:Ti P fm 362 Yss):GZ P fm fs9 lo:=
  h.i (YkW lo) (Ysr lo) t
def q9_L3_b:VCode:=
 (.seq (Rg [oM 10 6,oR 11 .geq 10 (k 0)]
 (Ce 11 0))
 (.seq (.blk 1 (.reg [oM 14 0,oM 15 5,oM 16 6,oR 17 .shr 15 16,o 18 (.conv .u8 17),o 19 (.bsl Zc11 1 [(0,18)]),o 20 (.appb 14 19),oM 0 20]))
 (.reg [oM 12 6,oR 13 .sub 12 (k 8),oM 6 13])))
def Ygm(lo:Lo):Int×Int×ByteArray->Option ((Int×Int×ByteArray)⊕ByteArray):=fun x=>match x with
  | (u5,shift6,out0)=>bif(decide (0<=shift6))then(chk (0<=shift6) (bif inB ([(YAZ .u8 (u5.fdiv (2^(min shift6.toNat (IntKind.bits .u64)))))])then(chk (out0.size+([(YAZ .u8 (u5.fdiv (2^(min shift6.toNat (IntKind.bits .u64)))))]).length<=maxEl) (some (.inl (u5,(YAZ .i64 (shift6-8)),(out0++Ywz ([(YAZ .u8 (u5.fdiv (2^(min shift6.toNat (IntKind.bits .u64)))))]))))))else none))else(some (.inr out0))
def Ygn(lo:Lo):Int×Int×ByteArray->Option ByteArray:=lo.run (Ygm lo)
def Ysu(lo:Lo):LpE:=⟨3,[(0,some 0,false)],(Zsg [0,5,6] [.ref 1,.i .u64,.j] [.dd,.sb]),[⟨.exit 0,(Zsg [0] [.ref 1] [.dd,.sb])⟩],Ygn lo⟩
def Ysv(lo:Lo):LL:=(Ysu lo,.loop q9_L3_b.er)::[]
theorem Ysw(lo:Lo):Lk lo pf (fs9 lo) 1 (Ysv lo):=.l .n (Ygm lo)
def q9(lo:Lo)(n1:Int)(out0:ByteArray):Option ByteArray:=
  YAF (Ygn lo ((bits .xor .u64 (YAZ .u64 n1) (9223372036854775808:Int)),(56:Int),out0)) fun y13=>some y13
def Ysx:VFn:=⟨true,22,[.t 4],
 (Rg [o 4 (.mv (ke Zc11))]
 (Rg [oM 7 1,o 8 (.conv .u64 7),oR 9 .xor 8 (ki .u64 9223372036854775808),oM 5 9]
 (.seq (Rg [oK 6 56]
 (.blk 0 (.loop 3 q9_L3_b)))
 (Rg [oM 21 0,oM 4 21]
 .ret))))⟩
def YkX(lo:Lo):FnE:=Zfe 310 false (Zsg [0,1] [.ref 0,.j] [.sb]) (.ref 1) [.dd,.sb] (fun x=>q9 lo x.1 x.2:Int×ByteArray->Option ByteArray)
def fs10(lo:Lo):List FnE:=YkX lo::fs9 lo
theorem Ysy(h:GZ P fm fs9 lo)(t:Ti P fm 310 Ysx):GZ P fm fs10 lo:=
  h.i (YkX lo) (Ysw lo) t
def q10_L5_b:VCode:=
 (Rg [oR 28 .lss 27 26]
 (.seq (Ce 28 1)
 (.seq (.blk 2 (Rg [oM 29 27,oM 5 29]
 (Rg [oM 30 4,oF 31 2 1,oL 32 31,oM 33 5,o 34 (.idx 32 33),o 35 (.bsl Zc11 1 [(0,34)]),o 36 (.appb 30 35),oM 4 36]
 (Rg [oF 37 2 1,oL 38 37,oM 39 5,o 40 (.idx 38 39),oR 41 .eql 40 (ki .u8 0)]
 (.cond 41 (.reg [oM 42 4,o 43 (.bsl Zc11 1 [(0,(ki .u8 255))]),o 44 (.appb 42 43),oM 4 44])
 .skip)))))
 (.reg [oR 45 .add 27 (k 1),oM 27 45]))))
def Yen(lo:Lo):Zp22->Option (Zp22⊕ByteArray):=fun x=>match x with
  | (v26,v27,v1_0,v1_1,v1_2,out4)=>bif(decide (v27<v26))then(chk (0<=v27/\v27< (v1_2.size:Int)) (bif inB ([(YwD v1_2 v27)])then(chk (out4.size+([(YwD v1_2 v27)]).length<=maxEl) (chk (0<=v27/\v27< (v1_2.size:Int)) (bif(decide ((YwD v1_2 v27)=(0:Int)))then(bif inB ([(255:Int)])then(chk ((out4++Ywz ([(YwD v1_2 v27)])).size+([(255:Int)]).length<=maxEl) (some (.inl (v26,(YAZ .i64 (v27+1)),v1_0,v1_1,v1_2,((out4++Ywz ([(YwD v1_2 v27)]))++Ywz ([(255:Int)]))))))else none)else(some (.inl (v26,(YAZ .i64 (v27+1)),v1_0,v1_1,v1_2,(out4++Ywz ([(YwD v1_2 v27)]))))))))else none))else(some (.inr out4))
def Ygo(lo:Lo):Zp22->Option ByteArray:=lo.run (Yen lo)
def Ysz(lo:Lo):LpE:=⟨5,[],(Zsg [1,4,26,27] [.ptr 0 0 0,.ref 1,.j,.j] [.st [.j,.j,.s],.sb]),[⟨.exit 1,(Zsg [4] [.ref 0] [.sb])⟩],Ygo lo⟩
def YkY(lo:Lo):LL:=(Ysz lo,.loop q10_L5_b.er)::[]
theorem YsA(lo:Lo):Lk lo pf (fs10 lo) 0 (YkY lo):=.l .n (Yen lo)
def q10_J17_b:VCode:=
 (.cond 15 (.reg [oM 18 4,oF 19 1 1,oL 20 19,oC 21 310 [18,20],oM 4 21])
 (Rg [oR 23 .eql 14 (k 2),oM 22 23]
 (.cond 22 (.seq (Rg [oF 24 2 1,oL 25 24,o 26 (.lenS 25),oK 27 0]
 (.blk 1 (.loop 5 q10_L5_b)))
 (.reg [oM 46 4,o 47 (.bsl Zc11 2 [(0,(ki .u8 0)),(1,(ki .u8 1))]),o 48 (.appb 46 47),oM 4 48]))
 .skip)))
def YbT(lo:Lo):Int×Bool×Int×Int×ByteArray×ByteArray->Option ByteArray:=fun x=>match x with
  | (v14,v15,v1_0,v1_1,v1_2,out4)=>bif v15 then(YAF (q9 lo v1_1 out4) fun y14=>some y14)else(bif(decide (v14=2))then(YAF (Ygo lo ((v1_2.size:Int),(0:Int),v1_0,v1_1,v1_2,out4)) fun y15=>bif inB ([(0:Int),(1:Int)])then(chk (y15.size+([(0:Int),(1:Int)]).length<=maxEl) (some (y15++Ywz ([(0:Int),(1:Int)]))))else none)else(some out4))
def YsB(lo:Lo):LpE:=⟨17,[],(Zsg [1,4,14,15] [.ptr 0 0 0,.ref 1,.j,.b] [.st [.j,.j,.s],.sb]),[⟨.nor,(Zsg [4] [.ref 0] [.sb])⟩],YbT lo⟩
def YsC(lo:Lo):LL:=(YsB lo,q10_J17_b.er)::YkY lo
theorem YsD(lo:Lo):Lk lo pf (fs10 lo) 0 (YsC lo):=.j (YsA lo)
def q10(lo:Lo)(v0_0:Int)(v0_1:Int)(v0_2:ByteArray):Option (ByteArray×Int):=
  YAF (q3 lo v0_0 v0_1 v0_2) fun y12=>bif(!y12)then(some ((YAY #[]),(1:Int)))else(bif inB [(YAZ .u8 v0_0)]then(bif(decide (v0_0=1))then(YAF (YbT lo (v0_0,true,v0_0,v0_1,v0_2,(Ywz [(YAZ .u8 v0_0)]))) fun y16=>some (y16,(0:Int)))else(YAF (YbT lo (v0_0,(decide (v0_0=3)),v0_0,v0_1,v0_2,(Ywz [(YAZ .u8 v0_0)]))) fun y17=>some (y17,(0:Int))))else none)
def YsE:VFn:=⟨true,51,[.t 2,.t 3],
 (Rg [oG 1 0,o 2 (.mv (ks (⟨#[]⟩))),oK 3 0]
 (.seq (Rg [oT 6 3 1,oC 7 283 [6],oX 8 7]
 (.cond 8 (Rg [o 2 (.mv (ks (⟨#[]⟩))),oK 3 1]
 (.fz [2,3] .ret))
 .skip))
 (Rg [oF 9 0 1,oL 10 9,o 11 (.conv .u8 10),o 12 (.litb [11]),oM 4 12]
 (.seq (Rg [oF 13 0 1,oL 14 13]
 (.blk 0 (.seq (Rg [oR 16 .eql 14 (k 1),oM 15 16]
 (.cond 15 .skip
 (.reg [oR 17 .eql 14 (k 3),oM 15 17])))
 (.jn 17 q10_J17_b))))
 (Rg [oM 49 4,o 50 (.bstr 49),oM 2 50,oK 3 0]
 (.fz [2,3] .ret))))))⟩
def YkZ(lo:Lo):FnE:=Zfe 296 true (Zsg [0] [.ag [.j,.j,.s]] []) (.tp [.s,.j]) [] (fun x=>q10 lo x.1 x.2.1 x.2.2:Int×Int×ByteArray->Option (ByteArray×Int))
def fs11(lo:Lo):List FnE:=YkZ lo::fs10 lo
theorem YsF(h:GZ P fm fs10 lo)(t:Ti P fm 296 YsE):GZ P fm fs11 lo:=
  h.p (YkZ lo) (YsD lo) t
def q11(lo:Lo)(s:ByteArray):Option ByteArray:=some s
def YsG(lo:Lo):FnE:=vchkE2 164
def fs12(lo:Lo):List FnE:=YsG lo::fs11 lo
theorem YsH(h:GZ P fm fs11 lo)(hG: ∀f,fm f=164->Ywr P f=true/\ ∃ρ:Go.Shelf.Ren,Go.Proofs.Lays.n240 P ρ/\BldOK P fm ρ/\ρ.f 240=f):GZ P fm fs12 lo:=
  ⟨h.1,h.2,Yrn h.S rfl hG⟩
def q12(lo:Lo)(s1:ByteArray)(h1:ByteArray):Option (Int×ByteArray):=
  YAF (q11 lo h1) fun y19=>chk (y19.size=h1.size) (chk (y19.size+s1.size<=maxEl) (some ((s1.size:Int),(y19++s1))))
def YsI:VFn:=⟨true,19,[.t 4,.t 5],
 (Rg [oK 4 0,o 5 (.mv (.c (.v .nilIface)))]
 (Rg [oM 6 0,oC 7 164 [6]]
 (Rg [oM 8 0,oM 9 0,o 10 (.nilc 9),oF 11 1 10,oL 12 11,oM 13 1,o 14 (.apps 12 13),o 15 (.nilc 8),oF 16 1 15,oS 1 16 14]
 (Rg [oM 17 1,o 18 (.lenS 17),oM 4 18,o 5 (.mv (.c (.v .nilIface)))]
 .ret))))⟩
def Yk0(lo:Lo):FnE:=Zfe 149 false (Zsg [0,1] [.ptr 0 0 0,.s] [.st [.np 0,.ref 1],.sb]) (.tp [.j,.u]) [.st [.np 0,.ref 2],.dd,.sb] (fun x=>q12 lo x.1 x.2:ByteArray×ByteArray->Option (Int×ByteArray))
def fs13(lo:Lo):List FnE:=Yk0 lo::fs12 lo
theorem YsJ(h:GZ P fm fs12 lo)(t:Ti P fm 149 YsI):GZ P fm fs13 lo:=
  h.i (Yk0 lo) .n t
def q13(lo:Lo)(s:ByteArray):Option ByteArray:=some s
def YsK(lo:Lo):FnE:=vstrE 151
def fs14(lo:Lo):List FnE:=YsK lo::fs13 lo
theorem YsL(h:GZ P fm fs13 lo)(hG: ∀f,fm f=151->Ywr P f=true/\ ∃ρ:Go.Shelf.Ren,Go.Proofs.Lays.n169 P ρ/\BldOK P fm ρ/\fm.bu=ρ.t 5/\ρ.f 169=f):GZ P fm fs14 lo:=
  ⟨h.1,h.2,Yru h.S rfl hG⟩
def q14_L3_b:VCode:=
 (Rg [oR 11 .lss 10 9]
 (.seq (Ce 11 0)
 (.seq (.blk 1 (Rg [oI 12 3 8 10,oT 13 3 12,o 5 (.alloc [.i .i64 0,.i .i64 0,.s (⟨#[]⟩)]),oS 3 5 13]
 (Rg [oT 15 3 5,oC 16 296 [15],oM 14 16,oE 17 14 0,oE 18 14 1,oM 6 17,oM 7 18]
 (.reg [oM 19 6,oC 20 149 [3,19]]))))
 (.reg [oR 21 .add 10 (k 1),oM 10 21]))))
def Yeo(lo:Lo):Zt0×Int×Int×ByteArray->Option ((Zt0×Int×Int×ByteArray)⊕ByteArray):=fun x=>match x with
  | (v8,v9,v10,h1)=>bif(decide (v10<v9))then(chk (0<=v10/\v10< (v8.length:Int)) (YAF (q10 lo ((v8.getD v10.toNat Zd1).1) ((v8.getD v10.toNat Zd1).2.1) ((v8.getD v10.toNat Zd1).2.2)) fun y18=>YAF (q12 lo y18.1 h1) fun y20=>some (.inl (v8,v9,(YAZ .i64 (v10+1)),y20.2))))else(some (.inr h1))
def Ygp(lo:Lo):Zt0×Int×Int×ByteArray->Option ByteArray:=lo.run (Yeo lo)
def YsM(lo:Lo):LpE:=⟨3,[],(Zsg [3,8,9,10] [.ptr 0 0 0,.l Zc3,.j,.j] [.st [.np 0,.ref 1],.sb]),[⟨.exit 0,(Zsg [3] [.ptr 0 0 0] [.st [.np 0,.ref 1],.sb])⟩],Ygp lo⟩
def YsN(lo:Lo):LL:=(YsM lo,.loop q14_L3_b.er)::[]
theorem YsO(lo:Lo):Lk lo pf (fs14 lo) 0 (YsN lo):=.l .n (Yeo lo)
def q14(lo:Lo)(l0:List (Int×Int×ByteArray)):Option ByteArray:=
  YAF (Ygp lo (l0,(l0.length:Int),(0:Int),(YAY #[]))) fun y21=>YAF (q13 lo y21) fun y22=>some y22
def YsP:VFn:=⟨true,23,[.t 2],
 (Rg [o 2 (.mv (ks (⟨#[]⟩)))]
 (Rg [o 3 (.bld)]
 (.ow [(3,some 1,false)] (.seq (Rg [oM 8 0,oN 9 8,oK 10 0]
 (.blk 0 (.loop 3 q14_L3_b)))
 (Rg [oC 22 151 [3],oM 2 22]
 (Fr 2))))))⟩
def Yk1(lo:Lo):FnE:=Zfe 361 true (Zsg [0] [.l Zc3] []) .s [] (fun x=>q14 lo x:Zt0->Option ByteArray)
def fs15(lo:Lo):List FnE:=Yk1 lo::fs14 lo
theorem YsQ(h:GZ P fm fs14 lo)(t:Ti P fm 361 YsP):GZ P fm fs15 lo:=
  h.p (Yk1 lo) (YsO lo) t
def q15(lo:Lo)(x0:Int):Option Bool:=
  some (!decide (x0=x0))
def YsR:VFn:=⟨true,6,[.t 2],
 (Rg [oB 2 false]
 (Rg [oM 3 0,oM 4 0,oR 5 .neq 3 4,oM 2 5]
 (Fr 2)))⟩
def Yk2(lo:Lo):FnE:=Zfe 376 true (Zsg [0] [.j] []) .b [] (fun x=>q15 lo x:Int->Option Bool)
def fs16(lo:Lo):List FnE:=Yk2 lo::fs15 lo
theorem YsS(h:GZ P fm fs15 lo)(t:Ti P fm 376 YsR):GZ P fm fs16 lo:=
  h.p (Yk2 lo) .n t
def q16(lo:Lo)(x0:Int)(y1:Int):Option Bool:=
  YAF (q15 lo x0) fun y24=>bif y24 then(YAF (q15 lo y1) fun y25=>bif(!y25)then(some true)else(some (decide (x0<y1))))else(some (decide (x0<y1)))
def YsT:VFn:=⟨true,17,[.t 4],
 (Rg [oB 4 false]
 (Rg [oM 5 0,oC 6 376 [5],oM 7 6,gT 8 7 (.mv 1),gT 9 7 (.call 376 [8]),gT 10 7 (.not 9),oP 11 7 10 (kb false),oM 12 11,gF 13 12 (.mv 0),gF 14 12 (.mv 1),gF 15 12 (.bin .lss 13 14),oP 16 12 (kb true) 15,oM 4 16]
 (Fr 4)))⟩
def Yk3(lo:Lo):FnE:=Zfe 370 true (Zsg [0,1] [.j,.j] []) .b [] (fun x=>q16 lo x.1 x.2:Int×Int->Option Bool)
def fs17(lo:Lo):List FnE:=Yk3 lo::fs16 lo
theorem YsU(h:GZ P fm fs16 lo)(t:Ti P fm 370 YsT):GZ P fm fs17 lo:=
  h.p (Yk3 lo) .n t
def q17(lo:Lo)(x0:Int):Option Bool:=
  some (!decide (x0=x0))
def YsV:VFn:=⟨true,6,[.t 2],
 (Rg [oB 2 false]
 (Rg [oM 3 0,oM 4 0,oR 5 .neq 3 4,oM 2 5]
 (Fr 2)))⟩
def Yk4(lo:Lo):FnE:=Zfe 371 true (Zsg [0] [.j] []) .b [] (fun x=>q17 lo x:Int->Option Bool)
def fs18(lo:Lo):List FnE:=Yk4 lo::fs17 lo
theorem YsW(h:GZ P fm fs17 lo)(t:Ti P fm 371 YsV):GZ P fm fs18 lo:=
  h.p (Yk4 lo) .n t
def q18_L3_b:VCode:=
 (.seq (Rg [oM 13 7,oM 14 8,oR 15 .lss 13 14]
 (Ce 15 0))
 (.blk 1 (Rg [oM 16 7,oM 17 8,oR 18 .add 16 17,o 19 (.conv .u64 18),oR 20 .shr 19 (ki .u64 1),o 21 (.conv .i64 20),oM 9 21]
 (Rg [oM 22 0,oM 23 9,oI 24 1 22 23,oL 25 24,oM 26 1,oC 27 370 [25,26]]
 (.cond 27 (.reg [oM 28 9,oR 29 .add 28 (k 1),oM 7 29])
 (.reg [oM 30 9,oM 8 30]))))))
def YbU(lo:Lo):(List Int)×Int×Int×Int×Int->Option (((List Int)×Int×Int×Int×Int)⊕ (((List Int)×Int×Int×Int))):=fun x=>match x with
  | (x0,target1,n6,i7,j8)=>bif(decide (i7<j8))then(chk (0<=(1:Int)) (chk (0<=(YAZ .i64 ((YAZ .u64 (YAZ .i64 (i7+j8))).fdiv (2^(min (1:Int).toNat (IntKind.bits .u64)))))/\ (YAZ .i64 ((YAZ .u64 (YAZ .i64 (i7+j8))).fdiv (2^(min (1:Int).toNat (IntKind.bits .u64)))))< (x0.length:Int)) (YAF (q16 lo (x0.getD ((YAZ .i64 ((YAZ .u64 (YAZ .i64 (i7+j8))).fdiv (2^(min (1:Int).toNat (IntKind.bits .u64))))).toNat) (0:Int)) target1) fun y26=>bif y26 then(some (.inl (x0,target1,n6,(YAZ .i64 ((YAZ .i64 ((YAZ .u64 (YAZ .i64 (i7+j8))).fdiv (2^(min (1:Int).toNat (IntKind.bits .u64)))))+(1:Int))),j8)))else(some (.inl (x0,target1,n6,i7,(YAZ .i64 ((YAZ .u64 (YAZ .i64 (i7+j8))).fdiv (2^(min (1:Int).toNat (IntKind.bits .u64)))))))))))else(some (.inr (x0,target1,n6,i7)))
def Ygq(lo:Lo):(List Int)×Int×Int×Int×Int->Option (((List Int)×Int×Int×Int)):=lo.run (YbU lo)
def YsX(lo:Lo):LpE:=⟨3,[],(Zsg [0,1,6,7,8] [.l (cs [I]),.j,.j,.j,.j] []),[⟨.exit 0,(Zsg [0,1,6,7] [.l (cs [I]),.j,.j,.j] [])⟩],Ygq lo⟩
def YsY(lo:Lo):LL:=(YsX lo,.loop q18_L3_b.er)::[]
theorem YsZ(lo:Lo):Lk lo pf (fs18 lo) 0 (YsY lo):=.l .n (YbU lo)
def q18(lo:Lo)(x0:List Int)(target1:Int):Option (Int×Bool):=
  YAF (Ygq lo (x0,target1,(x0.length:Int),(0:Int),(x0.length:Int))) fun y27=>bif(decide (y27.2.2.2<y27.2.2.1))then(chk (0<=y27.2.2.2/\y27.2.2.2< (y27.1.length:Int)) (bif(decide ((y27.1.getD y27.2.2.2.toNat (0:Int))=y27.2.1))then(some (y27.2.2.2,true))else(chk (0<=y27.2.2.2/\y27.2.2.2< (y27.1.length:Int)) (YAF (q17 lo (y27.1.getD y27.2.2.2.toNat (0:Int))) fun y28=>bif y28 then(YAF (q17 lo y27.2.1) fun y29=>some (y27.2.2.2,y29))else(some (y27.2.2.2,false))))))else(some (y27.2.2.2,false))
def Ys0:VFn:=⟨true,54,[.t 4,.t 5],
 (Rg [oK 4 0,oB 5 false]
 (Rg [oM 10 0,oN 11 10,oM 6 11]
 (Rg [oM 12 6,oK 7 0,oM 8 12]
 (.seq (.blk 0 (.loop 3 q18_L3_b))
 (Rg [oM 31 7,oM 32 7,oM 33 6,oR 34 .lss 32 33,oM 35 34,gT 36 35 (.mv 0),gT 37 35 (.mv 7),gT 38 35 (.iad 1 36 37),gT 39 35 (.load false 1 38),gT 40 35 (.mv 1),gT 41 35 (.bin .eql 39 40),gT 42 35 (.mv 41),gF 43 42 (.mv 0),gF 44 42 (.mv 7),gF 45 42 (.iad 1 43 44),gF 46 42 (.load false 1 45),gF 47 42 (.call 371 [46]),gF 48 42 (.mv 47),gT 49 48 (.mv 1),gT 50 48 (.call 371 [49]),gF 51 42 (.pick 48 50 (kb false)),gT 52 35 (.pick 42 (kb true) 51),oP 53 35 52 (kb false),oM 4 31,oM 5 53]
 (.fz [4,5] .ret))))))⟩
def Yk5(lo:Lo):FnE:=Zfe 363 true (Zsg [0,1] [.l (cs [I]),.j] []) (.tp [.j,.b]) [] (fun x=>q18 lo x.1 x.2:(List Int)×Int->Option (Int×Bool))
def fs19(lo:Lo):List FnE:=Yk5 lo::fs18 lo
theorem Ys1(h:GZ P fm fs18 lo)(t:Ti P fm 363 Ys0):GZ P fm fs19 lo:=
  h.p (Yk5 lo) (YsZ lo) t
def q19(lo:Lo)(i:Int)(v l:List Int):Option (List Int):=YyU (i,(v,l))
def Ys2(lo:Lo):FnE:=vinsE 364 (cs [I])
def fs20(lo:Lo):List FnE:=Ys2 lo::fs19 lo
theorem Ys3(h:GZ P fm fs19 lo)(hG: ∀f,fm f=364->Ywr P f=true/\ ∃(ρ:Go.Shelf.Ren) (z:List Value),InsL P ρ z/\z.length=1/\ρ.f 22=f):GZ P fm fs20 lo:=
  ⟨h.1,h.2,YrT h.S (cs [I]) rfl hG⟩
def q20(lo:Lo)(i:Int)(v:List Int):Option (List Int):=Yyj (i,v)
def Ys4(lo:Lo):FnE:=vinsNE 364 (cs [I])
def fs21(lo:Lo):List FnE:=Ys4 lo::fs20 lo
theorem Ys5(h:GZ P fm fs20 lo)(hG: ∀f,fm f=364->Ywr P f=true/\ ∃(ρ:Go.Shelf.Ren) (z:List Value),InsL P ρ z/\z.length=1/\ρ.f 22=f):GZ P fm fs21 lo:=
  ⟨h.1,h.2,YrW h.S (cs [I]) rfl hG⟩
def q21(lo:Lo)(r1_0:Int)(r1_1:List (Int×Int×ByteArray))(x0_0:Int)(x0_1:Int)(h1_0:Int)(h1_1:List (Int×Int×Int×Zt0))(h1_2:Bool)(h1_3:Bool)(h2_0:Int)(h2_1:List (Int×ByteArray× (List Int))):Option Zp21:=
  bif(!decide ((r1_1.length:Int)=x0_0))then(some ((6:Int),x0_0,x0_1,h1_0,h1_1,h1_2,h1_3,h2_0,h2_1))else(bif(decide (r1_0<=0))then(some ((1:Int),x0_0,x0_1,h1_0,h1_1,h1_2,h1_3,h2_0,h2_1))else(YAF (q6 lo r1_1) fun y8=>bif y8 then(some ((1:Int),x0_0,x0_1,h1_0,h1_1,h1_2,h1_3,h2_0,h2_1))else(bif(mhs eqI r1_0 h1_1)then(some ((5:Int),x0_0,x0_1,h1_0,h1_1,h1_2,h1_3,h2_0,h2_1))else(YAF (q7 lo r1_1) fun y9=>YAF (q8 lo r1_0 r1_1 x0_0 x0_1 (mck eqI h1_0 r1_0 h1_1) (mpt eqI h1_0 r1_0 (r1_0,y9) h1_1) h1_2 h1_3 h2_0 h2_1) fun y11=>YAF (q14 lo y11.2.2.2.2.2.2.2.2) fun y23=>YAF (q18 lo ((y11.2.2.2.2.2.2.2.1.getD (mix eqS y23 y11.2.2.2.2.2.2.2.1) ((0:Int),(YAY #[]),[])).2.2) r1_0) fun y30=>bif YAu (mix eqS y23 y11.2.2.2.2.2.2.2.1) y11.2.2.2.2.2.2.2.1.length then(YAF (q19 lo y30.1 [r1_0] ((y11.2.2.2.2.2.2.2.1.getD (mix eqS y23 y11.2.2.2.2.2.2.2.1) ((0:Int),(YAY #[]),[])).2.2)) fun y31=>chk (mix eqS y23 y11.2.2.2.2.2.2.2.1=(mix eqS y23 y11.2.2.2.2.2.2.2.1)) (some ((0:Int),y11.1,y11.2.1,y11.2.2.1,y11.2.2.2.1,y11.2.2.2.2.1,y11.2.2.2.2.2.1,(mck eqS y11.2.2.2.2.2.2.1 y23 y11.2.2.2.2.2.2.2.1),(mpt eqS y11.2.2.2.2.2.2.1 y23 y31 y11.2.2.2.2.2.2.2.1))))else(YAF (q20 lo y30.1 [r1_0]) fun y32=>some ((0:Int),y11.1,y11.2.1,y11.2.2.1,y11.2.2.2.1,y11.2.2.2.2.1,y11.2.2.2.2.2.1,(mck eqS y11.2.2.2.2.2.2.1 y23 y11.2.2.2.2.2.2.2.1),(mpt eqS y11.2.2.2.2.2.2.1 y23 y32 y11.2.2.2.2.2.2.2.1)))))))
def Ys6:VFn:=⟨true,81,[.t 4],
 (Rg [oG 3 1,oK 4 0]
 (.seq (Rg [oF 10 1 3,oL 11 10,oN 12 11,oM 13 0,o 14 (.nilc 13),oF 15 0 14,oL 16 15,oR 17 .neq 12 16]
 (.cond 17 (Rg [oK 4 6]
 .ret)
 .skip))
 (.seq (Rg [oF 18 0 3,oL 19 18,oR 20 .leq 19 (k 0),oM 21 20,gF 22 21 (.fad 1 3),gF 23 21 (.load false 1 22),gF 24 21 (.call 293 [23,(.c (.f 360))]),oP 25 21 (kb true) 24]
 (.cond 25 (Rg [oK 4 1]
 .ret)
 .skip))
 (.seq (Rg [oM 27 0,o 28 (.nilc 27),oF 29 2 28,⟨some 30,.load false 1 29,none,true,false⟩,oF 31 0 3,⟨some 32,.load false 1 31,none,true,false⟩,⟨some 33,.mget (some .i64) I (cs [.l Zc3]) true true 30 32,none,true,false⟩,oM 26 33,oE 34 26 0,oE 35 26 1,o 5 (.alloc [.i .i64 0,.e Zc3]),oS 2 5 34,oM 6 35]
 (Rg [oM 36 6]
 (.cond 36 (Rg [oK 4 5]
 .ret)
 .skip)))
 (Rg [oM 37 0,o 38 (.nilc 37),oF 39 2 38,⟨some 40,.load false 1 39,none,true,false⟩,oF 41 0 3,⟨some 42,.load false 1 41,none,true,false⟩,oF 43 0 3,⟨some 44,.load false 1 43,none,true,false⟩,oF 45 1 3,oL 46 45,o 47 (.callN 308 [46] true),o 48 (.build [.i .i64 0,.e Zc3] [(0,1,44),(1,1,47)]),on (.mput (some .i64) I (cs [.l Zc3]) true 40 42 48)]
 (Rg [oM 49 0,oT 50 2 3,oC 51 362 [49,50],oC 52 361 [51],oM 7 52]
 (Rg [oM 54 0,o 55 (.nilc 54),oF 56 3 55,oL 57 56,oM 58 7,o 59 (.mget none (.l (cs [I])) (cs []) false false 57 58),oF 60 0 3,oL 61 60,oC 62 363 [59,61],oM 53 62,oE 63 53 0,oE 64 53 1,oM 8 63,oM 9 64]
 (.seq (.regN [4000000,1000000000008] [oM 65 0,o 66 (.nilc 65),oF 67 3 66,⟨some 68,.load false 1 67,none,true,false⟩,oM 69 7,oM 70 0,o 71 (.nilc 70),oF 72 3 71,oL 73 72,oM 74 7,o 75 (.mget none (.l (cs [I])) (cs []) false false 73 74),oM 76 8,oF 77 0 3,oL 78 77,o 79 (.bsl (cs [I]) 1 [(0,78)]),⟨some 80,.callF 364 [75,76,79],none,false,true⟩,on (.mput none (.l (cs [I])) (cs []) false 68 69 80)])
 (Rg [oK 4 0]
 .ret)))))))))⟩
def Yk6(lo:Lo):FnE:=Zfe 343 false (Zsg [0,1] [.ptr 0 0 0,.ag [.j,.l Zc3]] [.st [.j,.i .u32,.np 1,.np 2],.st [.j,.l Zc5,.b,.b],.fp none (cs [I])]) (.i .i64) [.st [.j,.i .u32,.np 1,.np 2],.st [.j,.l Zc5,.b,.b],.fp none (cs [I])] (fun x=>q21 lo x.1 x.2.1 x.2.2.1 x.2.2.2.1 x.2.2.2.2.1 x.2.2.2.2.2.1 x.2.2.2.2.2.2.1 x.2.2.2.2.2.2.2.1 x.2.2.2.2.2.2.2.2.1 x.2.2.2.2.2.2.2.2.2:Int×Zt0×Int×Int×Int×Zt2×Bool×Bool×Int×Zt1->Option Zp21)
def fs22(lo:Lo):List FnE:=Yk6 lo::fs21 lo
theorem Ys7(h:GZ P fm fs21 lo)(t:Ti P fm 343 Ys6):GZ P fm fs22 lo:=
  h.i (Yk6 lo) .n t
def q22_J9_b:VCode:=
 (.seq (Rg [oM 13 0,oR 14 .geq 13 (ki .u64 256)]
 (.cond 14 (Rg [oM 15 0,oR 16 .shr 15 (ki .u64 8),oM 0 16]
 (.reg [oM 17 2,oR 18 .add 17 (k 8),oM 2 18]))
 .skip))
 (Rg [oM 19 2,oM 20 0,o 21 (.conv .u8 20),o 22 (.idx (ks (⟨#[0,1,2,2,3,3,3,3,4,4,4,4,4,4,4,4,5,5,5,5,5,5,5,5,5,5,5,5,5,5,5,5,6,6,6,6,6,6,6,6,6,6,6,6,6,6,6,6,6,6,6,6,6,6,6,6,6,6,6,6,6,6,6,6,7,7,7,7,7,7,7,7,7,7,7,7,7,7,7,7,7,7,7,7,7,7,7,7,7,7,7,7,7,7,7,7,7,7,7,7,7,7,7,7,7,7,7,7,7,7,7,7,7,7,7,7,7,7,7,7,7,7,7,7,7,7,7,7,8,8,8,8,8,8,8,8,8,8,8,8,8,8,8,8,8,8,8,8,8,8,8,8,8,8,8,8,8,8,8,8,8,8,8,8,8,8,8,8,8,8,8,8,8,8,8,8,8,8,8,8,8,8,8,8,8,8,8,8,8,8,8,8,8,8,8,8,8,8,8,8,8,8,8,8,8,8,8,8,8,8,8,8,8,8,8,8,8,8,8,8,8,8,8,8,8,8,8,8,8,8,8,8,8,8,8,8,8,8,8,8,8,8,8,8,8,8,8,8,8,8,8,8,8,8,8,8]⟩)) 21),o 23 (.conv .i64 22),oR 24 .add 19 23,oM 2 24]
 (Fr 2)))
def Yc1(lo:Lo):Int×Int->Option Int:=fun x=>match x with
  | (x0,n2)=>bif(decide (256<=x0))then(chk (0<=(8:Int)) (chk (0<=(YAZ .u8 (x0.fdiv (2^(min (8:Int).toNat (IntKind.bits .u64)))))/\ (YAZ .u8 (x0.fdiv (2^(min (8:Int).toNat (IntKind.bits .u64)))))< ((YAY #[0,1,2,2,3,3,3,3,4,4,4,4,4,4,4,4,5,5,5,5,5,5,5,5,5,5,5,5,5,5,5,5,6,6,6,6,6,6,6,6,6,6,6,6,6,6,6,6,6,6,6,6,6,6,6,6,6,6,6,6,6,6,6,6,7,7,7,7,7,7,7,7,7,7,7,7,7,7,7,7,7,7,7,7,7,7,7,7,7,7,7,7,7,7,7,7,7,7,7,7,7,7,7,7,7,7,7,7,7,7,7,7,7,7,7,7,7,7,7,7,7,7,7,7,7,7,7,7,8,8,8,8,8,8,8,8,8,8,8,8,8,8,8,8,8,8,8,8,8,8,8,8,8,8,8,8,8,8,8,8,8,8,8,8,8,8,8,8,8,8,8,8,8,8,8,8,8,8,8,8,8,8,8,8,8,8,8,8,8,8,8,8,8,8,8,8,8,8,8,8,8,8,8,8,8,8,8,8,8,8,8,8,8,8,8,8,8,8,8,8,8,8,8,8,8,8,8,8,8,8,8,8,8,8,8,8,8,8,8,8,8,8,8,8,8,8,8,8,8,8,8,8,8,8,8,8]).size:Int)) (some (YAZ .i64 ((YAZ .i64 (n2+8))+(YAZ .i64 (YwD (YAY #[0,1,2,2,3,3,3,3,4,4,4,4,4,4,4,4,5,5,5,5,5,5,5,5,5,5,5,5,5,5,5,5,6,6,6,6,6,6,6,6,6,6,6,6,6,6,6,6,6,6,6,6,6,6,6,6,6,6,6,6,6,6,6,6,7,7,7,7,7,7,7,7,7,7,7,7,7,7,7,7,7,7,7,7,7,7,7,7,7,7,7,7,7,7,7,7,7,7,7,7,7,7,7,7,7,7,7,7,7,7,7,7,7,7,7,7,7,7,7,7,7,7,7,7,7,7,7,7,8,8,8,8,8,8,8,8,8,8,8,8,8,8,8,8,8,8,8,8,8,8,8,8,8,8,8,8,8,8,8,8,8,8,8,8,8,8,8,8,8,8,8,8,8,8,8,8,8,8,8,8,8,8,8,8,8,8,8,8,8,8,8,8,8,8,8,8,8,8,8,8,8,8,8,8,8,8,8,8,8,8,8,8,8,8,8,8,8,8,8,8,8,8,8,8,8,8,8,8,8,8,8,8,8,8,8,8,8,8,8,8,8,8,8,8,8,8,8,8,8,8,8,8,8,8,8,8]) (YAZ .u8 (x0.fdiv (2^(min (8:Int).toNat (IntKind.bits .u64))))))))))))else(chk (0<=(YAZ .u8 x0)/\ (YAZ .u8 x0)< ((YAY #[0,1,2,2,3,3,3,3,4,4,4,4,4,4,4,4,5,5,5,5,5,5,5,5,5,5,5,5,5,5,5,5,6,6,6,6,6,6,6,6,6,6,6,6,6,6,6,6,6,6,6,6,6,6,6,6,6,6,6,6,6,6,6,6,7,7,7,7,7,7,7,7,7,7,7,7,7,7,7,7,7,7,7,7,7,7,7,7,7,7,7,7,7,7,7,7,7,7,7,7,7,7,7,7,7,7,7,7,7,7,7,7,7,7,7,7,7,7,7,7,7,7,7,7,7,7,7,7,8,8,8,8,8,8,8,8,8,8,8,8,8,8,8,8,8,8,8,8,8,8,8,8,8,8,8,8,8,8,8,8,8,8,8,8,8,8,8,8,8,8,8,8,8,8,8,8,8,8,8,8,8,8,8,8,8,8,8,8,8,8,8,8,8,8,8,8,8,8,8,8,8,8,8,8,8,8,8,8,8,8,8,8,8,8,8,8,8,8,8,8,8,8,8,8,8,8,8,8,8,8,8,8,8,8,8,8,8,8,8,8,8,8,8,8,8,8,8,8,8,8,8,8,8,8,8,8]).size:Int)) (some (YAZ .i64 (n2+(YAZ .i64 (YwD (YAY #[0,1,2,2,3,3,3,3,4,4,4,4,4,4,4,4,5,5,5,5,5,5,5,5,5,5,5,5,5,5,5,5,6,6,6,6,6,6,6,6,6,6,6,6,6,6,6,6,6,6,6,6,6,6,6,6,6,6,6,6,6,6,6,6,7,7,7,7,7,7,7,7,7,7,7,7,7,7,7,7,7,7,7,7,7,7,7,7,7,7,7,7,7,7,7,7,7,7,7,7,7,7,7,7,7,7,7,7,7,7,7,7,7,7,7,7,7,7,7,7,7,7,7,7,7,7,7,7,8,8,8,8,8,8,8,8,8,8,8,8,8,8,8,8,8,8,8,8,8,8,8,8,8,8,8,8,8,8,8,8,8,8,8,8,8,8,8,8,8,8,8,8,8,8,8,8,8,8,8,8,8,8,8,8,8,8,8,8,8,8,8,8,8,8,8,8,8,8,8,8,8,8,8,8,8,8,8,8,8,8,8,8,8,8,8,8,8,8,8,8,8,8,8,8,8,8,8,8,8,8,8,8,8,8,8,8,8,8,8,8,8,8,8,8,8,8,8,8,8,8,8,8,8,8,8,8]) (YAZ .u8 x0)))))))
def Ys8(lo:Lo):LpE:=⟨9,[],(Zsg [0,2] [.i .u64,.j] []),[⟨.ret,(Zsg [2] [.j] [])⟩],Yc1 lo⟩
def Ys9(lo:Lo):LL:=(Ys8 lo,q22_J9_b.er)::[]
theorem Yta(lo:Lo):Lk lo pf (fs22 lo) 0 (Ys9 lo):=.j .n
def q22(lo:Lo)(x0:Int):Option Int:=
  bif(decide (4294967296<=x0))then(chk (0<=(32:Int)) (bif(decide ((65536:Int)<=(x0.fdiv (2^(min (32:Int).toNat (IntKind.bits .u64))))))then(chk (0<=(16:Int)) (YAF (Yc1 lo (((x0.fdiv (2^(min (32:Int).toNat (IntKind.bits .u64)))).fdiv (2^(min (16:Int).toNat (IntKind.bits .u64)))),(YAZ .i64 ((32:Int)+(16:Int))))) fun y41=>some y41))else(YAF (Yc1 lo ((x0.fdiv (2^(min (32:Int).toNat (IntKind.bits .u64)))),(32:Int))) fun y42=>some y42)))else(bif(decide (65536<=x0))then(chk (0<=(16:Int)) (YAF (Yc1 lo ((x0.fdiv (2^(min (16:Int).toNat (IntKind.bits .u64)))),(YAZ .i64 ((0:Int)+(16:Int))))) fun y43=>some y43))else(YAF (Yc1 lo (x0,(0:Int))) fun y44=>some y44))
def Ytb:VFn:=⟨true,25,[.t 2],
 (Rg [oK 2 0]
 (.seq (Rg [oM 3 0,oR 4 .geq 3 (ki .u64 4294967296)]
 (.cond 4 (Rg [oM 5 0,oR 6 .shr 5 (ki .u64 32),oM 0 6]
 (.reg [oK 2 32]))
 .skip))
 (.seq (Rg [oM 7 0,oR 8 .geq 7 (ki .u64 65536)]
 (.cond 8 (Rg [oM 9 0,oR 10 .shr 9 (ki .u64 16),oM 0 10]
 (.reg [oM 11 2,oR 12 .add 11 (k 16),oM 2 12]))
 .skip))
 (.jn 9 q22_J9_b))))⟩
def Yk7(lo:Lo):FnE:=Zfe 187 true (Zsg [0] [.i .u64] []) (.i .i64) [] (fun x=>q22 lo x:Int->Option Int)
def fs23(lo:Lo):List FnE:=Yk7 lo::fs22 lo
theorem Ytc(h:GZ P fm fs22 lo)(t:Ti P fm 187 Ytb):GZ P fm fs23 lo:=
  h.p (Yk7 lo) (Yta lo) t
def q23(lo:Lo)(x0:Int):Option Int:=
  YAF (q22 lo x0) fun y45=>some y45
def Ytd:VFn:=⟨true,8,[.t 2],
 (Rg [oK 2 0]
 (.seq (.cond (kb false) (Rg [oM 3 0,o 4 (.conv .u32 3),oC 5 186 [4],oM 2 5]
 (Fr 2))
 .skip)
 (Rg [oM 6 0,oC 7 187 [6],oM 2 7]
 (Fr 2))))⟩
def Yk8(lo:Lo):FnE:=Zfe 163 true (Zsg [0] [.i .u64] []) (.i .i64) [] (fun x=>q23 lo x:Int->Option Int)
def fs24(lo:Lo):List FnE:=Yk8 lo::fs23 lo
theorem Yte(h:GZ P fm fs23 lo)(t:Ti P fm 163 Ytd):GZ P fm fs24 lo:=
  h.p (Yk8 lo) .n t
end Go.Abs.G35
namespace Go.Abs.G35
open Go Go.Abs
set_option maxRecDepth 100000
set_option maxHeartbeats 1000000
variable{P:Program}{fm:FM}{lo:Lo}
def q24(lo:Lo)(x0:ByteArray):Option Bool:=
  some (!decide (x0=x0))
def Ytf:VFn:=⟨true,6,[.t 2],
 (Rg [oB 2 false]
 (Rg [oM 3 0,oM 4 0,oR 5 .neq 3 4,oM 2 5]
 (Fr 2)))⟩
def Yk9(lo:Lo):FnE:=Zfe 325 true (Zsg [0] [.s] []) .b [] (fun x=>q24 lo x:ByteArray->Option Bool)
def fs25(lo:Lo):List FnE:=Yk9 lo::fs24 lo
theorem Ytg(h:GZ P fm fs24 lo)(t:Ti P fm 325 Ytf):GZ P fm fs25 lo:=
  h.p (Yk9 lo) .n t
def q25(lo:Lo)(x0:ByteArray)(y1:ByteArray):Option Bool:=
  YAF (q24 lo x0) fun y47=>bif y47 then(YAF (q24 lo y1) fun y48=>bif(!y48)then(some true)else(some (Op.bytesLess x0.toList y1.toList)))else(some (Op.bytesLess x0.toList y1.toList))
def Yth:VFn:=⟨true,17,[.t 4],
 (Rg [oB 4 false]
 (Rg [oM 5 0,oC 6 325 [5],oM 7 6,gT 8 7 (.mv 1),gT 9 7 (.call 325 [8]),gT 10 7 (.not 9),oP 11 7 10 (kb false),oM 12 11,gF 13 12 (.mv 0),gF 14 12 (.mv 1),gF 15 12 (.bin .lss 13 14),oP 16 12 (kb true) 15,oM 4 16]
 (Fr 4)))⟩
def Yla(lo:Lo):FnE:=Zfe 317 true (Zsg [0,1] [.s,.s] []) .b [] (fun x=>q25 lo x.1 x.2:ByteArray×ByteArray->Option Bool)
def fs26(lo:Lo):List FnE:=Yla lo::fs25 lo
theorem Yti(h:GZ P fm fs25 lo)(t:Ti P fm 317 Yth):GZ P fm fs26 lo:=
  h.p (Yla lo) .n t
def q26_L3_b:VCode:=
 (.seq (Rg [oM 16 7,oM 17 1,oR 18 .gtr 16 17,oM 19 18,gT 20 19 (.mv 0),gT 21 19 (.mv 7),gT 22 19 (.iad 1 20 21),gT 23 19 (.load false 1 22),gT 24 19 (.mv 0),gT 25 19 (.mv 7),gT 26 19 (.bin .sub 25 (k 1)),gT 27 19 (.iad 1 24 26),gT 28 19 (.load false 1 27),gT 29 19 (.call 317 [23,28]),oP 30 19 29 (kb false)]
 (Ce 30 2))
 (.seq (.blk 3 (.reg [oM 33 0,oM 34 7,oM 35 0,oM 36 7,oR 37 .sub 36 (k 1),oM 38 0,oM 39 7,oR 40 .sub 39 (k 1),oI 41 1 38 40,oL 42 41,oM 43 0,oM 44 7,oI 45 1 43 44,oL 46 45,oI 47 1 33 34,oS 1 47 42,oI 48 1 35 37,oS 1 48 46]))
 (.reg [oM 31 7,oR 32 .sub 31 (k 1),oM 7 32])))
def Ylb(lo:Lo):Int×Int×Int×Int×Zt4->Option ((Int×Int×Int×Int×Zt4)⊕ ((Int×Int×Int×Zt4))):=fun x=>match x with
  | (a1,b2,i6,j7,data0)=>bif(decide (a1<j7))then(chk (0<=j7/\j7< (data0.length:Int)) (chk (0<=(YAZ .i64 (j7-1))/\ (YAZ .i64 (j7-1))< (data0.length:Int)) (YAF (q25 lo (data0.getD j7.toNat (YAY #[])) (data0.getD ((YAZ .i64 (j7-1)).toNat) (YAY #[]))) fun y49=>bif y49 then(chk (0<=(YAZ .i64 (j7-1))/\ (YAZ .i64 (j7-1))< (data0.length:Int)) (chk (0<=j7/\j7< (data0.length:Int)) (chk (0<=j7/\j7< (data0.length:Int)) (chk (0<=(YAZ .i64 (j7-1))/\ (YAZ .i64 (j7-1))< ((data0.set j7.toNat (data0.getD ((YAZ .i64 (j7-1)).toNat) (YAY #[]))).length:Int)) (some (.inl (a1,b2,i6,(YAZ .i64 (j7-1)),((data0.set j7.toNat (data0.getD ((YAZ .i64 (j7-1)).toNat) (YAY #[]))).set ((YAZ .i64 (j7-1)).toNat) (data0.getD j7.toNat (YAY #[]))))))))))else(some (.inr (a1,b2,i6,data0))))))else(some (.inr (a1,b2,i6,data0)))
def Ylc(lo:Lo):Int×Int×Int×Int×Zt4->Option ((Int×Int×Int×Zt4)):=lo.run (Ylb lo)
def Ytj(lo:Lo):LpE:=⟨3,[],(Zsg [0,1,2,6,7] [.ref 0,.j,.j,.j,.j] [.sq (cs [.s])]),[⟨.exit 2,(Zsg [0,1,2,6] [.ref 0,.j,.j,.j] [.sq (cs [.s])])⟩],Ylc lo⟩
def Yld(lo:Lo):LL:=(Ytj lo,.loop q26_L3_b.er)::[]
theorem Ytk(lo:Lo):Lk lo pf (fs26 lo) 1 (Yld lo):=.l .n (Ylb lo)
def q26_L1_b:VCode:=
 (.seq (Rg [oM 10 6,oM 11 2,oR 12 .lss 10 11]
 (Ce 12 0))
 (.seq (.blk 1 (Rg [oM 15 6,oM 7 15]
 (.blk 2 (.loop 3 q26_L3_b))))
 (.reg [oM 13 6,oR 14 .add 13 (k 1),oM 6 14])))
def Yle(lo:Lo):Int×Int×Int×Zt4->Option ((Int×Int×Int×Zt4)⊕ ((Zt4))):=fun x=>match x with
  | (a1,b2,i6,data0)=>bif(decide (i6<b2))then(YAF (Ylc lo (a1,b2,i6,i6,data0)) fun y50=>some (.inl (y50.1,y50.2.1,(YAZ .i64 (y50.2.2.1+(1:Int))),y50.2.2.2)))else(some (.inr data0))
def Ylf(lo:Lo):Int×Int×Int×Zt4->Option ((Zt4)):=lo.run (Yle lo)
def Ytl(lo:Lo):LpE:=⟨1,[],(Zsg [0,1,2,6] [.ref 0,.j,.j,.j] [.sq (cs [.s])]),[⟨.exit 0,(Zsg [] [] [.sq (cs [.s])])⟩],Ylf lo⟩
def Ytm(lo:Lo):LL:=(Ytl lo,.loop q26_L1_b.er)::Yld lo
theorem Ytn(lo:Lo):Lk lo pf (fs26 lo) 1 (Ytm lo):=.l (Ytk lo) (Yle lo)
def q26(lo:Lo)(a1:Int)(b2:Int)(data0:List ByteArray):Option (Zt4):=
  YAF (Ylf lo (a1,b2,(YAZ .i64 (a1+1)),data0)) fun y51=>some y51
def Yto:VFn:=⟨true,49,[],
 (Rg [oM 8 1,oR 9 .add 8 (k 1),oM 6 9]
 (.blk 0 (.loop 1 q26_L1_b)))⟩
def Ylg(lo:Lo):FnE:=Zfe 311 false (Zsg [0,1,2] [.ref 0,.j,.j] [.sq (cs [.s])]) (.tp []) [.sq (cs [.s])] (fun x=>q26 lo x.1 x.2.1 x.2.2:Int×Int×Zt4->Option (Zt4))
def fs27(lo:Lo):List FnE:=Ylg lo::fs26 lo
theorem Ytp(h:GZ P fm fs26 lo)(t:Ti P fm 311 Yto):GZ P fm fs27 lo:=
  h.i (Ylg lo) (Ytn lo) t
def q27(lo:Lo)(x0:Int)(x1:Int)(x2:List ByteArray):Option (Zt4):=none
def Ylh(lo:Lo):FnE:=Zfe 312 false (Zsg [0,1,2] [.ref 0,.j,.j] [.sq (cs [.s])]) (.tp []) [.sq (cs [.s])] (fun x=>q27 lo x.1 x.2.1 x.2.2:Int×Int×Zt4->Option (Zt4))
def fs28(lo:Lo):List FnE:=Ylh lo::fs27 lo
theorem Ytq(h:GZ P fm fs27 lo)(hN:True):GZ P fm fs28 lo:=
  ⟨h.1,h.2,YaK h.S (Ylh lo) (fun _=>rfl)⟩
def q28(lo:Lo)(x0:Int)(x1:Int)(x2:List ByteArray):Option (Zt4):=none
def Yli(lo:Lo):FnE:=Zfe 313 false (Zsg [0,1,2] [.ref 0,.j,.j] [.sq (cs [.s])]) (.tp []) [.sq (cs [.s])] (fun x=>q28 lo x.1 x.2.1 x.2.2:Int×Int×Zt4->Option (Zt4))
def fs29(lo:Lo):List FnE:=Yli lo::fs28 lo
theorem Ytr(h:GZ P fm fs28 lo)(hN:True):GZ P fm fs29 lo:=
  ⟨h.1,h.2,YaK h.S (Yli lo) (fun _=>rfl)⟩
def q29(lo:Lo)(x0:List ByteArray)(x1:Int)(x2:Int):Option (Int×Int):=none
def Ylj(lo:Lo):FnE:=Zfe 314 true (Zsg [0,1,2] [.l (cs [.s]),.j,.j] []) (.tp [.j,.j]) [] (fun x=>q29 lo x.1 x.2.1 x.2.2:Zt4×Int×Int->Option (Int×Int))
def fs30(lo:Lo):List FnE:=Ylj lo::fs29 lo
theorem Yts(h:GZ P fm fs29 lo)(hN:True):GZ P fm fs30 lo:=
  ⟨h.1,h.2,YaK h.S (Ylj lo) (fun _=>rfl)⟩
def q30(lo:Lo)(x0:Int)(x1:Int)(x2:List ByteArray):Option (Zt4):=none
def Ylk(lo:Lo):FnE:=Zfe 315 false (Zsg [0,1,2] [.ref 0,.j,.j] [.sq (cs [.s])]) (.tp []) [.sq (cs [.s])] (fun x=>q30 lo x.1 x.2.1 x.2.2:Int×Int×Zt4->Option (Zt4))
def fs31(lo:Lo):List FnE:=Ylk lo::fs30 lo
theorem Ytt(h:GZ P fm fs30 lo)(hN:True):GZ P fm fs31 lo:=
  ⟨h.1,h.2,YaK h.S (Ylk lo) (fun _=>rfl)⟩
def q31(lo:Lo)(x0:Int)(x1:Int)(x2:List ByteArray):Option (Bool×Zt4):=none
def Yll(lo:Lo):FnE:=Zfe 316 false (Zsg [0,1,2] [.ref 0,.j,.j] [.sq (cs [.s])]) .b [.sq (cs [.s])] (fun x=>q31 lo x.1 x.2.1 x.2.2:Int×Int×Zt4->Option (Bool×Zt4))
def fs32(lo:Lo):List FnE:=Yll lo::fs31 lo
theorem Ytu(h:GZ P fm fs31 lo)(hN:True):GZ P fm fs32 lo:=
  ⟨h.1,h.2,YaK h.S (Yll lo) (fun _=>rfl)⟩
def q32(lo:Lo)(x0:Int)(x1:Int)(x2:Int)(x3:List ByteArray):Option (Int×Zt4):=none
def Ylm(lo:Lo):FnE:=Zfe 318 false (Zsg [0,1,2,3] [.ref 0,.j,.j,.j] [.sq (cs [.s])]) (.i .i64) [.sq (cs [.s])] (fun x=>q32 lo x.1 x.2.1 x.2.2.1 x.2.2.2:Int×Int×Int×Zt4->Option (Int×Zt4))
def fs33(lo:Lo):List FnE:=Ylm lo::fs32 lo
theorem Ytv(h:GZ P fm fs32 lo)(hN:True):GZ P fm fs33 lo:=
  ⟨h.1,h.2,YaK h.S (Ylm lo) (fun _=>rfl)⟩
def q33(lo:Lo)(x0:Int)(x1:Int)(x2:Int)(x3:List ByteArray):Option (Int×Bool×Zt4):=none
def Yln(lo:Lo):FnE:=Zfe 319 false (Zsg [0,1,2,3] [.ref 0,.j,.j,.j] [.sq (cs [.s])]) (.tp [.j,.b]) [.sq (cs [.s])] (fun x=>q33 lo x.1 x.2.1 x.2.2.1 x.2.2.2:Int×Int×Int×Zt4->Option (Int×Bool×Zt4))
def fs34(lo:Lo):List FnE:=Yln lo::fs33 lo
theorem Ytw(h:GZ P fm fs33 lo)(hN:True):GZ P fm fs34 lo:=
  ⟨h.1,h.2,YaK h.S (Yln lo) (fun _=>rfl)⟩
def Yc2(F:Int×Int×Int×Zt4->Option (Zt4)):FnE:=⟨301,false,(Zsg [0,1,2,3] [.ref 0,.j,.j,.j] [.sq (cs [.s])]),.tp [],[.sq (cs [.s])],(cs [.l (cs [.s])]),F⟩
def q34_J20_b:VCode:=
 (.seq (Rg [oM 73 1,oR 74 .gtr 73 (k 0),oM 75 74,gT 76 75 (.mv 0),gT 77 75 (.mv 1),gT 78 75 (.bin .sub 77 (k 1)),gT 79 75 (.iad 1 76 78),gT 80 75 (.load false 1 79),gT 81 75 (.mv 0),gT 82 75 (.mv 11),gT 83 75 (.iad 1 81 82),gT 84 75 (.load false 1 83),gT 85 75 (.call 317 [80,84]),gT 86 75 (.not 85),oP 87 75 86 (kb false)]
 (.cond 87 (Rg [oM 88 0,oM 89 1,oM 90 2,oM 91 11,oC 92 318 [88,89,90,91],oM 13 92]
 (Rg [oM 93 13,oM 1 93]
 (.exit 1)))
 .skip))
 (Rg [oM 95 0,oM 96 1,oM 97 2,oM 98 11,oC 99 319 [95,96,97,98],oM 94 99,oE 100 94 0,oE 101 94 1,oM 14 100,oM 15 101]
 (Rg [oM 102 15,oM 9 102]
 (Rg [oM 103 14,oM 104 1,oR 105 .sub 103 104,oM 106 2,oM 107 14,oR 108 .sub 106 107,oM 16 105,oM 17 108]
 (Rg [oM 109 10,oR 110 .quo 109 (k 8),oM 18 110]
 (Rg [oM 111 16,oM 112 17,oR 113 .lss 111 112]
 (.cond 113 (Rg [oM 114 16,oM 115 18,oR 116 .geq 114 115,oM 8 116]
 (Rg [oM 117 0,oM 118 1,oM 119 14,oM 120 3,oC 121 301 [117,118,119,120]]
 (.reg [oM 122 14,oR 123 .add 122 (k 1),oM 1 123])))
 (Rg [oM 124 17,oM 125 18,oR 126 .geq 124 125,oM 8 126]
 (Rg [oM 127 0,oM 128 14,oR 129 .add 128 (k 1),oM 130 2,oM 131 3,oC 132 301 [127,129,130,131]]
 (.reg [oM 133 14,oM 2 133]))))))))))
def Yc3(lo:Lo)(rec:Int×Int×Int×Zt4->Option (Zt4)):Int×Int×Int×Bool×Bool×Int×Int×Zt4->Option (Zp25⊕Zp25):=fun x=>match x with
  | (a1,b2,limit3,wasBalanced8,wasPartitioned9,length10,pivot11,data0)=>bif(decide (0<a1))then(chk (0<=(YAZ .i64 (a1-1))/\ (YAZ .i64 (a1-1))< (data0.length:Int)) (chk (0<=pivot11/\pivot11< (data0.length:Int)) (YAF (q25 lo (data0.getD ((YAZ .i64 (a1-1)).toNat) (YAY #[])) (data0.getD pivot11.toNat (YAY #[]))) fun y58=>bif(!y58)then(YAF (q32 lo a1 b2 pivot11 data0) fun y59=>chk (y59.2.length=data0.length) (some (.inl (y59.1,b2,limit3,wasBalanced8,wasPartitioned9,y59.2))))else(YAF (q33 lo a1 b2 pivot11 data0) fun y60=>chk (y60.2.2.length=data0.length) (chk ((8:Int)≠0) (bif(decide ((YAZ .i64 (y60.1-a1))< (YAZ .i64 (b2-y60.1))))then(YAF (rec (a1,y60.1,limit3,y60.2.2)) fun y61=>chk (y61.length=y60.2.2.length) (some (.inr ((YAZ .i64 (y60.1+(1:Int))),b2,limit3,(decide ((YAZ .i64 (length10.tdiv (8:Int)))<=(YAZ .i64 (y60.1-a1)))),y60.2.1,y61))))else(YAF (rec ((YAZ .i64 (y60.1+(1:Int))),b2,limit3,y60.2.2)) fun y62=>chk (y62.length=y60.2.2.length) (some (.inr (a1,y60.1,limit3,(decide ((YAZ .i64 (length10.tdiv (8:Int)))<=(YAZ .i64 (b2-y60.1)))),y60.2.1,y62))))))))))else(YAF (q33 lo a1 b2 pivot11 data0) fun y63=>chk (y63.2.2.length=data0.length) (chk ((8:Int)≠0) (bif(decide ((YAZ .i64 (y63.1-a1))< (YAZ .i64 (b2-y63.1))))then(YAF (rec (a1,y63.1,limit3,y63.2.2)) fun y64=>chk (y64.length=y63.2.2.length) (some (.inr ((YAZ .i64 (y63.1+(1:Int))),b2,limit3,(decide ((YAZ .i64 (length10.tdiv (8:Int)))<=(YAZ .i64 (y63.1-a1)))),y63.2.1,y64))))else(YAF (rec ((YAZ .i64 (y63.1+(1:Int))),b2,limit3,y63.2.2)) fun y65=>chk (y65.length=y63.2.2.length) (some (.inr (a1,y63.1,limit3,(decide ((YAZ .i64 (length10.tdiv (8:Int)))<=(YAZ .i64 (b2-y63.1)))),y63.2.1,y65)))))))
def Ytx(lo:Lo)(rec:Int×Int×Int×Zt4->Option (Zt4)):LpE:=⟨20,[],(Zsg [0,1,2,3,8,9,10,11] [.ref 0,.j,.j,.j,.b,.b,.j,.j] [.sq (cs [.s])]),[⟨.exit 1,(Zsg [0,1,2,3,8,9] [.ref 0,.j,.j,.j,.b,.b] [.sq (cs [.s])])⟩,⟨.nor,(Zsg [0,1,2,3,8,9] [.ref 0,.j,.j,.j,.b,.b] [.sq (cs [.s])])⟩],Yc3 lo rec⟩
def Ylo(lo:Lo)(rec:Int×Int×Int×Zt4->Option (Zt4)):LL:=(Ytx lo rec,q34_J20_b.er)::[]
theorem Yty(lo:Lo)(rec:Int×Int×Int×Zt4->Option (Zt4)):Lk lo pf (Yc2 rec::fs34 lo) 1 (Ylo lo rec):=.j .n
def q34_J25_b:VCode:=
 (.seq (Rg [oM 61 8,oM 62 61,gT 63 62 (.mv 9),oP 64 62 63 (kb false),oM 65 64,gT 66 65 (.mv 12),gT 67 65 (.bin .eql 66 (k 1)),oP 68 65 67 (kb false)]
 (.cond 68 (Rg [oM 69 0,oM 70 1,oM 71 2,oC 72 316 [69,70,71]]
 (.cond 72 .ret
 .skip))
 .skip))
 (.jn 20 q34_J20_b))
def Ygr(lo:Lo)(rec:Int×Int×Int×Zt4->Option (Zt4)):Int×Int×Int×Bool×Bool×Int×Int×Int×Zt4->Option ((Zt4)⊕Zp25⊕Zp25):=fun x=>match x with
  | (a1,b2,limit3,wasBalanced8,wasPartitioned9,length10,pivot11,hint12,data0)=>bif wasBalanced8 then(bif wasPartitioned9 then(bif(decide (hint12=1))then(YAF (q31 lo a1 b2 data0) fun y57=>chk (y57.2.length=data0.length) (bif y57.1 then(some (.inl y57.2))else(YAF (Yc3 lo rec (a1,b2,limit3,wasBalanced8,wasPartitioned9,length10,pivot11,y57.2)) fun y66=>alt2 y66 (fun y67=>some (.inr (.inl (y67.1,y67.2.1,y67.2.2.1,y67.2.2.2.1,y67.2.2.2.2.1,y67.2.2.2.2.2)))) (fun y68=>some (.inr (.inr (y68.1,y68.2.1,y68.2.2.1,y68.2.2.2.1,y68.2.2.2.2.1,y68.2.2.2.2.2)))))))else(YAF (Yc3 lo rec (a1,b2,limit3,wasBalanced8,wasPartitioned9,length10,pivot11,data0)) fun y69=>alt2 y69 (fun y70=>some (.inr (.inl (y70.1,y70.2.1,y70.2.2.1,y70.2.2.2.1,y70.2.2.2.2.1,y70.2.2.2.2.2)))) (fun y71=>some (.inr (.inr (y71.1,y71.2.1,y71.2.2.1,y71.2.2.2.1,y71.2.2.2.2.1,y71.2.2.2.2.2))))))else(YAF (Yc3 lo rec (a1,b2,limit3,wasBalanced8,wasPartitioned9,length10,pivot11,data0)) fun y72=>alt2 y72 (fun y73=>some (.inr (.inl (y73.1,y73.2.1,y73.2.2.1,y73.2.2.2.1,y73.2.2.2.2.1,y73.2.2.2.2.2)))) (fun y74=>some (.inr (.inr (y74.1,y74.2.1,y74.2.2.1,y74.2.2.2.1,y74.2.2.2.2.1,y74.2.2.2.2.2))))))else(YAF (Yc3 lo rec (a1,b2,limit3,wasBalanced8,wasPartitioned9,length10,pivot11,data0)) fun y75=>alt2 y75 (fun y76=>some (.inr (.inl (y76.1,y76.2.1,y76.2.2.1,y76.2.2.2.1,y76.2.2.2.2.1,y76.2.2.2.2.2)))) (fun y77=>some (.inr (.inr (y77.1,y77.2.1,y77.2.2.1,y77.2.2.2.1,y77.2.2.2.2.1,y77.2.2.2.2.2)))))
def Ytz(lo:Lo)(rec:Int×Int×Int×Zt4->Option (Zt4)):LpE:=⟨25,[],(Zsg [0,1,2,3,8,9,10,11,12] [.ref 0,.j,.j,.j,.b,.b,.j,.j,.j] [.sq (cs [.s])]),[⟨.ret,(Zsg [] [] [.sq (cs [.s])])⟩,⟨.exit 1,(Zsg [0,1,2,3,8,9] [.ref 0,.j,.j,.j,.b,.b] [.sq (cs [.s])])⟩,⟨.nor,(Zsg [0,1,2,3,8,9] [.ref 0,.j,.j,.j,.b,.b] [.sq (cs [.s])])⟩],Ygr lo rec⟩
def Ylp(lo:Lo)(rec:Int×Int×Int×Zt4->Option (Zt4)):LL:=(Ytz lo rec,q34_J25_b.er)::Ylo lo rec
theorem YtA(lo:Lo)(rec:Int×Int×Int×Zt4->Option (Zt4)):Lk lo pf (Yc2 rec::fs34 lo) 1 (Ylp lo rec):=.j (Yty lo rec)
def q34_J30_b:VCode:=
 (Rg [oM 43 0,oM 44 1,oM 45 2,oC 46 314 [43,44,45],oM 42 46,oE 47 42 0,oE 48 42 1,oM 11 47,oM 12 48]
 (.seq (Rg [oM 49 12,oR 50 .eql 49 (k 2)]
 (.cond 50 (Rg [oM 51 0,oM 52 1,oM 53 2,oC 54 315 [51,52,53]]
 (Rg [oM 55 2,oR 56 .sub 55 (k 1),oM 57 11,oM 58 1,oR 59 .sub 57 58,oR 60 .sub 56 59,oM 11 60]
 (.reg [oK 12 1])))
 .skip))
 (.jn 25 q34_J25_b)))
def Ygs(lo:Lo)(rec:Int×Int×Int×Zt4->Option (Zt4)):Int×Int×Int×Bool×Bool×Int×Zt4->Option ((Zt4)⊕Zp25⊕Zp25):=fun x=>match x with
  | (a1,b2,limit3,wasBalanced8,wasPartitioned9,length10,data0)=>YAF (q29 lo data0 a1 b2) fun y55=>bif(decide (y55.2=(2:Int)))then(YAF (q30 lo a1 b2 data0) fun y56=>chk (y56.length=data0.length) (YAF (Ygr lo rec (a1,b2,limit3,wasBalanced8,wasPartitioned9,length10,(YAZ .i64 ((YAZ .i64 (b2-1))-(YAZ .i64 (y55.1-a1)))),(1:Int),y56)) fun y78=>alt2 y78 (fun y79=>some (.inl y79)) (fun y80=>alt2 y80 (fun y81=>some (.inr (.inl (y81.1,y81.2.1,y81.2.2.1,y81.2.2.2.1,y81.2.2.2.2.1,y81.2.2.2.2.2)))) (fun y82=>some (.inr (.inr (y82.1,y82.2.1,y82.2.2.1,y82.2.2.2.1,y82.2.2.2.2.1,y82.2.2.2.2.2)))))))else(YAF (Ygr lo rec (a1,b2,limit3,wasBalanced8,wasPartitioned9,length10,y55.1,y55.2,data0)) fun y83=>alt2 y83 (fun y84=>some (.inl y84)) (fun y85=>alt2 y85 (fun y86=>some (.inr (.inl (y86.1,y86.2.1,y86.2.2.1,y86.2.2.2.1,y86.2.2.2.2.1,y86.2.2.2.2.2)))) (fun y87=>some (.inr (.inr (y87.1,y87.2.1,y87.2.2.1,y87.2.2.2.1,y87.2.2.2.2.1,y87.2.2.2.2.2))))))
def YtB(lo:Lo)(rec:Int×Int×Int×Zt4->Option (Zt4)):LpE:=⟨30,[],(Zsg [0,1,2,3,8,9,10] [.ref 0,.j,.j,.j,.b,.b,.j] [.sq (cs [.s])]),[⟨.ret,(Zsg [] [] [.sq (cs [.s])])⟩,⟨.exit 1,(Zsg [0,1,2,3,8,9] [.ref 0,.j,.j,.j,.b,.b] [.sq (cs [.s])])⟩,⟨.nor,(Zsg [0,1,2,3,8,9] [.ref 0,.j,.j,.j,.b,.b] [.sq (cs [.s])])⟩],Ygs lo rec⟩
def Ylq(lo:Lo)(rec:Int×Int×Int×Zt4->Option (Zt4)):LL:=(YtB lo rec,q34_J30_b.er)::Ylp lo rec
theorem YtC(lo:Lo)(rec:Int×Int×Int×Zt4->Option (Zt4)):Lk lo pf (Yc2 rec::fs34 lo) 1 (Ylq lo rec):=.j (YtA lo rec)
def q34_L1_b:VCode:=
 (.blk 1 (Rg [oM 19 2,oM 20 1,oR 21 .sub 19 20,oM 10 21]
 (.seq (Rg [oM 22 10,oR 23 .leq 22 (k 12)]
 (.cond 23 (Rg [oM 24 0,oM 25 1,oM 26 2,oC 27 311 [24,25,26]]
 .ret)
 .skip))
 (.seq (Rg [oM 28 3,oR 29 .eql 28 (k 0)]
 (.cond 29 (Rg [oM 30 0,oM 31 1,oM 32 2,oC 33 312 [30,31,32]]
 .ret)
 .skip))
 (.seq (Rg [oM 34 8,oX 35 34]
 (.cond 35 (Rg [oM 36 0,oM 37 1,oM 38 2,oC 39 313 [36,37,38]]
 (.reg [oM 40 3,oR 41 .sub 40 (k 1),oM 3 41]))
 .skip))
 (.jn 30 q34_J30_b))))))
def Ylr(lo:Lo)(rec:Int×Int×Int×Zt4->Option (Zt4)):Zp25->Option (Zp25⊕ ((Zt4))):=fun x=>match x with
  | (a1,b2,limit3,wasBalanced8,wasPartitioned9,data0)=>bif(decide ((YAZ .i64 (b2-a1))<=(12:Int)))then(YAF (q26 lo a1 b2 data0) fun y52=>chk (y52.length=data0.length) (some (.inr y52)))else(bif(decide (limit3=0))then(YAF (q27 lo a1 b2 data0) fun y53=>chk (y53.length=data0.length) (some (.inr y53)))else(bif(!wasBalanced8)then(YAF (q28 lo a1 b2 data0) fun y54=>chk (y54.length=data0.length) (YAF (Ygs lo rec (a1,b2,(YAZ .i64 (limit3-1)),wasBalanced8,wasPartitioned9,(YAZ .i64 (b2-a1)),y54)) fun y88=>alt2 y88 (fun y89=>some (.inr y89)) (fun y90=>alt2 y90 (fun y91=>some (.inl (y91.1,y91.2.1,y91.2.2.1,y91.2.2.2.1,y91.2.2.2.2.1,y91.2.2.2.2.2))) (fun y92=>some (.inl (y92.1,y92.2.1,y92.2.2.1,y92.2.2.2.1,y92.2.2.2.2.1,y92.2.2.2.2.2))))))else(YAF (Ygs lo rec (a1,b2,limit3,wasBalanced8,wasPartitioned9,(YAZ .i64 (b2-a1)),data0)) fun y93=>alt2 y93 (fun y94=>some (.inr y94)) (fun y95=>alt2 y95 (fun y96=>some (.inl (y96.1,y96.2.1,y96.2.2.1,y96.2.2.2.1,y96.2.2.2.2.1,y96.2.2.2.2.2))) (fun y97=>some (.inl (y97.1,y97.2.1,y97.2.2.1,y97.2.2.2.1,y97.2.2.2.2.1,y97.2.2.2.2.2)))))))
def Yls(lo:Lo)(rec:Int×Int×Int×Zt4->Option (Zt4)):Zp25->Option ((Zt4)):=lo.run (Ylr lo rec)
def YtD(lo:Lo)(rec:Int×Int×Int×Zt4->Option (Zt4)):LpE:=⟨1,[],(Zsg [0,1,2,3,8,9] [.ref 0,.j,.j,.j,.b,.b] [.sq (cs [.s])]),[⟨.ret,(Zsg [] [] [.sq (cs [.s])])⟩],Yls lo rec⟩
def Ylt(lo:Lo)(rec:Int×Int×Int×Zt4->Option (Zt4)):LL:=(YtD lo rec,.loop q34_L1_b.er)::Ylq lo rec
theorem YtE(lo:Lo)(rec:Int×Int×Int×Zt4->Option (Zt4)):Lk lo pf (Yc2 rec::fs34 lo) 1 (Ylt lo rec):=.l (YtC lo rec) (Ylr lo rec)
def YtF(lo:Lo)(rec:Int×Int×Int×Zt4->Option (Zt4))(a1:Int)(b2:Int)(limit3:Int)(data0:List ByteArray):Option (Zt4):=
  YAF (Yls lo rec (a1,b2,limit3,true,true,data0)) fun y98=>some y98
def Ygt(lo:Lo):Nat->Int×Int×Int×Zt4->Option (Zt4)
  |0,_=>none
  |n+1,x=>YtF lo (Ygt lo n) x.1 x.2.1 x.2.2.1 x.2.2.2
def q34(lo:Lo)(a1:Int)(b2:Int)(limit3:Int)(data0:List ByteArray):Option (Zt4):=lo.run (fixS (Ygt lo)) (0,(a1,b2,limit3,data0))
def YtG:VFn:=⟨true,134,[],
 (Rg [oB 8 true]
 (Rg [oB 9 true]
 (.blk 0 (.loop 1 q34_L1_b))))⟩
def Ylu(lo:Lo):FnE:=Yc2 (fun x=>q34 lo x.1 x.2.1 x.2.2.1 x.2.2.2)
def fs35(lo:Lo):List FnE:=Ylu lo::fs34 lo
theorem YtH(h:GZ P fm fs34 lo)(t:Ti P fm 301 YtG):GZ P fm fs35 lo:=
  h.ir (Ylu lo) (Ygt lo) (ls:=fun rec=>Ylt lo rec) (fun rec=>(YtE lo rec)) t (by kernel_rfl) (fun _=>rfl) rfl (fun _=>by kernel_rfl) fun n x=>by kernel_rfl
def q35(lo:Lo)(x0:List ByteArray):Option (Zt4):=
  YAF (q23 lo (YAZ .u64 (x0.length:Int))) fun y46=>YAF (q34 lo (0:Int) (x0.length:Int) y46 x0) fun y99=>chk (y99.length=x0.length) (some y99)
def YtI:VFn:=⟨true,11,[],
 (Rg [oM 3 0,oN 4 3,oM 2 4]
 (.reg [oM 5 0,oM 6 2,oM 7 2,o 8 (.conv .u64 7),oC 9 163 [8],oC 10 301 [5,(k 0),6,9]]))⟩
def Ylv(lo:Lo):FnE:=Zfe 271 false (Zsg [0] [.ref 0] [.sq (cs [.s])]) (.tp []) [.sq (cs [.s])] (fun x=>q35 lo x:Zt4->Option (Zt4))
def fs36(lo:Lo):List FnE:=Ylv lo::fs35 lo
theorem YtJ(h:GZ P fm fs35 lo)(t:Ti P fm 271 YtI):GZ P fm fs36 lo:=
  h.i (Ylv lo) .n t
def q36(lo:Lo)(l:List ByteArray):Option Zt4:=Yy8 (q35 lo) l
def YtK(lo:Lo):FnE:=vsortE 271 (.cons (.s) .nil) (q36 lo)
def fs37(lo:Lo):List FnE:=YtK lo::fs36 lo
theorem YtL(h:GZ P fm fs36 lo)(hG: ∀f,fm f=271->Ywr P f=true/\ ∃ρ:Go.Shelf.Ren,Go.Proofs.Lays.n190 P ρ/\ρ.f 190=f):GZ P fm fs37 lo:=
  ⟨h.1,h.2,YrL h.S rfl (F0:=q35 lo) (Yz2 ..) hG⟩
def q37(lo:Lo)(l:List Int):Option (List Int):=bif YAx l.length maxEl&&YAx 1 1 then some l else none
def YtM(lo:Lo):FnE:=vcloneE 245 (cs [I])
def fs38(lo:Lo):List FnE:=YtM lo::fs37 lo
theorem YtN(h:GZ P fm fs37 lo)(htie: ∀f,fm f=245->fnTr P fm pf f=some (8,[.t 2],Yw8 1 [(.int .i64 0)])):GZ P fm fs38 lo:=
  ⟨h.1,h.2,Ykl h.S h.mx (cs [I]) rfl [(.int .i64 0)] 8 (by decide) htie⟩
def q38_L3_b:VCode:=
 (Rg [oR 26 .lss 25 24]
 (.seq (Ce 26 2)
 (.seq (.blk 3 (Rg [oI 27 1 23 25,oL 28 27,oM 7 28]
 (.reg [oM 29 5,oM 30 0,o 31 (.nilc 30),oF 32 3 31,oL 33 32,oM 34 7,o 35 (.mget none (.l (cs [I])) (cs []) false false 33 34),o 36 (.callN 245 [35] true),o 37 (.bsl Zc9 1 [(0,36)]),o 38 (.app Zc9 0 29 37),oM 5 38])))
 (.reg [oR 39 .add 25 (k 1),oM 25 39]))))
def Yep(lo:Lo):Zp20->Option (Zp20⊕ ((Int×Int×Int×Zt2×Bool×Bool×Int×Zt1×Zt8))):=fun x=>match x with
  | (v24,v25,x0_0,x0_1,h1_0,h1_1,h1_2,h1_3,h2_0,h2_1,out5,v23)=>bif(decide (v25<v24))then(chk (0<=v25/\v25< (v23.length:Int)) (YAF (q37 lo ((h2_1.getD (mix eqS (v23.getD v25.toNat (YAY #[])) h2_1) ((0:Int),(YAY #[]),[])).2.2)) fun y101=>chk (out5.length+[y101].length<=maxEl) (some (.inl (v24,(YAZ .i64 (v25+1)),x0_0,x0_1,h1_0,h1_1,h1_2,h1_3,h2_0,h2_1,(out5++[y101]),v23)))))else(some (.inr (x0_0,x0_1,h1_0,h1_1,h1_2,h1_3,h2_0,h2_1,out5)))
def Ygu(lo:Lo):Zp20->Option ((Int×Int×Int×Zt2×Bool×Bool×Int×Zt1×Zt8)):=lo.run (Yep lo)
def YtO(lo:Lo):LpE:=⟨3,[(5,none,false)],(Zsg [0,5,23,24,25] [.ptr 0 0 0,.ref 3,.ref 4,.j,.j] [.st [.j,.i .u32,.np 1,.np 2],.st [.j,.l Zc5,.b,.b],.fp none (cs [I]),.sq Zc9,.sq (cs [.s])]),[⟨.exit 2,(Zsg [0,5] [.ptr 0 0 0,.ref 3] [.st [.j,.i .u32,.np 1,.np 2],.st [.j,.l Zc5,.b,.b],.fp none (cs [I]),.sq Zc9])⟩],Ygu lo⟩
def Ylw(lo:Lo):LL:=(YtO lo,.loop q38_L3_b.er)::[]
theorem YtP(lo:Lo):Lk lo pf (fs38 lo) 3 (Ylw lo):=.l .n (Yep lo)
def Ylx:VCode:=
 (.reg [oM 8 0,o 9 (.nilc 8),oF 10 3 9,oL 11 10,o 12 (.mrng 11)])
def Yly:VCode:=
 (.blk 1 (Rg [o 15 (.ment none (.l (cs [I])) (cs []) false 12),oE 16 15 0,oM 4 16]
 (.reg [oM 17 3,oM 18 4,o 19 (.bsl (cs [.s]) 1 [(0,18)]),o 20 (.app (cs [.s]) 0 17 19),oM 3 20])))
def Ylz:VCode:=
 (Rg [oM 21 3,oC 22 271 [21]]
 (Rg [o 5 (.mv (ke Zc9))]
 (.seq (Rg [oM 23 3,oN 24 23,oK 25 0]
 (.blk 2 (.loop 3 q38_L3_b)))
 (Rg [oM 40 5,oM 2 40]
 .ret))))
def q38_J18_b:VCode:=.seq (.seq Ylx (.blk 0 (.loop 12 (Rg [o 13 (.mnxt 12),oE 14 13 0] (YxQ 14 0 Yly))))) Ylz
def YtQ:Sg:=(Zsg [0,3,12] [.ptr 0 0 0,.ref 3,.np 4] [.st [.j,.i .u32,.np 1,.np 2],.st [.j,.l Zc5,.b,.b],.fp none (cs [I]),.sq (cs [.s]),.st [.np 2,.j,.j,.l (cs [I]),.b]])
def YlA(lo:Lo):(Int×Int×Int×Zt2×Bool×Bool×Int×Zt1×Zt4)->Option (Int×Int×Int×Zt2×Bool×Bool×Int×Zt1×Zt4×Int×Int× (List Int)×Bool):=fun x=>match x with
  | (x0_0,x0_1,h1_0,h1_1,h1_2,h1_3,h2_0,h2_1,keys3)=>some (x0_0,x0_1,h1_0,h1_1,h1_2,h1_3,h2_0,h2_1,keys3,h2_0,h2_0,([]:List Int),false)
def Yeq:Zp16->ItP:=fun x=>match x with
  | (x0_0,x0_1,h1_0,h1_1,h1_2,h1_3,h2_0,h2_1,keys3,v12_0,v12_1,v12_2,v12_3)=>(h2_1.map (fun e=>e.1),v12_2,h2_0,v12_0,v12_1)
def Yc4(lo:Lo):Zp16->Int->Option (Int×Int×Int×Zt2×Bool×Bool×Int×Zt1×Zt4×Int×Int× (List Int)×Bool):=fun x b=>match x with
  | (x0_0,x0_1,h1_0,h1_1,h1_2,h1_3,h2_0,h2_1,keys3,v12_0,v12_1,v12_2,v12_3)=>chk (v12_1=h2_0) (YAF (addI v12_2 b).getLast? fun y39=>YAF (mbf y39 h2_1) fun y40=>chk (keys3.length+[y40.1].length<=maxEl) (some (x0_0,x0_1,h1_0,h1_1,h1_2,h1_3,h2_0,h2_1,(keys3++[y40.1]),v12_0,v12_1,(addI v12_2 b),v12_3)))
def Yer(lo:Lo):Zp16->Option ((Int×Int×Int×Zt2×Bool×Bool×Int×Zt1×Zt8)):=fun x=>match x with
  | (x0_0,x0_1,h1_0,h1_1,h1_2,h1_3,h2_0,h2_1,keys3,v12_0,v12_1,v12_2,v12_3)=>YAF (q36 lo keys3) fun y100=>chk (y100.length=keys3.length) (YAF (Ygu lo ((y100.length:Int),(0:Int),x0_0,x0_1,h1_0,h1_1,h1_2,h1_3,h2_0,h2_1,[],y100)) fun y102=>some (y102.1,y102.2.1,y102.2.2.1,y102.2.2.2.1,y102.2.2.2.2.1,y102.2.2.2.2.2.1,y102.2.2.2.2.2.2.1,y102.2.2.2.2.2.2.2.1,y102.2.2.2.2.2.2.2.2))
noncomputable def Ygv(lo:Lo):(Int×Int×Int×Zt2×Bool×Bool×Int×Zt1×Zt4)->Option ((Int×Int×Int×Zt2×Bool×Bool×Int×Zt1×Zt8)):=fun x=>YAF (YlA lo x) (rngF Yeq (Yc4 lo) (Yer lo))
noncomputable def Yes(lo:Lo):LpE:=⟨18,[(3,none,false)],(Zsg [0,3] [.ptr 0 0 0,.ref 3] [.st [.j,.i .u32,.np 1,.np 2],.st [.j,.l Zc5,.b,.b],.fp none (cs [I]),.sq (cs [.s])]),[⟨.ret,(Zsg [2,0] [.ref 3,.ptr 0 0 0] [.st [.j,.i .u32,.np 1,.np 2],.st [.j,.l Zc5,.b,.b],.fp none (cs [I]),.sq Zc9])⟩],Ygv lo⟩
noncomputable def YtR(lo:Lo):LL:=(Yes lo,q38_J18_b.er)::Ylw lo
theorem YtS(lo:Lo):Lk lo pf (fs38 lo) 3 (YtR lo):=
  .m (YtP lo) (it:=12) (nx:=13) (mo:=14) (out:=0) (own:=(Yes lo).own) (g0:=(Yes lo).g) (outs:=(Yes lo).outs) (g:=YtQ) (pre:=Ylx) (bb:=Yly) (rest:=Ylz) (p:=Yeq) (t:=Yc4 lo) (r:=Yer lo) (u:=YlA lo) (by kernel_rfl) (fun x=>by kernel_rfl) (fun x b=>by kernel_rfl) (fun x=>by kernel_rfl) (fun x=>by kernel_rfl) rfl
noncomputable def q38(lo:Lo)(x0_0:Int)(x0_1:Int)(h1_0:Int)(h1_1:List (Int×Int×Int×Zt0))(h1_2:Bool)(h1_3:Bool)(h2_0:Int)(h2_1:List (Int×ByteArray× (List Int))):Option (Int×Int×Int×Zt2×Bool×Bool×Int×Zt1×Zt8):=
  YAF (Ygv lo (x0_0,x0_1,h1_0,h1_1,h1_2,h1_3,h2_0,h2_1,[])) fun y103=>some (y103.1,y103.2.1,y103.2.2.1,y103.2.2.2.1,y103.2.2.2.2.1,y103.2.2.2.2.2.1,y103.2.2.2.2.2.2.1,y103.2.2.2.2.2.2.2.1,y103.2.2.2.2.2.2.2.2)
def YtT:VFn:=⟨true,41,[.t 2],
 (Rg [o 2 (.mv (ke Zc9))]
 (Rg [o 3 (.mv (ke (cs [.s])))]
 (.jn 18 q38_J18_b)))⟩
noncomputable def YlB(lo:Lo):FnE:=Zfe 340 false (Zsg [0] [.ptr 0 0 0] [.st [.j,.i .u32,.np 1,.np 2],.st [.j,.l Zc5,.b,.b],.fp none (cs [I])]) (.ref 3) [.st [.j,.i .u32,.np 1,.np 2],.st [.j,.l Zc5,.b,.b],.fp none (cs [I]),.sq Zc9] (fun x=>q38 lo x.1 x.2.1 x.2.2.1 x.2.2.2.1 x.2.2.2.2.1 x.2.2.2.2.2.1 x.2.2.2.2.2.2.1 x.2.2.2.2.2.2.2:Int×Int×Int×Zt2×Bool×Bool×Int×Zt1->Option (Int×Int×Int×Zt2×Bool×Bool×Int×Zt1×Zt8))
noncomputable def fs39(lo:Lo):List FnE:=YlB lo::fs38 lo
theorem YtU(h:GZ P fm fs38 lo)(t:Ti P fm 340 YtT):GZ P fm fs39 lo:=
  h.i (YlB lo) (YtS lo) t
def q39_L3_b:VCode:=
 (.seq (Rg [oM 11 5,oM 12 0,oN 13 12,oR 14 .lss 11 13]
 (Ce 14 0))
 (.seq (.blk 1 (Rg [oM 17 0,oM 18 5,oI 19 1 17 18,oL 20 19,oM 21 1,oM 22 5,oI 23 1 21 22,oL 24 23,oR 25 .neq 20 24]
 (.cond 25 (Rg [oB 4 false]
 (Fr 4))
 .skip)))
 (.reg [oM 15 5,oR 16 .add 15 (k 1),oM 5 16])))
def Yet(lo:Lo):(List Int)× (List Int)×Int->Option (((List Int)× (List Int)×Int)⊕ (Bool⊕Unit)):=fun x=>match x with
  | (a0,b1,i5)=>bif(decide (i5< (a0.length:Int)))then(chk (0<=i5/\i5< (a0.length:Int)) (chk (0<=i5/\i5< (b1.length:Int)) (bif(!decide ((a0.getD i5.toNat (0:Int))=(b1.getD i5.toNat (0:Int))))then(some (.inr (.inl false)))else(some (.inl (a0,b1,(YAZ .i64 (i5+1))))))))else(some (.inr (.inr ())))
def Ygw(lo:Lo):(List Int)× (List Int)×Int->Option (Bool⊕Unit):=lo.run (Yet lo)
def YtV(lo:Lo):LpE:=⟨3,[],(Zsg [0,1,5] [.l (cs [I]),.l (cs [I]),.j] []),[⟨.ret,(Zsg [4] [.b] [])⟩,⟨.exit 0,(Zsg [] [] [])⟩],Ygw lo⟩
def YtW(lo:Lo):LL:=(YtV lo,.loop q39_L3_b.er)::[]
theorem YtX(lo:Lo):Lk lo pf (fs39 lo) 0 (YtW lo):=.l .n (Yet lo)
def q39(lo:Lo)(a0:List Int)(b1:List Int):Option Bool:=
  bif(!decide ((a0.length:Int)=(b1.length:Int)))then(some false)else(YAF (Ygw lo (a0,b1,(0:Int))) fun y105=>alt2 y105 (fun y106=>some y106) (fun y107=>some true))
def YtY:VFn:=⟨true,26,[.t 4],
 (Rg [oB 4 false]
 (.seq (Rg [oM 6 0,oN 7 6,oM 8 1,oN 9 8,oR 10 .neq 7 9]
 (.cond 10 (Rg [oB 4 false]
 (Fr 4))
 .skip))
 (.seq (Rg [oK 5 0]
 (.blk 0 (.loop 3 q39_L3_b)))
 (Rg [oB 4 true]
 (Fr 4)))))⟩
def YlC(lo:Lo):FnE:=Zfe 351 true (Zsg [0,1] [.l (cs [I]),.l (cs [I])] []) .b [] (fun x=>q39 lo x.1 x.2:(List Int)× (List Int)->Option Bool)
noncomputable def fs40(lo:Lo):List FnE:=YlC lo::fs39 lo
theorem YtZ(h:GZ P fm fs39 lo)(t:Ti P fm 351 YtY):GZ P fm fs40 lo:=
  h.p (YlC lo) (YtX lo) t
def q40_L3_b:VCode:=
 (.seq (Rg [oM 11 5,oM 12 0,oN 13 12,oR 14 .lss 11 13]
 (Ce 14 0))
 (.seq (.blk 1 (Rg [oM 17 0,oM 18 5,oI 19 1 17 18,oL 20 19,oM 21 1,oM 22 5,oI 23 1 21 22,oL 24 23,oC 25 351 [20,24],oX 26 25]
 (.cond 26 (Rg [oB 4 false]
 (Fr 4))
 .skip)))
 (.reg [oM 15 5,oR 16 .add 15 (k 1),oM 5 16])))
def Yeu(lo:Lo):Zt8×Zt8×Int->Option ((Zt8×Zt8×Int)⊕ (Bool⊕Unit)):=fun x=>match x with
  | (a0,b1,i5)=>bif(decide (i5< (a0.length:Int)))then(chk (0<=i5/\i5< (a0.length:Int)) (chk (0<=i5/\i5< (b1.length:Int)) (YAF (q39 lo (a0.getD i5.toNat []) (b1.getD i5.toNat [])) fun y108=>bif(!y108)then(some (.inr (.inl false)))else(some (.inl (a0,b1,(YAZ .i64 (i5+1))))))))else(some (.inr (.inr ())))
def Ygx(lo:Lo):Zt8×Zt8×Int->Option (Bool⊕Unit):=lo.run (Yeu lo)
def Yt0(lo:Lo):LpE:=⟨3,[],(Zsg [0,1,5] [.l Zc9,.l Zc9,.j] []),[⟨.ret,(Zsg [4] [.b] [])⟩,⟨.exit 0,(Zsg [] [] [])⟩],Ygx lo⟩
def Yt1(lo:Lo):LL:=(Yt0 lo,.loop q40_L3_b.er)::[]
theorem Yt2(lo:Lo):Lk lo pf (fs40 lo) 0 (Yt1 lo):=.l .n (Yeu lo)
def q40(lo:Lo)(a0:List ((List Int)))(b1:List ((List Int))):Option Bool:=
  bif(!decide ((a0.length:Int)=(b1.length:Int)))then(some false)else(YAF (Ygx lo (a0,b1,(0:Int))) fun y109=>alt2 y109 (fun y110=>some y110) (fun y111=>some true))
def Yt3:VFn:=⟨true,27,[.t 4],
 (Rg [oB 4 false]
 (.seq (Rg [oM 6 0,oN 7 6,oM 8 1,oN 9 8,oR 10 .neq 7 9]
 (.cond 10 (Rg [oB 4 false]
 (Fr 4))
 .skip))
 (.seq (Rg [oK 5 0]
 (.blk 0 (.loop 3 q40_L3_b)))
 (Rg [oB 4 true]
 (Fr 4)))))⟩
def YlD(lo:Lo):FnE:=Zfe 346 true (Zsg [0,1] [.l Zc9,.l Zc9] []) .b [] (fun x=>q40 lo x.1 x.2:Zt8×Zt8->Option Bool)
noncomputable def fs41(lo:Lo):List FnE:=YlD lo::fs40 lo
theorem Yt4(h:GZ P fm fs40 lo)(t:Ti P fm 346 Yt3):GZ P fm fs41 lo:=
  h.p (YlD lo) (Yt2 lo) t
def q41_L3_b:VCode:=
 (.seq (Rg [oM 16 7,oM 17 1,oR 18 .gtr 16 17,oM 19 18,gT 20 19 (.mv 0),gT 21 19 (.mv 7),gT 22 19 (.iad 1 20 21),gT 23 19 (.load false 1 22),gT 24 19 (.mv 0),gT 25 19 (.mv 7),gT 26 19 (.bin .sub 25 (k 1)),gT 27 19 (.iad 1 24 26),gT 28 19 (.load false 1 27),gT 29 19 (.call 370 [23,28]),oP 30 19 29 (kb false)]
 (Ce 30 2))
 (.seq (.blk 3 (.reg [oM 33 0,oM 34 7,oM 35 0,oM 36 7,oR 37 .sub 36 (k 1),oM 38 0,oM 39 7,oR 40 .sub 39 (k 1),oI 41 1 38 40,oL 42 41,oM 43 0,oM 44 7,oI 45 1 43 44,oL 46 45,oI 47 1 33 34,oS 1 47 42,oI 48 1 35 37,oS 1 48 46]))
 (.reg [oM 31 7,oR 32 .sub 31 (k 1),oM 7 32])))
def YlE(lo:Lo):Int×Int×Int×Int× (List Int)->Option ((Int×Int×Int×Int× (List Int))⊕ ((Int×Int×Int× (List Int)))):=fun x=>match x with
  | (a1,b2,i6,j7,data0)=>bif(decide (a1<j7))then(chk (0<=j7/\j7< (data0.length:Int)) (chk (0<=(YAZ .i64 (j7-1))/\ (YAZ .i64 (j7-1))< (data0.length:Int)) (YAF (q16 lo (data0.getD j7.toNat (0:Int)) (data0.getD ((YAZ .i64 (j7-1)).toNat) (0:Int))) fun y119=>bif y119 then(chk (0<=(YAZ .i64 (j7-1))/\ (YAZ .i64 (j7-1))< (data0.length:Int)) (chk (0<=j7/\j7< (data0.length:Int)) (chk (0<=j7/\j7< (data0.length:Int)) (chk (0<=(YAZ .i64 (j7-1))/\ (YAZ .i64 (j7-1))< ((data0.set j7.toNat (data0.getD ((YAZ .i64 (j7-1)).toNat) (0:Int))).length:Int)) (some (.inl (a1,b2,i6,(YAZ .i64 (j7-1)),((data0.set j7.toNat (data0.getD ((YAZ .i64 (j7-1)).toNat) (0:Int))).set ((YAZ .i64 (j7-1)).toNat) (data0.getD j7.toNat (0:Int))))))))))else(some (.inr (a1,b2,i6,data0))))))else(some (.inr (a1,b2,i6,data0)))
def YlF(lo:Lo):Int×Int×Int×Int× (List Int)->Option ((Int×Int×Int× (List Int))):=lo.run (YlE lo)
def Yt5(lo:Lo):LpE:=⟨3,[],(Zsg [0,1,2,6,7] [.ref 0,.j,.j,.j,.j] [.sq (cs [I])]),[⟨.exit 2,(Zsg [0,1,2,6] [.ref 0,.j,.j,.j] [.sq (cs [I])])⟩],YlF lo⟩
def YlG(lo:Lo):LL:=(Yt5 lo,.loop q41_L3_b.er)::[]
theorem Yt6(lo:Lo):Lk lo pf (fs41 lo) 1 (YlG lo):=.l .n (YlE lo)
def q41_L1_b:VCode:=
 (.seq (Rg [oM 10 6,oM 11 2,oR 12 .lss 10 11]
 (Ce 12 0))
 (.seq (.blk 1 (Rg [oM 15 6,oM 7 15]
 (.blk 2 (.loop 3 q41_L3_b))))
 (.reg [oM 13 6,oR 14 .add 13 (k 1),oM 6 14])))
def YlH(lo:Lo):Int×Int×Int× (List Int)->Option ((Int×Int×Int× (List Int))⊕ (((List Int)))):=fun x=>match x with
  | (a1,b2,i6,data0)=>bif(decide (i6<b2))then(YAF (YlF lo (a1,b2,i6,i6,data0)) fun y120=>some (.inl (y120.1,y120.2.1,(YAZ .i64 (y120.2.2.1+(1:Int))),y120.2.2.2)))else(some (.inr data0))
def YlI(lo:Lo):Int×Int×Int× (List Int)->Option (((List Int))):=lo.run (YlH lo)
def Yt7(lo:Lo):LpE:=⟨1,[],(Zsg [0,1,2,6] [.ref 0,.j,.j,.j] [.sq (cs [I])]),[⟨.exit 0,(Zsg [] [] [.sq (cs [I])])⟩],YlI lo⟩
def Yt8(lo:Lo):LL:=(Yt7 lo,.loop q41_L1_b.er)::YlG lo
theorem Yt9(lo:Lo):Lk lo pf (fs41 lo) 1 (Yt8 lo):=.l (Yt6 lo) (YlH lo)
def q41(lo:Lo)(a1:Int)(b2:Int)(data0:List Int):Option ((List Int)):=
  YAF (YlI lo (a1,b2,(YAZ .i64 (a1+1)),data0)) fun y121=>some y121
def Yua:VFn:=⟨true,49,[],
 (Rg [oM 8 1,oR 9 .add 8 (k 1),oM 6 9]
 (.blk 0 (.loop 1 q41_L1_b)))⟩
def YlJ(lo:Lo):FnE:=Zfe 378 false (Zsg [0,1,2] [.ref 0,.j,.j] [.sq (cs [I])]) (.tp []) [.sq (cs [I])] (fun x=>q41 lo x.1 x.2.1 x.2.2:Int×Int× (List Int)->Option ((List Int)))
noncomputable def fs42(lo:Lo):List FnE:=YlJ lo::fs41 lo
theorem Yub(h:GZ P fm fs41 lo)(t:Ti P fm 378 Yua):GZ P fm fs42 lo:=
  h.i (YlJ lo) (Yt9 lo) t
end Go.Abs.G35
namespace Go.Abs.G35
open Go Go.Abs
set_option maxRecDepth 100000
set_option maxHeartbeats 1000000
variable{P:Program}{fm:FM}{lo:Lo}
def q42(lo:Lo)(x0:Int)(x1:Int)(x2:List Int):Option ((List Int)):=none
def YlK(lo:Lo):FnE:=Zfe 379 false (Zsg [0,1,2] [.ref 0,.j,.j] [.sq (cs [I])]) (.tp []) [.sq (cs [I])] (fun x=>q42 lo x.1 x.2.1 x.2.2:Int×Int× (List Int)->Option ((List Int)))
noncomputable def fs43(lo:Lo):List FnE:=YlK lo::fs42 lo
theorem Yuc(h:GZ P fm fs42 lo)(hN:True):GZ P fm fs43 lo:=
  ⟨h.1,h.2,YaK h.S (YlK lo) (fun _=>rfl)⟩
def q43(lo:Lo)(x0:Int)(x1:Int)(x2:List Int):Option ((List Int)):=none
def YlL(lo:Lo):FnE:=Zfe 380 false (Zsg [0,1,2] [.ref 0,.j,.j] [.sq (cs [I])]) (.tp []) [.sq (cs [I])] (fun x=>q43 lo x.1 x.2.1 x.2.2:Int×Int× (List Int)->Option ((List Int)))
noncomputable def fs44(lo:Lo):List FnE:=YlL lo::fs43 lo
theorem Yud(h:GZ P fm fs43 lo)(hN:True):GZ P fm fs44 lo:=
  ⟨h.1,h.2,YaK h.S (YlL lo) (fun _=>rfl)⟩
def q44(lo:Lo)(x0:List Int)(x1:Int)(x2:Int):Option (Int×Int):=none
def YlM(lo:Lo):FnE:=Zfe 381 true (Zsg [0,1,2] [.l (cs [I]),.j,.j] []) (.tp [.j,.j]) [] (fun x=>q44 lo x.1 x.2.1 x.2.2:(List Int)×Int×Int->Option (Int×Int))
noncomputable def fs45(lo:Lo):List FnE:=YlM lo::fs44 lo
theorem Yue(h:GZ P fm fs44 lo)(hN:True):GZ P fm fs45 lo:=
  ⟨h.1,h.2,YaK h.S (YlM lo) (fun _=>rfl)⟩
def q45(lo:Lo)(x0:Int)(x1:Int)(x2:List Int):Option ((List Int)):=none
def YlN(lo:Lo):FnE:=Zfe 382 false (Zsg [0,1,2] [.ref 0,.j,.j] [.sq (cs [I])]) (.tp []) [.sq (cs [I])] (fun x=>q45 lo x.1 x.2.1 x.2.2:Int×Int× (List Int)->Option ((List Int)))
noncomputable def fs46(lo:Lo):List FnE:=YlN lo::fs45 lo
theorem Yuf(h:GZ P fm fs45 lo)(hN:True):GZ P fm fs46 lo:=
  ⟨h.1,h.2,YaK h.S (YlN lo) (fun _=>rfl)⟩
def q46(lo:Lo)(x0:Int)(x1:Int)(x2:List Int):Option (Bool× (List Int)):=none
def YlO(lo:Lo):FnE:=Zfe 383 false (Zsg [0,1,2] [.ref 0,.j,.j] [.sq (cs [I])]) .b [.sq (cs [I])] (fun x=>q46 lo x.1 x.2.1 x.2.2:Int×Int× (List Int)->Option (Bool× (List Int)))
noncomputable def fs47(lo:Lo):List FnE:=YlO lo::fs46 lo
theorem Yug(h:GZ P fm fs46 lo)(hN:True):GZ P fm fs47 lo:=
  ⟨h.1,h.2,YaK h.S (YlO lo) (fun _=>rfl)⟩
def q47(lo:Lo)(x0:Int)(x1:Int)(x2:Int)(x3:List Int):Option (Int× (List Int)):=none
def YlP(lo:Lo):FnE:=Zfe 384 false (Zsg [0,1,2,3] [.ref 0,.j,.j,.j] [.sq (cs [I])]) (.i .i64) [.sq (cs [I])] (fun x=>q47 lo x.1 x.2.1 x.2.2.1 x.2.2.2:Int×Int×Int× (List Int)->Option (Int× (List Int)))
noncomputable def fs48(lo:Lo):List FnE:=YlP lo::fs47 lo
theorem Yuh(h:GZ P fm fs47 lo)(hN:True):GZ P fm fs48 lo:=
  ⟨h.1,h.2,YaK h.S (YlP lo) (fun _=>rfl)⟩
def q48(lo:Lo)(x0:Int)(x1:Int)(x2:Int)(x3:List Int):Option (Int×Bool× (List Int)):=none
def YlQ(lo:Lo):FnE:=Zfe 385 false (Zsg [0,1,2,3] [.ref 0,.j,.j,.j] [.sq (cs [I])]) (.tp [.j,.b]) [.sq (cs [I])] (fun x=>q48 lo x.1 x.2.1 x.2.2.1 x.2.2.2:Int×Int×Int× (List Int)->Option (Int×Bool× (List Int)))
noncomputable def fs49(lo:Lo):List FnE:=YlQ lo::fs48 lo
theorem Yui(h:GZ P fm fs48 lo)(hN:True):GZ P fm fs49 lo:=
  ⟨h.1,h.2,YaK h.S (YlQ lo) (fun _=>rfl)⟩
def Yc5(F:Int×Int×Int× (List Int)->Option ((List Int))):FnE:=⟨375,false,(Zsg [0,1,2,3] [.ref 0,.j,.j,.j] [.sq (cs [I])]),.tp [],[.sq (cs [I])],Zc9,F⟩
def q49_J20_b:VCode:=
 (.seq (Rg [oM 73 1,oR 74 .gtr 73 (k 0),oM 75 74,gT 76 75 (.mv 0),gT 77 75 (.mv 1),gT 78 75 (.bin .sub 77 (k 1)),gT 79 75 (.iad 1 76 78),gT 80 75 (.load false 1 79),gT 81 75 (.mv 0),gT 82 75 (.mv 11),gT 83 75 (.iad 1 81 82),gT 84 75 (.load false 1 83),gT 85 75 (.call 370 [80,84]),gT 86 75 (.not 85),oP 87 75 86 (kb false)]
 (.cond 87 (Rg [oM 88 0,oM 89 1,oM 90 2,oM 91 11,oC 92 384 [88,89,90,91],oM 13 92]
 (Rg [oM 93 13,oM 1 93]
 (.exit 1)))
 .skip))
 (Rg [oM 95 0,oM 96 1,oM 97 2,oM 98 11,oC 99 385 [95,96,97,98],oM 94 99,oE 100 94 0,oE 101 94 1,oM 14 100,oM 15 101]
 (Rg [oM 102 15,oM 9 102]
 (Rg [oM 103 14,oM 104 1,oR 105 .sub 103 104,oM 106 2,oM 107 14,oR 108 .sub 106 107,oM 16 105,oM 17 108]
 (Rg [oM 109 10,oR 110 .quo 109 (k 8),oM 18 110]
 (Rg [oM 111 16,oM 112 17,oR 113 .lss 111 112]
 (.cond 113 (Rg [oM 114 16,oM 115 18,oR 116 .geq 114 115,oM 8 116]
 (Rg [oM 117 0,oM 118 1,oM 119 14,oM 120 3,oC 121 375 [117,118,119,120]]
 (.reg [oM 122 14,oR 123 .add 122 (k 1),oM 1 123])))
 (Rg [oM 124 17,oM 125 18,oR 126 .geq 124 125,oM 8 126]
 (Rg [oM 127 0,oM 128 14,oR 129 .add 128 (k 1),oM 130 2,oM 131 3,oC 132 375 [127,129,130,131]]
 (.reg [oM 133 14,oM 2 133]))))))))))
def Yc6(lo:Lo)(rec:Int×Int×Int× (List Int)->Option ((List Int))):Int×Int×Int×Bool×Bool×Int×Int× (List Int)->Option (Zp23⊕Zp23):=fun x=>match x with
  | (a1,b2,limit3,wasBalanced8,wasPartitioned9,length10,pivot11,data0)=>bif(decide (0<a1))then(chk (0<=(YAZ .i64 (a1-1))/\ (YAZ .i64 (a1-1))< (data0.length:Int)) (chk (0<=pivot11/\pivot11< (data0.length:Int)) (YAF (q16 lo (data0.getD ((YAZ .i64 (a1-1)).toNat) (0:Int)) (data0.getD pivot11.toNat (0:Int))) fun y128=>bif(!y128)then(YAF (q47 lo a1 b2 pivot11 data0) fun y129=>chk (y129.2.length=data0.length) (some (.inl (y129.1,b2,limit3,wasBalanced8,wasPartitioned9,y129.2))))else(YAF (q48 lo a1 b2 pivot11 data0) fun y130=>chk (y130.2.2.length=data0.length) (chk ((8:Int)≠0) (bif(decide ((YAZ .i64 (y130.1-a1))< (YAZ .i64 (b2-y130.1))))then(YAF (rec (a1,y130.1,limit3,y130.2.2)) fun y131=>chk (y131.length=y130.2.2.length) (some (.inr ((YAZ .i64 (y130.1+(1:Int))),b2,limit3,(decide ((YAZ .i64 (length10.tdiv (8:Int)))<=(YAZ .i64 (y130.1-a1)))),y130.2.1,y131))))else(YAF (rec ((YAZ .i64 (y130.1+(1:Int))),b2,limit3,y130.2.2)) fun y132=>chk (y132.length=y130.2.2.length) (some (.inr (a1,y130.1,limit3,(decide ((YAZ .i64 (length10.tdiv (8:Int)))<=(YAZ .i64 (b2-y130.1)))),y130.2.1,y132))))))))))else(YAF (q48 lo a1 b2 pivot11 data0) fun y133=>chk (y133.2.2.length=data0.length) (chk ((8:Int)≠0) (bif(decide ((YAZ .i64 (y133.1-a1))< (YAZ .i64 (b2-y133.1))))then(YAF (rec (a1,y133.1,limit3,y133.2.2)) fun y134=>chk (y134.length=y133.2.2.length) (some (.inr ((YAZ .i64 (y133.1+(1:Int))),b2,limit3,(decide ((YAZ .i64 (length10.tdiv (8:Int)))<=(YAZ .i64 (y133.1-a1)))),y133.2.1,y134))))else(YAF (rec ((YAZ .i64 (y133.1+(1:Int))),b2,limit3,y133.2.2)) fun y135=>chk (y135.length=y133.2.2.length) (some (.inr (a1,y133.1,limit3,(decide ((YAZ .i64 (length10.tdiv (8:Int)))<=(YAZ .i64 (b2-y133.1)))),y133.2.1,y135)))))))
def Yuj(lo:Lo)(rec:Int×Int×Int× (List Int)->Option ((List Int))):LpE:=⟨20,[],(Zsg [0,1,2,3,8,9,10,11] [.ref 0,.j,.j,.j,.b,.b,.j,.j] [.sq (cs [I])]),[⟨.exit 1,(Zsg [0,1,2,3,8,9] [.ref 0,.j,.j,.j,.b,.b] [.sq (cs [I])])⟩,⟨.nor,(Zsg [0,1,2,3,8,9] [.ref 0,.j,.j,.j,.b,.b] [.sq (cs [I])])⟩],Yc6 lo rec⟩
def YlR(lo:Lo)(rec:Int×Int×Int× (List Int)->Option ((List Int))):LL:=(Yuj lo rec,q49_J20_b.er)::[]
theorem Yuk(lo:Lo)(rec:Int×Int×Int× (List Int)->Option ((List Int))):Lk lo pf (Yc5 rec::fs49 lo) 1 (YlR lo rec):=.j .n
def q49_J25_b:VCode:=
 (.seq (Rg [oM 61 8,oM 62 61,gT 63 62 (.mv 9),oP 64 62 63 (kb false),oM 65 64,gT 66 65 (.mv 12),gT 67 65 (.bin .eql 66 (k 1)),oP 68 65 67 (kb false)]
 (.cond 68 (Rg [oM 69 0,oM 70 1,oM 71 2,oC 72 383 [69,70,71]]
 (.cond 72 .ret
 .skip))
 .skip))
 (.jn 20 q49_J20_b))
def Ygy(lo:Lo)(rec:Int×Int×Int× (List Int)->Option ((List Int))):Int×Int×Int×Bool×Bool×Int×Int×Int× (List Int)->Option (((List Int))⊕Zp23⊕Zp23):=fun x=>match x with
  | (a1,b2,limit3,wasBalanced8,wasPartitioned9,length10,pivot11,hint12,data0)=>bif wasBalanced8 then(bif wasPartitioned9 then(bif(decide (hint12=1))then(YAF (q46 lo a1 b2 data0) fun y127=>chk (y127.2.length=data0.length) (bif y127.1 then(some (.inl y127.2))else(YAF (Yc6 lo rec (a1,b2,limit3,wasBalanced8,wasPartitioned9,length10,pivot11,y127.2)) fun y136=>alt2 y136 (fun y137=>some (.inr (.inl (y137.1,y137.2.1,y137.2.2.1,y137.2.2.2.1,y137.2.2.2.2.1,y137.2.2.2.2.2)))) (fun y138=>some (.inr (.inr (y138.1,y138.2.1,y138.2.2.1,y138.2.2.2.1,y138.2.2.2.2.1,y138.2.2.2.2.2)))))))else(YAF (Yc6 lo rec (a1,b2,limit3,wasBalanced8,wasPartitioned9,length10,pivot11,data0)) fun y139=>alt2 y139 (fun y140=>some (.inr (.inl (y140.1,y140.2.1,y140.2.2.1,y140.2.2.2.1,y140.2.2.2.2.1,y140.2.2.2.2.2)))) (fun y141=>some (.inr (.inr (y141.1,y141.2.1,y141.2.2.1,y141.2.2.2.1,y141.2.2.2.2.1,y141.2.2.2.2.2))))))else(YAF (Yc6 lo rec (a1,b2,limit3,wasBalanced8,wasPartitioned9,length10,pivot11,data0)) fun y142=>alt2 y142 (fun y143=>some (.inr (.inl (y143.1,y143.2.1,y143.2.2.1,y143.2.2.2.1,y143.2.2.2.2.1,y143.2.2.2.2.2)))) (fun y144=>some (.inr (.inr (y144.1,y144.2.1,y144.2.2.1,y144.2.2.2.1,y144.2.2.2.2.1,y144.2.2.2.2.2))))))else(YAF (Yc6 lo rec (a1,b2,limit3,wasBalanced8,wasPartitioned9,length10,pivot11,data0)) fun y145=>alt2 y145 (fun y146=>some (.inr (.inl (y146.1,y146.2.1,y146.2.2.1,y146.2.2.2.1,y146.2.2.2.2.1,y146.2.2.2.2.2)))) (fun y147=>some (.inr (.inr (y147.1,y147.2.1,y147.2.2.1,y147.2.2.2.1,y147.2.2.2.2.1,y147.2.2.2.2.2)))))
def Yul(lo:Lo)(rec:Int×Int×Int× (List Int)->Option ((List Int))):LpE:=⟨25,[],(Zsg [0,1,2,3,8,9,10,11,12] [.ref 0,.j,.j,.j,.b,.b,.j,.j,.j] [.sq (cs [I])]),[⟨.ret,(Zsg [] [] [.sq (cs [I])])⟩,⟨.exit 1,(Zsg [0,1,2,3,8,9] [.ref 0,.j,.j,.j,.b,.b] [.sq (cs [I])])⟩,⟨.nor,(Zsg [0,1,2,3,8,9] [.ref 0,.j,.j,.j,.b,.b] [.sq (cs [I])])⟩],Ygy lo rec⟩
def YlS(lo:Lo)(rec:Int×Int×Int× (List Int)->Option ((List Int))):LL:=(Yul lo rec,q49_J25_b.er)::YlR lo rec
theorem Yum(lo:Lo)(rec:Int×Int×Int× (List Int)->Option ((List Int))):Lk lo pf (Yc5 rec::fs49 lo) 1 (YlS lo rec):=.j (Yuk lo rec)
def q49_J30_b:VCode:=
 (Rg [oM 43 0,oM 44 1,oM 45 2,oC 46 381 [43,44,45],oM 42 46,oE 47 42 0,oE 48 42 1,oM 11 47,oM 12 48]
 (.seq (Rg [oM 49 12,oR 50 .eql 49 (k 2)]
 (.cond 50 (Rg [oM 51 0,oM 52 1,oM 53 2,oC 54 382 [51,52,53]]
 (Rg [oM 55 2,oR 56 .sub 55 (k 1),oM 57 11,oM 58 1,oR 59 .sub 57 58,oR 60 .sub 56 59,oM 11 60]
 (.reg [oK 12 1])))
 .skip))
 (.jn 25 q49_J25_b)))
def Ygz(lo:Lo)(rec:Int×Int×Int× (List Int)->Option ((List Int))):Int×Int×Int×Bool×Bool×Int× (List Int)->Option (((List Int))⊕Zp23⊕Zp23):=fun x=>match x with
  | (a1,b2,limit3,wasBalanced8,wasPartitioned9,length10,data0)=>YAF (q44 lo data0 a1 b2) fun y125=>bif(decide (y125.2=(2:Int)))then(YAF (q45 lo a1 b2 data0) fun y126=>chk (y126.length=data0.length) (YAF (Ygy lo rec (a1,b2,limit3,wasBalanced8,wasPartitioned9,length10,(YAZ .i64 ((YAZ .i64 (b2-1))-(YAZ .i64 (y125.1-a1)))),(1:Int),y126)) fun y148=>alt2 y148 (fun y149=>some (.inl y149)) (fun y150=>alt2 y150 (fun y151=>some (.inr (.inl (y151.1,y151.2.1,y151.2.2.1,y151.2.2.2.1,y151.2.2.2.2.1,y151.2.2.2.2.2)))) (fun y152=>some (.inr (.inr (y152.1,y152.2.1,y152.2.2.1,y152.2.2.2.1,y152.2.2.2.2.1,y152.2.2.2.2.2)))))))else(YAF (Ygy lo rec (a1,b2,limit3,wasBalanced8,wasPartitioned9,length10,y125.1,y125.2,data0)) fun y153=>alt2 y153 (fun y154=>some (.inl y154)) (fun y155=>alt2 y155 (fun y156=>some (.inr (.inl (y156.1,y156.2.1,y156.2.2.1,y156.2.2.2.1,y156.2.2.2.2.1,y156.2.2.2.2.2)))) (fun y157=>some (.inr (.inr (y157.1,y157.2.1,y157.2.2.1,y157.2.2.2.1,y157.2.2.2.2.1,y157.2.2.2.2.2))))))
def Yun(lo:Lo)(rec:Int×Int×Int× (List Int)->Option ((List Int))):LpE:=⟨30,[],(Zsg [0,1,2,3,8,9,10] [.ref 0,.j,.j,.j,.b,.b,.j] [.sq (cs [I])]),[⟨.ret,(Zsg [] [] [.sq (cs [I])])⟩,⟨.exit 1,(Zsg [0,1,2,3,8,9] [.ref 0,.j,.j,.j,.b,.b] [.sq (cs [I])])⟩,⟨.nor,(Zsg [0,1,2,3,8,9] [.ref 0,.j,.j,.j,.b,.b] [.sq (cs [I])])⟩],Ygz lo rec⟩
def YlT(lo:Lo)(rec:Int×Int×Int× (List Int)->Option ((List Int))):LL:=(Yun lo rec,q49_J30_b.er)::YlS lo rec
theorem Yuo(lo:Lo)(rec:Int×Int×Int× (List Int)->Option ((List Int))):Lk lo pf (Yc5 rec::fs49 lo) 1 (YlT lo rec):=.j (Yum lo rec)
def q49_L1_b:VCode:=
 (.blk 1 (Rg [oM 19 2,oM 20 1,oR 21 .sub 19 20,oM 10 21]
 (.seq (Rg [oM 22 10,oR 23 .leq 22 (k 12)]
 (.cond 23 (Rg [oM 24 0,oM 25 1,oM 26 2,oC 27 378 [24,25,26]]
 .ret)
 .skip))
 (.seq (Rg [oM 28 3,oR 29 .eql 28 (k 0)]
 (.cond 29 (Rg [oM 30 0,oM 31 1,oM 32 2,oC 33 379 [30,31,32]]
 .ret)
 .skip))
 (.seq (Rg [oM 34 8,oX 35 34]
 (.cond 35 (Rg [oM 36 0,oM 37 1,oM 38 2,oC 39 380 [36,37,38]]
 (.reg [oM 40 3,oR 41 .sub 40 (k 1),oM 3 41]))
 .skip))
 (.jn 30 q49_J30_b))))))
def YlU(lo:Lo)(rec:Int×Int×Int× (List Int)->Option ((List Int))):Zp23->Option (Zp23⊕ (((List Int)))):=fun x=>match x with
  | (a1,b2,limit3,wasBalanced8,wasPartitioned9,data0)=>bif(decide ((YAZ .i64 (b2-a1))<=(12:Int)))then(YAF (q41 lo a1 b2 data0) fun y122=>chk (y122.length=data0.length) (some (.inr y122)))else(bif(decide (limit3=0))then(YAF (q42 lo a1 b2 data0) fun y123=>chk (y123.length=data0.length) (some (.inr y123)))else(bif(!wasBalanced8)then(YAF (q43 lo a1 b2 data0) fun y124=>chk (y124.length=data0.length) (YAF (Ygz lo rec (a1,b2,(YAZ .i64 (limit3-1)),wasBalanced8,wasPartitioned9,(YAZ .i64 (b2-a1)),y124)) fun y158=>alt2 y158 (fun y159=>some (.inr y159)) (fun y160=>alt2 y160 (fun y161=>some (.inl (y161.1,y161.2.1,y161.2.2.1,y161.2.2.2.1,y161.2.2.2.2.1,y161.2.2.2.2.2))) (fun y162=>some (.inl (y162.1,y162.2.1,y162.2.2.1,y162.2.2.2.1,y162.2.2.2.2.1,y162.2.2.2.2.2))))))else(YAF (Ygz lo rec (a1,b2,limit3,wasBalanced8,wasPartitioned9,(YAZ .i64 (b2-a1)),data0)) fun y163=>alt2 y163 (fun y164=>some (.inr y164)) (fun y165=>alt2 y165 (fun y166=>some (.inl (y166.1,y166.2.1,y166.2.2.1,y166.2.2.2.1,y166.2.2.2.2.1,y166.2.2.2.2.2))) (fun y167=>some (.inl (y167.1,y167.2.1,y167.2.2.1,y167.2.2.2.1,y167.2.2.2.2.1,y167.2.2.2.2.2)))))))
def YlV(lo:Lo)(rec:Int×Int×Int× (List Int)->Option ((List Int))):Zp23->Option (((List Int))):=lo.run (YlU lo rec)
def Yup(lo:Lo)(rec:Int×Int×Int× (List Int)->Option ((List Int))):LpE:=⟨1,[],(Zsg [0,1,2,3,8,9] [.ref 0,.j,.j,.j,.b,.b] [.sq (cs [I])]),[⟨.ret,(Zsg [] [] [.sq (cs [I])])⟩],YlV lo rec⟩
def YlW(lo:Lo)(rec:Int×Int×Int× (List Int)->Option ((List Int))):LL:=(Yup lo rec,.loop q49_L1_b.er)::YlT lo rec
theorem Yuq(lo:Lo)(rec:Int×Int×Int× (List Int)->Option ((List Int))):Lk lo pf (Yc5 rec::fs49 lo) 1 (YlW lo rec):=.l (Yuo lo rec) (YlU lo rec)
def Yur(lo:Lo)(rec:Int×Int×Int× (List Int)->Option ((List Int)))(a1:Int)(b2:Int)(limit3:Int)(data0:List Int):Option ((List Int)):=
  YAF (YlV lo rec (a1,b2,limit3,true,true,data0)) fun y168=>some y168
def YgA(lo:Lo):Nat->Int×Int×Int× (List Int)->Option ((List Int))
  |0,_=>none
  |n+1,x=>Yur lo (YgA lo n) x.1 x.2.1 x.2.2.1 x.2.2.2
def q49(lo:Lo)(a1:Int)(b2:Int)(limit3:Int)(data0:List Int):Option ((List Int)):=lo.run (fixS (YgA lo)) (0,(a1,b2,limit3,data0))
def Yus:VFn:=⟨true,134,[],
 (Rg [oB 8 true]
 (Rg [oB 9 true]
 (.blk 0 (.loop 1 q49_L1_b))))⟩
def YlX(lo:Lo):FnE:=Yc5 (fun x=>q49 lo x.1 x.2.1 x.2.2.1 x.2.2.2)
noncomputable def fs50(lo:Lo):List FnE:=YlX lo::fs49 lo
theorem Yut(h:GZ P fm fs49 lo)(t:Ti P fm 375 Yus):GZ P fm fs50 lo:=
  h.ir (YlX lo) (YgA lo) (ls:=fun rec=>YlW lo rec) (fun rec=>(Yuq lo rec)) t (by kernel_rfl) (fun _=>rfl) rfl (fun _=>by kernel_rfl) fun n x=>by kernel_rfl
def q50(lo:Lo)(x0:List Int):Option ((List Int)):=
  YAF (q23 lo (YAZ .u64 (x0.length:Int))) fun y118=>YAF (q49 lo (0:Int) (x0.length:Int) y118 x0) fun y169=>chk (y169.length=x0.length) (some y169)
def Yuu:VFn:=⟨true,11,[],
 (Rg [oM 3 0,oN 4 3,oM 2 4]
 (.reg [oM 5 0,oM 6 2,oM 7 2,o 8 (.conv .u64 7),oC 9 163 [8],oC 10 375 [5,(k 0),6,9]]))⟩
def YlY(lo:Lo):FnE:=Zfe 367 false (Zsg [0] [.ref 0] [.sq (cs [I])]) (.tp []) [.sq (cs [I])] (fun x=>q50 lo x:(List Int)->Option ((List Int)))
noncomputable def fs51(lo:Lo):List FnE:=YlY lo::fs50 lo
theorem Yuv(h:GZ P fm fs50 lo)(t:Ti P fm 367 Yuu):GZ P fm fs51 lo:=
  h.i (YlY lo) .n t
def q51(lo:Lo)(l:List Int):Option (List Int):=Yy9 (q50 lo) l
def Yuw(lo:Lo):FnE:=vsortE 367 (.cons (.i .i64) .nil) (q51 lo)
noncomputable def fs52(lo:Lo):List FnE:=Yuw lo::fs51 lo
theorem Yux(h:GZ P fm fs51 lo)(hG: ∀f,fm f=367->Ywr P f=true/\ ∃ρ:Go.Shelf.Ren,Go.Proofs.SlLaysN.n53 P ρ/\ρ.f 53=f):GZ P fm fs52 lo:=
  ⟨h.1,h.2,Yr5 h.S rfl (F0:=q50 lo) (Yz2 ..) hG⟩
def q52_L7_b:VCode:=
 (Rg [oR 35 .lss 34 33]
 (.seq (Ce 35 2)
 (.seq (.blk 3 (Rg [oM 36 34,oI 37 3 32 34,oT 38 3 37,o 12 (.alloc [.i .i64 0,.i .i64 0,.s (⟨#[]⟩)]),oM 11 36,oS 3 12 38]
 (Rg [oT 39 3 12,oF 40 1 4,oL 41 40,oM 42 11,oI 43 3 41 42,oT 44 3 43,o 45 (.eqa true [1,1,2] 39 44)]
 (.cond 45 (.reg [oM 46 10,oM 47 11,oR 48 .shl (ki .u32 1) 47,oR 49 .or 46 48,oM 10 49])
 .skip))))
 (.reg [oR 50 .add 34 (k 1),oM 34 50]))))
def Yev(lo:Lo):Zp13->Option (Zp13⊕ ((Int×Int×Int×Int×Int×Int×Zt2×Bool×Bool×Int×Zt1×Int×Zt0× (List Int)×Int×Int× (List Int)×Bool))):=fun x=>match x with
  | (rhs2,id8,differ10,v32,v33,v34,x0_0,x0_1,h1_0,h1_1,h1_2,h1_3,h2_0,h2_1,r4_0,r4_1,out7,h5_0,h5_1,h5_2,h5_3)=>bif(decide (v34<v33))then(chk (0<=v34/\v34< (v32.length:Int)) (chk (0<=v34/\v34< (r4_1.length:Int)) (bif(!((decide ((v32.getD v34.toNat Zd1).1=(r4_1.getD v34.toNat Zd1).1))&& ((decide ((v32.getD v34.toNat Zd1).2.1=(r4_1.getD v34.toNat Zd1).2.1))&& ((decide ((v32.getD v34.toNat Zd1).2.2=(r4_1.getD v34.toNat Zd1).2.2))&&true))))then(chk (0<=v34) (some (.inl (rhs2,id8,(bits .or .u32 differ10 (YAZ .u32 ((1:Int)*2^(min v34.toNat (IntKind.bits .u32))))),v32,v33,(YAZ .i64 (v34+1)),x0_0,x0_1,h1_0,h1_1,h1_2,h1_3,h2_0,h2_1,r4_0,r4_1,out7,h5_0,h5_1,h5_2,h5_3))))else(some (.inl (rhs2,id8,differ10,v32,v33,(YAZ .i64 (v34+1)),x0_0,x0_1,h1_0,h1_1,h1_2,h1_3,h2_0,h2_1,r4_0,r4_1,out7,h5_0,h5_1,h5_2,h5_3))))))else(some (.inr (rhs2,id8,differ10,x0_0,x0_1,h1_0,h1_1,h1_2,h1_3,h2_0,h2_1,r4_0,r4_1,out7,h5_0,h5_1,h5_2,h5_3)))
def YgB(lo:Lo):Zp13->Option ((Int×Int×Int×Int×Int×Int×Zt2×Bool×Bool×Int×Zt1×Int×Zt0× (List Int)×Int×Int× (List Int)×Bool)):=lo.run (Yev lo)
def Yuy(lo:Lo):LpE:=⟨7,[],(Zsg [0,2,4,7,8,10,25,32,33,34] [.ptr 0 0 0,.i .u32,.ptr 3 0 0,.ref 4,.j,.i .u32,.np 5,.l Zc3,.j,.j] [.st [.j,.i .u32,.np 1,.np 2],.st [.j,.l Zc5,.b,.b],.fp none (cs [I]),.st [.j,.l Zc3],.sq (cs [I]),.st [.np 1,.j,.j,.l (cs [I]),.b]]),[⟨.exit 2,(Zsg [0,2,4,7,8,10,25] [.ptr 0 0 0,.i .u32,.ptr 3 0 0,.ref 4,.j,.i .u32,.np 5] [.st [.j,.i .u32,.np 1,.np 2],.st [.j,.l Zc5,.b,.b],.fp none (cs [I]),.st [.j,.l Zc3],.sq (cs [I]),.st [.np 1,.j,.j,.l (cs [I]),.b]])⟩],YgB lo⟩
def YlZ(lo:Lo):LL:=(Yuy lo,.loop q52_L7_b.er)::[]
theorem Yuz(lo:Lo):Lk lo pf (fs52 lo) 3 (YlZ lo):=.l .n (Yev lo)
def Yl0:VCode:=
 (.reg [oM 21 0,o 22 (.nilc 21),oF 23 2 22,oL 24 23,o 25 (.mrng 24)])
def Yl1:VCode:=
 (.blk 1 (Rg [o 28 (.ment (some .i64) I (cs [.l Zc3]) true 25),oE 29 28 0,oE 30 28 1,o 9 (.alloc [.i .i64 0,.e Zc3]),oM 8 29,oS 2 9 30]
 (Rg [o 10 (.mv (ki .u32 0))]
 (.seq (Rg [oF 31 1 9,oL 32 31,oN 33 32,oK 34 0]
 (.blk 2 (.loop 7 q52_L7_b)))
 (Rg [oM 51 8,oF 52 0 4,oL 53 52,oR 54 .neq 51 53,oM 55 54,gT 56 55 (.mv 10),gT 57 55 (.mv 0),gT 58 55 (.nilc 57),gT 59 55 (.fad 1 58),gT 60 55 (.load false 1 59),gT 61 55 (.bin .and 56 60),gT 62 55 (.bin .eql 61 (ki .u32 0)),oP 63 55 62 (kb false),oM 64 63,gT 65 64 (.mv 10),gT 66 64 (.mv 2),gT 67 64 (.bin .and 65 66),gT 68 64 (.bin .neq 67 (ki .u32 0)),oP 69 64 68 (kb false)]
 (.cond 69 (.reg [oM 70 7,oM 71 8,o 72 (.bsl (cs [I]) 1 [(0,71)]),o 73 (.app (cs [I]) 0 70 72),oM 7 73])
 .skip))))))
def Yl2:VCode:=
 (Rg [oM 74 7,oC 75 367 [74]]
 (Rg [oM 76 7,oM 6 76]
 (Fr 6)))
def q52_J20_b:VCode:=.seq (.seq Yl0 (.blk 0 (.loop 4 (Rg [o 26 (.mnxt 25),oE 27 26 0] (YxQ 27 0 Yl1))))) Yl2
def YuA:Sg:=(Zsg [0,2,4,7,25] [.ptr 0 0 0,.i .u32,.ptr 3 0 0,.ref 4,.np 5] [.st [.j,.i .u32,.np 1,.np 2],.st [.j,.l Zc5,.b,.b],.fp none (cs [I]),.st [.j,.l Zc3],.sq (cs [I]),.st [.np 1,.j,.j,.l (cs [I]),.b]])
def Yl3(lo:Lo):Zp18->Option (Int×Int×Int×Int×Zt2×Bool×Bool×Int×Zt1×Int×Zt0× (List Int)×Int×Int× (List Int)×Bool):=fun x=>match x with
  | (rhs2,x0_0,x0_1,h1_0,h1_1,h1_2,h1_3,h2_0,h2_1,r4_0,r4_1,out7)=>some (rhs2,x0_0,x0_1,h1_0,h1_1,h1_2,h1_3,h2_0,h2_1,r4_0,r4_1,out7,h1_0,h1_0,([]:List Int),false)
def Yew:Zp15->ItP:=fun x=>match x with
  | (rhs2,x0_0,x0_1,h1_0,h1_1,h1_2,h1_3,h2_0,h2_1,r4_0,r4_1,out7,v25_0,v25_1,v25_2,v25_3)=>(h1_1.map (fun e=>e.1),v25_2,h1_0,v25_0,v25_1)
def Yc7(lo:Lo):Zp15->Int->Option (Int×Int×Int×Int×Zt2×Bool×Bool×Int×Zt1×Int×Zt0× (List Int)×Int×Int× (List Int)×Bool):=fun x b=>match x with
  | (rhs2,x0_0,x0_1,h1_0,h1_1,h1_2,h1_3,h2_0,h2_1,r4_0,r4_1,out7,v25_0,v25_1,v25_2,v25_3)=>chk (v25_1=h1_0) (YAF (addI v25_2 b).getLast? fun y173=>YAF (mbf y173 h1_1) fun y174=>YAF (YgB lo (rhs2,y174.1,(0:Int),y174.2.2,(y174.2.2.length:Int),(0:Int),x0_0,x0_1,h1_0,h1_1,h1_2,h1_3,h2_0,h2_1,r4_0,r4_1,out7,v25_0,v25_1,(addI v25_2 b),v25_3)) fun y175=>bif(!decide (y175.2.1=y175.2.2.2.2.2.2.2.2.2.2.2.1))then(bif(decide ((bits .and .u32 y175.2.2.1 y175.2.2.2.2.1)=(0:Int)))then(bif(!decide ((bits .and .u32 y175.2.2.1 y175.1)=(0:Int)))then(chk (y175.2.2.2.2.2.2.2.2.2.2.2.2.2.1.length+[y175.2.1].length<=maxEl) (some (y175.1,y175.2.2.2.1,y175.2.2.2.2.1,y175.2.2.2.2.2.1,y175.2.2.2.2.2.2.1,y175.2.2.2.2.2.2.2.1,y175.2.2.2.2.2.2.2.2.1,y175.2.2.2.2.2.2.2.2.2.1,y175.2.2.2.2.2.2.2.2.2.2.1,y175.2.2.2.2.2.2.2.2.2.2.2.1,y175.2.2.2.2.2.2.2.2.2.2.2.2.1,(y175.2.2.2.2.2.2.2.2.2.2.2.2.2.1++[y175.2.1]),y175.2.2.2.2.2.2.2.2.2.2.2.2.2.2.1,y175.2.2.2.2.2.2.2.2.2.2.2.2.2.2.2.1,y175.2.2.2.2.2.2.2.2.2.2.2.2.2.2.2.2.1,y175.2.2.2.2.2.2.2.2.2.2.2.2.2.2.2.2.2)))else(some (y175.1,y175.2.2.2.1,y175.2.2.2.2.1,y175.2.2.2.2.2.1,y175.2.2.2.2.2.2.1,y175.2.2.2.2.2.2.2.1,y175.2.2.2.2.2.2.2.2.1,y175.2.2.2.2.2.2.2.2.2.1,y175.2.2.2.2.2.2.2.2.2.2.1,y175.2.2.2.2.2.2.2.2.2.2.2.1,y175.2.2.2.2.2.2.2.2.2.2.2.2.1,y175.2.2.2.2.2.2.2.2.2.2.2.2.2.1,y175.2.2.2.2.2.2.2.2.2.2.2.2.2.2.1,y175.2.2.2.2.2.2.2.2.2.2.2.2.2.2.2.1,y175.2.2.2.2.2.2.2.2.2.2.2.2.2.2.2.2.1,y175.2.2.2.2.2.2.2.2.2.2.2.2.2.2.2.2.2)))else(some (y175.1,y175.2.2.2.1,y175.2.2.2.2.1,y175.2.2.2.2.2.1,y175.2.2.2.2.2.2.1,y175.2.2.2.2.2.2.2.1,y175.2.2.2.2.2.2.2.2.1,y175.2.2.2.2.2.2.2.2.2.1,y175.2.2.2.2.2.2.2.2.2.2.1,y175.2.2.2.2.2.2.2.2.2.2.2.1,y175.2.2.2.2.2.2.2.2.2.2.2.2.1,y175.2.2.2.2.2.2.2.2.2.2.2.2.2.1,y175.2.2.2.2.2.2.2.2.2.2.2.2.2.2.1,y175.2.2.2.2.2.2.2.2.2.2.2.2.2.2.2.1,y175.2.2.2.2.2.2.2.2.2.2.2.2.2.2.2.2.1,y175.2.2.2.2.2.2.2.2.2.2.2.2.2.2.2.2.2)))else(some (y175.1,y175.2.2.2.1,y175.2.2.2.2.1,y175.2.2.2.2.2.1,y175.2.2.2.2.2.2.1,y175.2.2.2.2.2.2.2.1,y175.2.2.2.2.2.2.2.2.1,y175.2.2.2.2.2.2.2.2.2.1,y175.2.2.2.2.2.2.2.2.2.2.1,y175.2.2.2.2.2.2.2.2.2.2.2.1,y175.2.2.2.2.2.2.2.2.2.2.2.2.1,y175.2.2.2.2.2.2.2.2.2.2.2.2.2.1,y175.2.2.2.2.2.2.2.2.2.2.2.2.2.2.1,y175.2.2.2.2.2.2.2.2.2.2.2.2.2.2.2.1,y175.2.2.2.2.2.2.2.2.2.2.2.2.2.2.2.2.1,y175.2.2.2.2.2.2.2.2.2.2.2.2.2.2.2.2.2)))
def Yc8(lo:Lo):Zp15->Option (((List Int)×Int×Int×Int×Zt2×Bool×Bool×Int×Zt1)):=fun x=>match x with
  | (rhs2,x0_0,x0_1,h1_0,h1_1,h1_2,h1_3,h2_0,h2_1,r4_0,r4_1,out7,v25_0,v25_1,v25_2,v25_3)=>YAF (q51 lo out7) fun y176=>chk (y176.length=out7.length) (some (y176,x0_0,x0_1,h1_0,h1_1,h1_2,h1_3,h2_0,h2_1))
noncomputable def YgC(lo:Lo):Zp18->Option (((List Int)×Int×Int×Int×Zt2×Bool×Bool×Int×Zt1)):=fun x=>YAF (Yl3 lo x) (rngF Yew (Yc7 lo) (Yc8 lo))
noncomputable def Yex(lo:Lo):LpE:=⟨20,[(7,none,false)],(Zsg [0,2,4,7] [.ptr 0 0 0,.i .u32,.ptr 3 0 0,.ref 4] [.st [.j,.i .u32,.np 1,.np 2],.st [.j,.l Zc5,.b,.b],.fp none (cs [I]),.st [.j,.l Zc3],.sq (cs [I])]),[⟨.ret,(Zsg [6,0] [.l (cs [I]),.ptr 0 0 0] [.st [.j,.i .u32,.np 1,.np 2],.st [.j,.l Zc5,.b,.b],.fp none (cs [I])])⟩],YgC lo⟩
noncomputable def YuB(lo:Lo):LL:=(Yex lo,q52_J20_b.er)::YlZ lo
theorem YuC(lo:Lo):Lk lo pf (fs52 lo) 3 (YuB lo):=
  .m (Yuz lo) (it:=25) (nx:=26) (mo:=27) (out:=0) (own:=(Yex lo).own) (g0:=(Yex lo).g) (outs:=(Yex lo).outs) (g:=YuA) (pre:=Yl0) (bb:=Yl1) (rest:=Yl2) (p:=Yew) (t:=Yc7 lo) (r:=Yc8 lo) (u:=Yl3 lo) (by kernel_rfl) (fun x=>by kernel_rfl) (fun x b=>by kernel_rfl) (fun x=>by kernel_rfl) (fun x=>by kernel_rfl) rfl
noncomputable def q52(lo:Lo)(r1_0:Int)(r1_1:List (Int×Int×ByteArray))(rhs2:Int)(x0_0:Int)(x0_1:Int)(h1_0:Int)(h1_1:List (Int×Int×Int×Zt0))(h1_2:Bool)(h1_3:Bool)(h2_0:Int)(h2_1:List (Int×ByteArray× (List Int))):Option ((List Int)×Int×Int×Int×Zt2×Bool×Bool×Int×Zt1):=
  bif(!decide ((r1_1.length:Int)=x0_0))then(some (([]:List Int),x0_0,x0_1,h1_0,h1_1,h1_2,h1_3,h2_0,h2_1))else(YAF (YgC lo (rhs2,x0_0,x0_1,h1_0,h1_1,h1_2,h1_3,h2_0,h2_1,r1_0,r1_1,[])) fun y177=>some (y177.1,y177.2.1,y177.2.2.1,y177.2.2.2.1,y177.2.2.2.2.1,y177.2.2.2.2.2.1,y177.2.2.2.2.2.2.1,y177.2.2.2.2.2.2.2.1,y177.2.2.2.2.2.2.2.2))
def YuD:VFn:=⟨true,77,[.t 6],
 (Rg [oG 4 1,o 6 (.mv (ke (cs [I])))]
 (.seq (Rg [oF 13 1 4,oL 14 13,oN 15 14,oM 16 0,o 17 (.nilc 16),oF 18 0 17,oL 19 18,oR 20 .neq 15 19]
 (.cond 20 (Rg [o 6 (.mv (ke (cs [I])))]
 (Fr 6))
 .skip))
 (Rg [o 7 (.mv (ke (cs [I])))]
 (.jn 20 q52_J20_b))))⟩
noncomputable def Yl4(lo:Lo):FnE:=Zfe 347 false (Zsg [0,1,2] [.ptr 0 0 0,.ag [.j,.l Zc3],.i .u32] [.st [.j,.i .u32,.np 1,.np 2],.st [.j,.l Zc5,.b,.b],.fp none (cs [I])]) (.l (cs [I])) [.st [.j,.i .u32,.np 1,.np 2],.st [.j,.l Zc5,.b,.b],.fp none (cs [I])] (fun x=>q52 lo x.1 x.2.1 x.2.2.1 x.2.2.2.1 x.2.2.2.2.1 x.2.2.2.2.2.1 x.2.2.2.2.2.2.1 x.2.2.2.2.2.2.2.1 x.2.2.2.2.2.2.2.2.1 x.2.2.2.2.2.2.2.2.2.1 x.2.2.2.2.2.2.2.2.2.2:Int×Zt0×Int×Int×Int×Int×Zt2×Bool×Bool×Int×Zt1->Option ((List Int)×Int×Int×Int×Zt2×Bool×Bool×Int×Zt1))
noncomputable def fs53(lo:Lo):List FnE:=Yl4 lo::fs52 lo
theorem YuE(h:GZ P fm fs52 lo)(t:Ti P fm 347 YuD):GZ P fm fs53 lo:=
  h.i (Yl4 lo) (YuC lo) t
def q53(lo:Lo)(l:List Int)(n:Int):Option (Int×List Int):=delF (l,n)
def YuF(lo:Lo):FnE:=delE 365 366
noncomputable def fs54(lo:Lo):List FnE:=YuF lo::fs53 lo
theorem YuG(h:GZ P fm fs53 lo)(hG: ∀f,fm f=365->Ywr P f=true/\ ∃ρ:Go.Shelf.Ren,Go.Proofs.SlLaysH.n10 P ρ/\ (∀w,(zeroValue (ρ.t 23)).run P w= .ok (.int .i64 0) w)/\ (∀f,fm f=366->EqClo P f)/\ρ.f 10=f):GZ P fm fs54 lo:=
  ⟨h.1,h.2,Yr3 h.S 366 rfl hG⟩
def q54(lo:Lo)(id1:Int)(x0_0:Int)(x0_1:Int)(h1_0:Int)(h1_1:List (Int×Int×Int×Zt0))(h1_2:Bool)(h1_3:Bool)(h2_0:Int)(h2_1:List (Int×ByteArray× (List Int))):Option Zp21:=
  bif(!(mhs eqI id1 h1_1))then(some ((4:Int),x0_0,x0_1,h1_0,h1_1,h1_2,h1_3,h2_0,h2_1))else(YAF (q8 lo ((mgt eqI id1 h1_1 ((0:Int),[])).1) ((mgt eqI id1 h1_1 ((0:Int),[])).2) x0_0 x0_1 h1_0 (mdl eqI id1 h1_1) h1_2 h1_3 h2_0 h2_1) fun y180=>YAF (q14 lo y180.2.2.2.2.2.2.2.2) fun y181=>bif YAu (mix eqS y181 y180.2.2.2.2.2.2.2.1) y180.2.2.2.2.2.2.2.1.length then(YAF (q53 lo ((y180.2.2.2.2.2.2.2.1.getD (mix eqS y181 y180.2.2.2.2.2.2.2.1) ((0:Int),(YAY #[]),[])).2.2) id1) fun y182=>chk ((y182.2.length:Int)=(y182.2.length:Int)) (chk (mix eqS y181 y180.2.2.2.2.2.2.2.1=(mix eqS y181 y180.2.2.2.2.2.2.2.1)) (bif(decide ((y182.2.length:Int)=0))then(some ((0:Int),y180.1,y180.2.1,y180.2.2.1,y180.2.2.2.1,y180.2.2.2.2.1,y180.2.2.2.2.2.1,(mck eqS y180.2.2.2.2.2.2.1 y181 y180.2.2.2.2.2.2.2.1),(mdl eqS y181 (mpt eqS y180.2.2.2.2.2.2.1 y181 y182.2 y180.2.2.2.2.2.2.2.1))))else(some ((0:Int),y180.1,y180.2.1,y180.2.2.1,y180.2.2.2.1,y180.2.2.2.2.1,y180.2.2.2.2.2.1,(mck eqS y180.2.2.2.2.2.2.1 y181 y180.2.2.2.2.2.2.2.1),(mpt eqS y180.2.2.2.2.2.2.1 y181 y182.2 y180.2.2.2.2.2.2.2.1))))))else(none))
def YuH:VFn:=⟨true,51,[.t 4],
 (Rg [oG 3 1,oK 4 0]
 (Rg [oM 10 0,o 11 (.nilc 10),oF 12 2 11,⟨some 13,.load false 1 12,none,true,false⟩,⟨some 14,.load false 1 3,none,true,false⟩,⟨some 15,.mget (some .i64) I (cs [.l Zc3]) true true 13 14,none,true,false⟩,oM 9 15,oE 16 9 0,oE 17 9 1,o 5 (.alloc [.i .i64 0,.e Zc3]),oS 2 5 16,oM 6 17]
 (.seq (Rg [oM 18 6,oX 19 18]
 (.cond 19 (Rg [oK 4 4]
 .ret)
 .skip))
 (Rg [oM 20 0,o 21 (.nilc 20),oF 22 2 21,oL 23 22,oL 24 3,on (.mdel (some .i64) I (cs [.l Zc3]) 23 24)]
 (Rg [oM 25 0,oT 26 2 5,oC 27 362 [25,26],oC 28 361 [27],oM 7 28]
 (Rg [oM 29 0,o 30 (.nilc 29),oF 31 3 30,oL 32 31,oM 33 7,o 34 (.mget none (.l (cs [I])) (cs []) false false 32 33),o 35 (.mkf 366 [3]),o 36 (.callF 365 [34,35]),o 8 (.mvp 36)]
 (Rg [oM 37 0,o 38 (.nilc 37),oF 39 3 38,oL 40 39,oM 41 7,oM 42 8,on (.mput none (.l (cs [I])) (cs []) false 40 41 42)]
 (.seq (Rg [oM 43 8,oN 44 43,oR 45 .eql 44 (k 0)]
 (.cond 45 (.reg [oM 46 0,o 47 (.nilc 46),oF 48 3 47,oL 49 48,oM 50 7,on (.mdel none (.l (cs [I])) (cs []) 49 50)])
 .skip))
 (Rg [oK 4 0]
 .ret)))))))))⟩
def Yl5(lo:Lo):FnE:=Zfe 345 false (Zsg [0,1] [.ptr 0 0 0,.j] [.st [.j,.i .u32,.np 1,.np 2],.st [.j,.l Zc5,.b,.b],.fp none (cs [I])]) (.i .i64) [.st [.j,.i .u32,.np 1,.np 2],.st [.j,.l Zc5,.b,.b],.fp none (cs [I])] (fun x=>q54 lo x.1 x.2.1 x.2.2.1 x.2.2.2.1 x.2.2.2.2.1 x.2.2.2.2.2.1 x.2.2.2.2.2.2.1 x.2.2.2.2.2.2.2.1 x.2.2.2.2.2.2.2.2:Zp21->Option Zp21)
noncomputable def fs55(lo:Lo):List FnE:=Yl5 lo::fs54 lo
theorem YuI(h:GZ P fm fs54 lo)(t:Ti P fm 345 YuH):GZ P fm fs55 lo:=
  h.i (Yl5 lo) .n t
def q55(lo:Lo)(x0_0:Int)(x0_1:Int)(h1_0:Int)(h1_1:List (Int×Int×Int×Zt0))(h1_2:Bool)(h1_3:Bool)(h2_0:Int)(h2_1:List (Int×ByteArray× (List Int))):Option Zp21:=
  some ((h1_1.length:Int),x0_0,x0_1,h1_0,h1_1,h1_2,h1_3,h2_0,h2_1)
def YuJ:VFn:=⟨true,8,[.t 2],
 (Rg [oK 2 0]
 (Rg [oM 3 0,o 4 (.nilc 3),oF 5 2 4,oL 6 5,o 7 (.mlen 6),oM 2 7]
 .ret))⟩
def Yl6(lo:Lo):FnE:=Zfe 339 false (Zsg [0] [.ptr 0 0 0] [.st [.j,.i .u32,.np 1,.np 2],.st [.j,.l Zc5,.b,.b],.fp none (cs [I])]) (.i .i64) [.st [.j,.i .u32,.np 1,.np 2],.st [.j,.l Zc5,.b,.b],.fp none (cs [I])] (fun x=>q55 lo x.1 x.2.1 x.2.2.1 x.2.2.2.1 x.2.2.2.2.1 x.2.2.2.2.2.1 x.2.2.2.2.2.2.1 x.2.2.2.2.2.2.2:Int×Int×Int×Zt2×Bool×Bool×Int×Zt1->Option Zp21)
noncomputable def fs56(lo:Lo):List FnE:=Yl6 lo::fs55 lo
theorem YuK(h:GZ P fm fs55 lo)(t:Ti P fm 339 YuJ):GZ P fm fs56 lo:=
  h.i (Yl6 lo) .n t
noncomputable def q56(lo:Lo):Option Bool:=
  altO (q1 lo (2:Int) (1:Int)) (fun y0=>bif(!decide (y0.1=(0:Int)))then(some false)else(YAF (q2 lo (1:Int) (5:Int) (YAY #[120])) fun y1=>YAF (q21 lo y1.1 y1.2 y0.2.1 y0.2.2.1 y0.2.2.2.1 y0.2.2.2.2.1 y0.2.2.2.2.2.1 y0.2.2.2.2.2.2.1 y0.2.2.2.2.2.2.2.1 y0.2.2.2.2.2.2.2.2) fun y33=>bif(!decide (y33.1=(0:Int)))then(some false)else(YAF (q2 lo (2:Int) (7:Int) (YAY #[121])) fun y34=>YAF (q21 lo y34.1 y34.2 y33.2.1 y33.2.2.1 y33.2.2.2.1 y33.2.2.2.2.1 y33.2.2.2.2.2.1 y33.2.2.2.2.2.2.1 y33.2.2.2.2.2.2.2.1 y33.2.2.2.2.2.2.2.2) fun y35=>bif(!decide (y35.1=(0:Int)))then(some false)else(YAF (q2 lo (3:Int) (5:Int) (YAY #[122])) fun y36=>YAF (q21 lo y36.1 y36.2 y35.2.1 y35.2.2.1 y35.2.2.2.1 y35.2.2.2.2.1 y35.2.2.2.2.2.1 y35.2.2.2.2.2.2.1 y35.2.2.2.2.2.2.2.1 y35.2.2.2.2.2.2.2.2) fun y37=>bif(!decide (y37.1=(0:Int)))then(some false)else(YAF (q38 lo y37.2.1 y37.2.2.1 y37.2.2.2.1 y37.2.2.2.2.1 y37.2.2.2.2.2.1 y37.2.2.2.2.2.2.1 y37.2.2.2.2.2.2.2.1 y37.2.2.2.2.2.2.2.2) fun y104=>YAF (q40 lo y104.2.2.2.2.2.2.2.2 ([[(1:Int),(3:Int)],[(2:Int)]])) fun y112=>bif y112 then(YAF (q2 lo (9:Int) (5:Int) (YAY #[120])) fun y113=>YAF (q52 lo y113.1 y113.2 (2:Int) y104.1 y104.2.1 y104.2.2.1 y104.2.2.2.1 y104.2.2.2.2.1 y104.2.2.2.2.2.1 y104.2.2.2.2.2.2.1 y104.2.2.2.2.2.2.2.1) fun y178=>YAF (q39 lo y178.1 ([(3:Int)])) fun y179=>bif y179 then(YAF (q54 lo (1:Int) y178.2.1 y178.2.2.1 y178.2.2.2.1 y178.2.2.2.2.1 y178.2.2.2.2.2.1 y178.2.2.2.2.2.2.1 y178.2.2.2.2.2.2.2.1 y178.2.2.2.2.2.2.2.2) fun y183=>bif(decide (y183.1=(0:Int)))then(YAF (q38 lo y183.2.1 y183.2.2.1 y183.2.2.2.1 y183.2.2.2.2.1 y183.2.2.2.2.2.1 y183.2.2.2.2.2.2.1 y183.2.2.2.2.2.2.2.1 y183.2.2.2.2.2.2.2.2) fun y184=>YAF (q40 lo y184.2.2.2.2.2.2.2.2 ([[(3:Int)],[(2:Int)]])) fun y185=>bif y185 then(YAF (q55 lo y184.1 y184.2.1 y184.2.2.1 y184.2.2.2.1 y184.2.2.2.2.1 y184.2.2.2.2.2.1 y184.2.2.2.2.2.2.1 y184.2.2.2.2.2.2.2.1) fun y186=>some (decide (y186.1=(2:Int))))else(some false))else(some false))else(some false))else(some false)))))) (YAF (q0 lo (2:Int) (1:Int)) fun y187=>bif(!decide (y187=0))then(some false)else(some false))
def YuL:VFn:=⟨true,69,[.t 0],
 (Rg [oB 0 false]
 (Rg [o 1 (.mv (.c (.f 358)))]
 (Rg [oC 6 337 [(k 2),(ki .u32 1)],oM 5 6,oE 7 5 0,oE 8 5 1,oM 2 7,oM 3 8]
 (.seq (Rg [oM 9 3,oR 10 .neq 9 (k 0),oM 11 10,gF 12 11 (.mv 2),gF 13 11 (.isp false 12),oP 14 11 (kb true) 13,oM 15 14,gF 16 15 (.mv 2),gF 17 15 (.mv 1),gF 18 15 (.dyn 17 [(k 1),(k 5),(ks (⟨#[120]⟩))]),gF 19 15 (.call 343 [16,18]),gF 20 15 (.bin .neq 19 (k 0)),oP 21 15 (kb true) 20,oM 22 21,gF 23 22 (.mv 2),gF 24 22 (.mv 1),gF 25 22 (.dyn 24 [(k 2),(k 7),(ks (⟨#[121]⟩))]),gF 26 22 (.call 343 [23,25]),gF 27 22 (.bin .neq 26 (k 0)),oP 28 22 (kb true) 27,oM 29 28,gF 30 29 (.mv 2),gF 31 29 (.mv 1),gF 32 29 (.dyn 31 [(k 3),(k 5),(ks (⟨#[122]⟩))]),gF 33 29 (.call 343 [30,32]),gF 34 29 (.bin .neq 33 (k 0)),oP 35 29 (kb true) 34]
 (.cond 35 (Rg [oB 0 false]
 (Fr 0))
 .skip))
 (Rg [oM 36 2,oC 37 340 [36],o 38 (.bsl (cs [I]) 2 [(0,(k 1)),(1,(k 3))]),o 39 (.bsl (cs [I]) 1 [(0,(k 2))]),o 40 (.bsl Zc9 2 [(0,38),(1,39)]),oC 41 346 [37,40],oM 42 41,gT 43 42 (.mv 2),gT 44 42 (.mv 1),gT 45 42 (.dyn 44 [(k 9),(k 5),(ks (⟨#[120]⟩))]),gT 46 42 (.call 347 [43,45,(ki .u32 2)]),gT 47 42 (.bsl (cs [I]) 1 [(0,(k 3))]),gT 48 42 (.call 351 [46,47]),oP 49 42 48 (kb false),oM 4 49]
 (Rg [oM 50 4,oM 51 50,gT 52 51 (.mv 2),gT 53 51 (.call 345 [52,(k 1)]),gT 54 51 (.bin .eql 53 (k 0)),oP 55 51 54 (kb false),oM 56 55,gT 57 56 (.mv 2),gT 58 56 (.call 340 [57]),gT 59 56 (.bsl (cs [I]) 1 [(0,(k 3))]),gT 60 56 (.bsl (cs [I]) 1 [(0,(k 2))]),gT 61 56 (.bsl Zc9 2 [(0,59),(1,60)]),gT 62 56 (.call 346 [58,61]),oP 63 56 62 (kb false),oM 64 63,gT 65 64 (.mv 2),gT 66 64 (.call 339 [65]),gT 67 64 (.bin .eql 66 (k 2)),oP 68 64 67 (kb false),oM 0 68]
 (Fr 0)))))))⟩
noncomputable def Yl7(lo:Lo):FnE:=Zfe 336 true (Zsg [] [] []) .b [] (fun x=>q56 lo:Unit->Option Bool)
noncomputable def fs57(lo:Lo):List FnE:=Yl7 lo::fs56 lo
theorem YuM(h:GZ P fm fs56 lo)(t:Ti P fm 336 YuL):GZ P fm fs57 lo:=
  h.p (Yl7 lo) .n t
def q57_L3_b:VCode:=
 (.seq (Rg [oM 5 4,oM 6 0,oR 7 .lss 5 6,oM 8 7,gT 9 8 (.mv 4),gT 10 8 (.bin .lss 9 (k 32)),oP 11 8 10 (kb false)]
 (Ce 11 0))
 (.seq (.blk 1 (.reg [oM 14 3,oM 15 4,oR 16 .shl (ki .u32 1) 15,oR 17 .or 14 16,oM 3 17]))
 (.reg [oM 12 4,oR 13 .add 12 (k 1),oM 4 13])))
def Yey(lo:Lo):Int×Int×Int->Option ((Int×Int×Int)⊕Int):=fun x=>match x with
  | (n0,s3,i4)=>bif(decide (i4<n0))then(bif(decide (i4<32))then(chk (0<=i4) (some (.inl (n0,(bits .or .u32 s3 (YAZ .u32 ((1:Int)*2^(min i4.toNat (IntKind.bits .u32))))),(YAZ .i64 (i4+1))))))else(some (.inr s3)))else(some (.inr s3))
def YgD(lo:Lo):Int×Int×Int->Option Int:=lo.run (Yey lo)
def YuN(lo:Lo):LpE:=⟨3,[],(Zsg [0,3,4] [.j,.i .u32,.j] []),[⟨.exit 0,(Zsg [3] [.i .u32] [])⟩],YgD lo⟩
def YuO(lo:Lo):LL:=(YuN lo,.loop q57_L3_b.er)::[]
theorem YuP(lo:Lo):Lk lo pf (fs57 lo) 0 (YuO lo):=.l .n (Yey lo)
def q57(lo:Lo)(n0:Int):Option Int:=
  YAF (YgD lo (n0,(0:Int),(0:Int))) fun y190=>some y190
def YuQ:VFn:=⟨true,19,[.t 2],
 (Rg [o 2 (.mv (ki .u32 0))]
 (Rg [o 3 (.mv (ki .u32 0))]
 (.seq (Rg [oK 4 0]
 (.blk 0 (.loop 3 q57_L3_b)))
 (Rg [oM 18 3,oM 2 18]
 (Fr 2)))))⟩
def Yl8(lo:Lo):FnE:=Zfe 118 true (Zsg [0] [.j] []) (.i .u32) [] (fun x=>q57 lo x:Int->Option Int)
noncomputable def fs58(lo:Lo):List FnE:=Yl8 lo::fs57 lo
theorem YuR(h:GZ P fm fs57 lo)(t:Ti P fm 118 YuQ):GZ P fm fs58 lo:=
  h.p (Yl8 lo) (YuP lo) t
end Go.Abs.G35
namespace Go.Abs.G35
open Go Go.Abs
set_option maxRecDepth 100000
set_option maxHeartbeats 1000000
variable{P:Program}{fm:FM}{lo:Lo}
noncomputable def fs59(lo:Lo):List FnE:=fs58 lo
noncomputable def fs60(lo:Lo):List FnE:=fs59 lo
def q60(lo:Lo)(z0_0:Int)(z0_1:Int):Option (Int×Int×Zt6):=
  chk ((6:Int)≠0) (YAF (q57 lo (YAZ .i64 (z0_0.tmod (6:Int)))) fun y202=>altO (q1 lo (YAZ .i64 (z0_0.tmod (6:Int))) (bits .and .u32 z0_1 y202)) (fun y203=>bif(!decide (y203.1=(0:Int)))then(some ((0:Int),(0:Int),([]:List (Int×Zt0))))else(none)) (YAF (q0 lo (YAZ .i64 (z0_0.tmod (6:Int))) (bits .and .u32 z0_1 y202)) fun y204=>bif(!decide (y204=0))then(some ((0:Int),(0:Int),([]:List (Int×Zt0))))else(some ((YAZ .i64 (z0_0.tmod (6:Int))),(bits .and .u32 z0_1 y202),([]:List (Int×Zt0))))))
def YuS:VFn:=⟨true,30,[.t 2,.c 3 true 3],
 (Rg [oG 1 0,o 2 (.mv (.c (.one .nl))),o 3 (.alloc [.i .i64 0,.i .u32 0,.e Zc7])]
 (Rg [oF 8 0 1,oL 9 8,oR 10 .rem 9 (ki .u8 6),o 11 (.conv .i64 10),oM 4 11]
 (Rg [oF 12 1 1,oL 13 12,oM 14 4,oC 15 118 [14],oR 16 .and 13 15,oM 5 16]
 (Rg [oM 18 4,oM 19 5,oC 20 337 [18,19],oM 17 20,oE 21 17 0,oE 22 17 1,oM 6 21,oM 7 22]
 (.seq (Rg [oM 23 7,oR 24 .neq 23 (k 0)]
 (.cond 24 (Rg [o 25 (.build [.i .i64 0,.i .u32 0,.e Zc7] []),o 2 (.mv (.c (.one .nl))),oS 3 3 25]
 (Fr 2))
 .skip))
 (Rg [oM 26 6,oM 27 4,oM 28 5,o 29 (.build [.i .i64 0,.i .u32 0,.e Zc7] [(0,1,27),(1,1,28)]),oM 2 26,oS 3 3 29]
 (Fr 2)))))))⟩
def Yl9(lo:Lo):FnE:=Zfe 341 false (Zsg [0] [.ag [.i .u8,.i .u32]] []) (.tp [.nl,.ag [.j,.i .u32,.l Zc7]]) [] (fun x=>q60 lo x.1 x.2:Int×Int->Option (Int×Int×Zt6))
noncomputable def fs61(lo:Lo):List FnE:=Yl9 lo::fs60 lo
theorem YuT(h:GZ P fm fs60 lo)(t:Ti P fm 341 YuS):GZ P fm fs61 lo:=
  h.i (Yl9 lo) .n t
def q61(lo:Lo)(z0_0:Int)(z0_1:Int):Option (Int×Int×Zt6×Int×Int×Int×Zt2×Bool×Bool×Int×Zt1):=
  chk ((6:Int)≠0) (YAF (q57 lo (YAZ .i64 (z0_0.tmod (6:Int)))) fun y205=>altO (q1 lo (YAZ .i64 (z0_0.tmod (6:Int))) (bits .and .u32 z0_1 y205)) (fun y206=>bif(!decide (y206.1=(0:Int)))then(none)else(some ((YAZ .i64 (z0_0.tmod (6:Int))),(bits .and .u32 z0_1 y205),([]:List (Int×Zt0)),y206.2.1,y206.2.2.1,y206.2.2.2.1,y206.2.2.2.2.1,y206.2.2.2.2.2.1,y206.2.2.2.2.2.2.1,y206.2.2.2.2.2.2.2.1,y206.2.2.2.2.2.2.2.2))) (YAF (q0 lo (YAZ .i64 (z0_0.tmod (6:Int))) (bits .and .u32 z0_1 y205)) fun y207=>bif(!decide (y207=0))then(none)else(none)))
def YuU:VFn:=⟨true,30,[.t 2,.c 3 true 3],
 (Rg [oG 1 0,o 2 (.mv (.c (.one .nl))),o 3 (.alloc [.i .i64 0,.i .u32 0,.e Zc7])]
 (Rg [oF 8 0 1,oL 9 8,oR 10 .rem 9 (ki .u8 6),o 11 (.conv .i64 10),oM 4 11]
 (Rg [oF 12 1 1,oL 13 12,oM 14 4,oC 15 118 [14],oR 16 .and 13 15,oM 5 16]
 (Rg [oM 18 4,oM 19 5,oC 20 337 [18,19],oM 17 20,oE 21 17 0,oE 22 17 1,oM 6 21,oM 7 22]
 (.seq (Rg [oM 23 7,oR 24 .neq 23 (k 0)]
 (.cond 24 (Rg [o 25 (.build [.i .i64 0,.i .u32 0,.e Zc7] []),o 2 (.mv (.c (.one .nl))),oS 3 3 25]
 .ret)
 .skip))
 (Rg [oM 26 6,oM 27 4,oM 28 5,o 29 (.build [.i .i64 0,.i .u32 0,.e Zc7] [(0,1,27),(1,1,28)]),oM 2 26,oS 3 3 29]
 .ret))))))⟩
def Yma(lo:Lo):FnE:=Zfe 341 false (Zsg [0] [.ag [.i .u8,.i .u32]] []) (.tp [.ptr 0 0 0,.ag [.j,.i .u32,.l Zc7]]) [.st [.j,.i .u32,.np 1,.np 2],.st [.j,.l Zc5,.b,.b],.fp none (cs [I])] (fun x=>q61 lo x.1 x.2:Int×Int->Option (Int×Int×Zt6×Int×Int×Int×Zt2×Bool×Bool×Int×Zt1))
noncomputable def fs62(lo:Lo):List FnE:=Yma lo::fs61 lo
theorem YuV(h:GZ P fm fs61 lo)(t:Ti P fm 341 YuU):GZ P fm fs62 lo:=
  h.i (Yma lo) .n t
def q62_L3_b:VCode:=
 (.seq (Rg [oM 6 5,oF 7 2 2,oL 8 7,oN 9 8,oR 10 .lss 6 9]
 (Ce 10 0))
 (.seq (.blk 1 (Rg [oF 13 2 2,oL 14 13,oM 15 5,oI 16 2 14 15,oF 17 0 16,oL 18 17,oM 19 1,oR 20 .eql 18 19]
 (.cond 20 (Rg [oM 21 5,oM 4 21]
 (Fr 4))
 .skip)))
 (.reg [oM 11 5,oR 12 .add 11 (k 1),oM 5 12])))
def Yez(lo:Lo):Int×Int×Int×Int×Zt6->Option ((Int×Int×Int×Int×Zt6)⊕ (Int⊕Unit)):=fun x=>match x with
  | (id1,i5,m2_0,m2_1,m2_2)=>bif(decide (i5< (m2_2.length:Int)))then(chk (0<=i5/\i5< (m2_2.length:Int)) (bif(decide ((m2_2.getD i5.toNat ((0:Int),[])).1=id1))then(some (.inr (.inl i5)))else(some (.inl (id1,(YAZ .i64 (i5+1)),m2_0,m2_1,m2_2)))))else(some (.inr (.inr ())))
def YgE(lo:Lo):Int×Int×Int×Int×Zt6->Option (Int⊕Unit):=lo.run (Yez lo)
def YuW(lo:Lo):LpE:=⟨3,[],(Zsg [1,2,5] [.j,.ptr 0 0 0,.j] [.st [.j,.i .u32,.l Zc7]]),[⟨.ret,(Zsg [4] [.j] [])⟩,⟨.exit 0,(Zsg [] [] [])⟩],YgE lo⟩
def YuX(lo:Lo):LL:=(YuW lo,.loop q62_L3_b.er)::[]
theorem YuY(lo:Lo):Lk lo pf (fs62 lo) 0 (YuX lo):=.l .n (Yez lo)
def q62(lo:Lo)(m0_0:Int)(m0_1:Int)(m0_2:List (Int×Zt0))(id1:Int):Option Int:=
  YAF (YgE lo (id1,(0:Int),m0_0,m0_1,m0_2)) fun y211=>alt2 y211 (fun y212=>some y212) (fun y213=>some (-1:Int))
def YuZ:VFn:=⟨true,22,[.t 4],
 (Rg [oG 2 0,oK 4 0]
 (.seq (Rg [oK 5 0]
 (.blk 0 (.loop 3 q62_L3_b)))
 (Rg [oK 4 (-1)]
 (Fr 4))))⟩
def Ymb(lo:Lo):FnE:=Zfe 354 true (Zsg [0,1] [.ag [.j,.i .u32,.l Zc7],.j] []) (.i .i64) [] (fun x=>q62 lo x.1 x.2.1 x.2.2.1 x.2.2.2:Int×Int×Zt6×Int->Option Int)
noncomputable def fs63(lo:Lo):List FnE:=Ymb lo::fs62 lo
theorem Yu0(h:GZ P fm fs62 lo)(t:Ti P fm 354 YuZ):GZ P fm fs63 lo:=
  h.p (Ymb lo) (YuY lo) t
def q63(lo:Lo)(m0_0:Int)(m0_1:Int)(m0_2:List (Int×Zt0))(id1:Int):Option (Int×Int×Zt6×Int):=
  YAF (q62 lo m0_0 m0_1 m0_2 id1) fun y214=>bif(decide (y214<0))then(some (m0_0,m0_1,m0_2,(4:Int)))else(chk (0<=(0:Int)/\0<=y214/\y214<=(m0_2.length:Int)) (chk (((m0_2.take y214.toNat).drop 0).length<=maxEl) (chk (0<=(YAZ .i64 (y214+1))/\ (YAZ .i64 (y214+1))<=(m0_2.length:Int)/\ (m0_2.length:Int)<=(m0_2.length:Int)) (chk (((m0_2.take y214.toNat).drop 0).length+((m0_2.take (m0_2.length:Int).toNat).drop (YAZ .i64 (y214+1)).toNat).length<=maxEl) (some (m0_0,m0_1,(((m0_2.take y214.toNat).drop 0)++((m0_2.take (m0_2.length:Int).toNat).drop (YAZ .i64 (y214+1)).toNat)),(0:Int)))))))
def Yu1:VFn:=⟨true,27,[.c 4 true 3,.t 5],
 (Rg [oG 2 0,o 4 (.alloc [.i .i64 0,.i .u32 0,.e Zc7]),oK 5 0]
 (Rg [oT 7 3 2,oM 8 1,oC 9 354 [7,8],oM 6 9]
 (.seq (Rg [oM 10 6,oR 11 .lss 10 (k 0)]
 (.cond 11 (Rg [oT 12 3 2,oS 3 4 12,oK 5 4]
 (.fz [4,5] .ret))
 .skip))
 (Rg [o 13 (.bsl Zc7 0 []),oF 14 2 2,oL 15 14,oM 16 6,o 17 (.slcR 2 15 none (some 16)),⟨some 18,.app Zc7 0 13 17,none,false,true⟩,oF 19 2 2,⟨some 20,.load false 1 19,none,true,false⟩,oM 21 6,oR 22 .add 21 (k 1),o 23 (.slcR 2 20 (some 22) none),o 24 (.app Zc7 0 18 23),oF 25 2 2,oS 1 25 24]
 (Rg [oT 26 3 2,oS 3 4 26,oK 5 0]
 (.fz [4,5] .ret))))))⟩
def Ymc(lo:Lo):FnE:=Zfe 359 true (Zsg [0,1] [.ag [.j,.i .u32,.l Zc7],.j] []) (.tp [.ag [.j,.i .u32,.l Zc7],.j]) [] (fun x=>q63 lo x.1 x.2.1 x.2.2.1 x.2.2.2:Int×Int×Zt6×Int->Option (Int×Int×Zt6×Int))
noncomputable def fs64(lo:Lo):List FnE:=Ymc lo::fs63 lo
theorem Yu2(h:GZ P fm fs63 lo)(t:Ti P fm 359 Yu1):GZ P fm fs64 lo:=
  h.p (Ymc lo) .n t
def q64(lo:Lo)(code0:Int):Option (Int×Int×ByteArray):=
  chk ((12:Int)≠0) (bif(decide ((code0.tmod (12:Int))=(0:Int)))then(some ((1:Int),(0:Int),(YAY #[])))else(bif(decide ((code0.tmod (12:Int))=(1:Int)))then(some ((1:Int),(1:Int),(YAY #[])))else(bif(decide ((code0.tmod (12:Int))=(2:Int)))then(some ((1:Int),(2:Int),(YAY #[])))else(bif(decide ((code0.tmod (12:Int))=(3:Int)))then(some Zd1)else(bif(decide ((code0.tmod (12:Int))=(4:Int)))then(some ((2:Int),(0:Int),(YAY #[97])))else(bif(decide ((code0.tmod (12:Int))=(5:Int)))then(some ((2:Int),(0:Int),(YAY #[98])))else(bif(decide ((code0.tmod (12:Int))=(6:Int)))then(some ((2:Int),(0:Int),(YAY #[])))else(bif(decide ((code0.tmod (12:Int))=(7:Int)))then(some ((3:Int),(1:Int),(YAY #[])))else(bif(decide ((code0.tmod (12:Int))=(8:Int)))then(some ((1:Int),(-1:Int),(YAY #[])))else(bif(decide ((code0.tmod (12:Int))=(9:Int)))then(some ((2:Int),(0:Int),(YAY #[97,98])))else(bif(decide ((code0.tmod (12:Int))=(10:Int)))then(some ((3:Int),(2:Int),(YAY #[])))else(some ((1:Int),(7:Int),(YAY #[]))))))))))))))
def Yu3:VFn:=⟨true,39,[.c 2 true 3],
 (Rg [o 2 (.alloc [.i .i64 0,.i .i64 0,.s (⟨#[]⟩)])]
 (.seq (Rg [oM 3 0,oR 4 .rem 3 (ki .u8 12)]
 (.blk 0 (Rg [oR 6 .eql 4 (ki .u8 0),oM 5 6]
 (.cond 5 (Rg [o 7 (.build [.i .i64 0,.i .i64 0,.s (⟨#[]⟩)] [(0,1,(k 1))]),oS 3 2 7]
 (Fr 2))
 (Rg [oR 9 .eql 4 (ki .u8 1),oM 8 9]
 (.cond 8 (Rg [o 10 (.build [.i .i64 0,.i .i64 0,.s (⟨#[]⟩)] [(0,1,(k 1)),(1,1,(k 1))]),oS 3 2 10]
 (Fr 2))
 (Rg [oR 12 .eql 4 (ki .u8 2),oM 11 12]
 (.cond 11 (Rg [o 13 (.build [.i .i64 0,.i .i64 0,.s (⟨#[]⟩)] [(0,1,(k 1)),(1,1,(k 2))]),oS 3 2 13]
 (Fr 2))
 (Rg [oR 15 .eql 4 (ki .u8 3),oM 14 15]
 (.cond 14 (Rg [o 16 (.build [.i .i64 0,.i .i64 0,.s (⟨#[]⟩)] []),oS 3 2 16]
 (Fr 2))
 (Rg [oR 18 .eql 4 (ki .u8 4),oM 17 18]
 (.cond 17 (Rg [o 19 (.build [.i .i64 0,.i .i64 0,.s (⟨#[]⟩)] [(0,1,(k 2)),(2,1,(ks (⟨#[97]⟩)))]),oS 3 2 19]
 (Fr 2))
 (Rg [oR 21 .eql 4 (ki .u8 5),oM 20 21]
 (.cond 20 (Rg [o 22 (.build [.i .i64 0,.i .i64 0,.s (⟨#[]⟩)] [(0,1,(k 2)),(2,1,(ks (⟨#[98]⟩)))]),oS 3 2 22]
 (Fr 2))
 (Rg [oR 24 .eql 4 (ki .u8 6),oM 23 24]
 (.cond 23 (Rg [o 25 (.build [.i .i64 0,.i .i64 0,.s (⟨#[]⟩)] [(0,1,(k 2))]),oS 3 2 25]
 (Fr 2))
 (Rg [oR 27 .eql 4 (ki .u8 7),oM 26 27]
 (.cond 26 (Rg [o 28 (.build [.i .i64 0,.i .i64 0,.s (⟨#[]⟩)] [(0,1,(k 3)),(1,1,(k 1))]),oS 3 2 28]
 (Fr 2))
 (Rg [oR 30 .eql 4 (ki .u8 8),oM 29 30]
 (.cond 29 (Rg [o 31 (.build [.i .i64 0,.i .i64 0,.s (⟨#[]⟩)] [(0,1,(k 1)),(1,1,(k (-1)))]),oS 3 2 31]
 (Fr 2))
 (Rg [oR 33 .eql 4 (ki .u8 9),oM 32 33]
 (.cond 32 (Rg [o 34 (.build [.i .i64 0,.i .i64 0,.s (⟨#[]⟩)] [(0,1,(k 2)),(2,1,(ks (⟨#[97,98]⟩)))]),oS 3 2 34]
 (Fr 2))
 (Rg [oR 36 .eql 4 (ki .u8 10),oM 35 36]
 (.cond 35 (Rg [o 37 (.build [.i .i64 0,.i .i64 0,.s (⟨#[]⟩)] [(0,1,(k 3)),(1,1,(k 2))]),oS 3 2 37]
 (Fr 2))
 .skip))))))))))))))))))))))))
 (Rg [o 38 (.build [.i .i64 0,.i .i64 0,.s (⟨#[]⟩)] [(0,1,(k 1)),(1,1,(k 7))]),oS 3 2 38]
 (Fr 2))))⟩
def Ymd(lo:Lo):FnE:=Zfe 251 true (Zsg [0] [.i .u8] []) (.ag [.j,.j,.s]) [] (fun x=>q64 lo x:Int->Option (Int×Int×ByteArray))
noncomputable def fs65(lo:Lo):List FnE:=Ymd lo::fs64 lo
theorem Yu4(h:GZ P fm fs64 lo)(t:Ti P fm 251 Yu3):GZ P fm fs65 lo:=
  h.p (Ymd lo) .n t
def q65_L3_b:VCode:=
 (.seq (Rg [oM 5 4,oM 6 0,oN 7 6,oR 8 .lss 5 7]
 (Ce 8 0))
 (.seq (.blk 1 (.reg [oM 11 3,oM 12 0,oM 13 4,oI 14 1 12 13,oL 15 14,oC 16 251 [15],o 17 (.bsl Zc3 1 [(0,16)]),o 18 (.app Zc3 0 11 17),oM 3 18]))
 (.reg [oM 9 4,oR 10 .add 9 (k 1),oM 4 10])))
def YeA(lo:Lo):(List Int)×Int×Zt0->Option (((List Int)×Int×Zt0)⊕ ((Zt0))):=fun x=>match x with
  | (codes0,i4,out3)=>bif(decide (i4< (codes0.length:Int)))then(chk (0<=i4/\i4< (codes0.length:Int)) (YAF (q64 lo (codes0.getD i4.toNat (0:Int))) fun y216=>chk (out3.length+[y216].length<=maxEl) (some (.inl (codes0,(YAZ .i64 (i4+1)),(out3++[y216]))))))else(some (.inr out3))
def YgF(lo:Lo):(List Int)×Int×Zt0->Option ((Zt0)):=lo.run (YeA lo)
def Yu5(lo:Lo):LpE:=⟨3,[(3,none,false)],(Zsg [0,3,4] [.l Zc11,.ref 0,.j] [.sq Zc3]),[⟨.exit 0,(Zsg [3] [.ref 0] [.sq Zc3])⟩],YgF lo⟩
def Yu6(lo:Lo):LL:=(Yu5 lo,.loop q65_L3_b.er)::[]
theorem Yu7(lo:Lo):Lk lo pf (fs65 lo) 0 (Yu6 lo):=.l .n (YeA lo)
def q65(lo:Lo)(codes0:List Int):Option (Zt0):=
  YAF (YgF lo (codes0,(0:Int),[])) fun y217=>some y217
def Yu8:VFn:=⟨true,20,[.t 2],
 (Rg [o 2 (.mv (ke Zc3))]
 (Rg [o 3 (.mv (ke Zc3))]
 (.seq (Rg [oK 4 0]
 (.blk 0 (.loop 3 q65_L3_b)))
 (Rg [oM 19 3,oM 2 19]
 (Fr 2)))))⟩
def Yme(lo:Lo):FnE:=Zfe 355 true (Zsg [0] [.l Zc11] []) (.l Zc3) [] (fun x=>q65 lo x:(List Int)->Option (Zt0))
noncomputable def fs66(lo:Lo):List FnE:=Yme lo::fs65 lo
theorem Yu9(h:GZ P fm fs65 lo)(t:Ti P fm 355 Yu8):GZ P fm fs66 lo:=
  h.p (Yme lo) (Yu7 lo) t
def q66(lo:Lo)(o0_0:Bool)(o0_1:Int)(o0_2:List Int):Option (Int×Zt0):=
  YAF (q65 lo o0_2) fun y218=>some ((YAZ .i64 o0_1),y218)
def Yva:VFn:=⟨true,10,[.c 2 true 2],
 (Rg [oG 1 0,o 2 (.alloc [.i .i64 0,.e Zc3])]
 (Rg [oF 3 1 1,oL 4 3,o 5 (.conv .i64 4),oF 6 2 1,oL 7 6,oC 8 355 [7],o 9 (.build [.i .i64 0,.e Zc3] [(0,1,5),(1,1,8)]),oS 2 2 9]
 (Fr 2)))⟩
def Ymf(lo:Lo):FnE:=Zfe 344 true (Zsg [0] [.ag [.b,.i .i8,.l Zc11]] []) (.ag [.j,.l Zc3]) [] (fun x=>q66 lo x.1 x.2.1 x.2.2:Bool×Int× (List Int)->Option (Int×Zt0))
noncomputable def fs67(lo:Lo):List FnE:=Ymf lo::fs66 lo
theorem Yvb(h:GZ P fm fs66 lo)(t:Ti P fm 344 Yva):GZ P fm fs67 lo:=
  h.p (Ymf lo) .n t
def q67(lo:Lo)(v0_0:Int)(v0_1:Int)(v0_2:ByteArray):Option Bool:=
  bif(decide (v0_0=0))then(bif(decide (v0_1=0))then(some (decide (v0_2=(YAY #[]))))else(some false))else(bif(decide (v0_0=1))then(some (decide (v0_2=(YAY #[]))))else(bif(decide (v0_0=2))then(bif(decide (v0_1=0))then(some (decide ((v0_2.size:Int)<=200)))else(some false))else(bif(decide (v0_0=3))then(bif(decide (1<=v0_1))then(some (decide (v0_2=(YAY #[]))))else(some false))else(some false))))
def Yvc:VFn:=⟨true,44,[.t 2],
 (Rg [oG 1 0,oB 2 false]
 (.seq (Rg [oF 3 0 1,oL 4 3]
 (.blk 0 (Rg [oR 6 .eql 4 (k 0),oM 5 6]
 (.cond 5 (Rg [oF 7 1 1,oL 8 7,oR 9 .eql 8 (k 0),oM 10 9,gT 11 10 (.fad 2 1),gT 12 10 (.load false 1 11),gT 13 10 (.bin .eql 12 (ks (⟨#[]⟩))),oP 14 10 13 (kb false),oM 2 14]
 (Fr 2))
 (Rg [oR 16 .eql 4 (k 1),oM 15 16]
 (.cond 15 (Rg [oF 17 2 1,oL 18 17,oR 19 .eql 18 (ks (⟨#[]⟩)),oM 2 19]
 (Fr 2))
 (Rg [oR 21 .eql 4 (k 2),oM 20 21]
 (.cond 20 (Rg [oF 22 1 1,oL 23 22,oR 24 .eql 23 (k 0),oM 25 24,gT 26 25 (.fad 2 1),gT 27 25 (.load false 1 26),gT 28 25 (.lenS 27),gT 29 25 (.bin .leq 28 (k 200)),oP 30 25 29 (kb false),oM 2 30]
 (Fr 2))
 .skip))))))))
 (Rg [oF 31 0 1,oL 32 31,oR 33 .eql 32 (k 3),oM 34 33,gT 35 34 (.fad 1 1),gT 36 34 (.load false 1 35),gT 37 34 (.bin .geq 36 (k 1)),oP 38 34 37 (kb false),oM 39 38,gT 40 39 (.fad 2 1),gT 41 39 (.load false 1 40),gT 42 39 (.bin .eql 41 (ks (⟨#[]⟩))),oP 43 39 42 (kb false),oM 2 43]
 (Fr 2))))⟩
def Ymg(lo:Lo):FnE:=Zfe 284 true (Zsg [0] [.ag [.j,.j,.s]] []) .b [] (fun x=>q67 lo x.1 x.2.1 x.2.2:Int×Int×ByteArray->Option Bool)
noncomputable def fs68(lo:Lo):List FnE:=Ymg lo::fs67 lo
theorem Yvd(h:GZ P fm fs67 lo)(t:Ti P fm 284 Yvc):GZ P fm fs68 lo:=
  h.p (Ymg lo) .n t
def q68_L3_b:VCode:=
 (.seq (Rg [oM 4 3,oM 5 0,oN 6 5,oR 7 .lss 4 6]
 (Ce 7 0))
 (.seq (.blk 1 (Rg [oM 10 0,oM 11 3,oI 12 3 10 11,oT 13 3 12,oC 14 284 [13],oX 15 14]
 (.cond 15 (Rg [oB 2 false]
 (Fr 2))
 .skip)))
 (.reg [oM 8 3,oR 9 .add 8 (k 1),oM 3 9])))
def YeB(lo:Lo):Zt0×Int->Option ((Zt0×Int)⊕ (Bool⊕Unit)):=fun x=>match x with
  | (l0,i3)=>bif(decide (i3< (l0.length:Int)))then(chk (0<=i3/\i3< (l0.length:Int)) (YAF (q67 lo ((l0.getD i3.toNat Zd1).1) ((l0.getD i3.toNat Zd1).2.1) ((l0.getD i3.toNat Zd1).2.2)) fun y222=>bif(!y222)then(some (.inr (.inl false)))else(some (.inl (l0,(YAZ .i64 (i3+1)))))))else(some (.inr (.inr ())))
def YgG(lo:Lo):Zt0×Int->Option (Bool⊕Unit):=lo.run (YeB lo)
def Yve(lo:Lo):LpE:=⟨3,[],(Zsg [0,3] [.l Zc3,.j] []),[⟨.ret,(Zsg [2] [.b] [])⟩,⟨.exit 0,(Zsg [] [] [])⟩],YgG lo⟩
def Yvf(lo:Lo):LL:=(Yve lo,.loop q68_L3_b.er)::[]
theorem Yvg(lo:Lo):Lk lo pf (fs68 lo) 0 (Yvf lo):=.l .n (YeB lo)
def q68(lo:Lo)(l0:List (Int×Int×ByteArray)):Option Bool:=
  YAF (YgG lo (l0,(0:Int))) fun y223=>alt2 y223 (fun y224=>some y224) (fun y225=>some true)
def Yvh:VFn:=⟨true,16,[.t 2],
 (Rg [oB 2 false]
 (.seq (Rg [oK 3 0]
 (.blk 0 (.loop 3 q68_L3_b)))
 (Rg [oB 2 true]
 (Fr 2))))⟩
def Ymh(lo:Lo):FnE:=Zfe 260 true (Zsg [0] [.l Zc3] []) .b [] (fun x=>q68 lo x:Zt0->Option Bool)
noncomputable def fs69(lo:Lo):List FnE:=Ymh lo::fs68 lo
theorem Yvi(h:GZ P fm fs68 lo)(t:Ti P fm 260 Yvh):GZ P fm fs69 lo:=
  h.p (Ymh lo) (Yvg lo) t
def q69_L3_b:VCode:=
 (.seq (Rg [oM 42 6,oR 43 .gtr 42 (k 0),oM 44 43,gT 45 44 (.fad 2 2),gT 46 44 (.load false 1 45),gT 47 44 (.mv 6),gT 48 44 (.iad 2 46 47),gT 49 44 (.fad 0 48),gT 50 44 (.load false 1 49),gT 51 44 (.fad 2 2),gT 52 44 (.load false 1 51),gT 53 44 (.mv 6),gT 54 44 (.bin .sub 53 (k 1)),gT 55 44 (.iad 2 52 54),gT 56 44 (.fad 0 55),gT 57 44 (.load false 1 56),gT 58 44 (.bin .lss 50 57),oP 59 44 58 (kb false)]
 (Ce 59 0))
 (.seq (.blk 1 (.regN [3000002] [oF 62 2 2,oL 63 62,oM 64 6,oF 65 2 2,⟨some 66,.load false 1 65,none,true,false⟩,oM 67 6,oR 68 .sub 67 (k 1),oF 69 2 2,oL 70 69,oM 71 6,oR 72 .sub 71 (k 1),oI 73 2 70 72,oT 74 2 73,oF 75 2 2,oL 76 75,oM 77 6,oI 78 2 76 77,oT 79 2 78,oI 80 2 63 64,⟨none,.store 2 80 74,none,false,true⟩,oI 81 2 66 68,oS 2 81 79]))
 (.reg [oM 60 6,oR 61 .sub 60 (k 1),oM 6 61])))
def YeC(lo:Lo):Zp24->Option (Zp24⊕ ((Int×Int×Int×Int×Zt6×Zt6))):=fun x=>match x with
  | (k6,m2_0,m2_1,v4_0,v4_1,v4_2,h2)=>bif(decide (0<k6))then(chk (0<=k6/\k6< (h2.length:Int)) (chk (0<=(YAZ .i64 (k6-1))/\ (YAZ .i64 (k6-1))< (h2.length:Int)) (bif(decide ((h2.getD k6.toNat ((0:Int),[])).1< (h2.getD ((YAZ .i64 (k6-1)).toNat) ((0:Int),[])).1))then(chk (0<=(YAZ .i64 (k6-1))/\ (YAZ .i64 (k6-1))< (h2.length:Int)) (chk (0<=k6/\k6< (h2.length:Int)) (chk (0<=k6/\k6< (h2.length:Int)) (chk (0<=(YAZ .i64 (k6-1))/\ (YAZ .i64 (k6-1))< ((h2.set k6.toNat (h2.getD ((YAZ .i64 (k6-1)).toNat) ((0:Int),[]))).length:Int)) (some (.inl ((YAZ .i64 (k6-1)),m2_0,m2_1,v4_0,v4_1,v4_2,((h2.set k6.toNat (h2.getD ((YAZ .i64 (k6-1)).toNat) ((0:Int),[]))).set ((YAZ .i64 (k6-1)).toNat) (h2.getD k6.toNat ((0:Int),[]))))))))))else(some (.inr (m2_0,m2_1,v4_0,v4_1,v4_2,h2))))))else(some (.inr (m2_0,m2_1,v4_0,v4_1,v4_2,h2)))
def YgH(lo:Lo):Zp24->Option ((Int×Int×Int×Int×Zt6×Zt6)):=lo.run (YeC lo)
def Yvj(lo:Lo):LpE:=⟨3,[(2,some 2,false)],(Zsg [2,4,6] [.ptr 0 0 0,.ptr 1 0 0,.j] [.st [.j,.i .u32,.ref 2],.st [.j,.i .u32,.l Zc7],.sq Zc7]),[⟨.exit 0,(Zsg [2,4] [.ptr 0 0 0,.ptr 1 0 0] [.st [.j,.i .u32,.ref 2],.st [.j,.i .u32,.l Zc7],.sq Zc7])⟩],YgH lo⟩
def Yvk(lo:Lo):LL:=(Yvj lo,.loop q69_L3_b.er)::[]
theorem Yvl(lo:Lo):Lk lo pf (fs69 lo) 0 (Yvk lo):=.l .n (YeC lo)
def q69(lo:Lo)(m0_0:Int)(m0_1:Int)(m0_2:List (Int×Zt0))(r1_0:Int)(r1_1:List (Int×Int×ByteArray)):Option (Int×Int×Zt6×Int):=
  bif(!decide ((r1_1.length:Int)=m0_0))then(some (m0_0,m0_1,m0_2,(6:Int)))else(bif(decide (r1_0<=0))then(some (m0_0,m0_1,m0_2,(1:Int)))else(YAF (q68 lo r1_1) fun y226=>bif(!y226)then(some (m0_0,m0_1,m0_2,(1:Int)))else(YAF (q62 lo m0_0 m0_1 m0_2 r1_0) fun y227=>bif(decide (0<=y227))then(some (m0_0,m0_1,m0_2,(5:Int)))else(chk (m0_2.length<=maxEl) (chk (m0_2.length+([(r1_0,r1_1)]).length<=maxEl) (YAF (YgH lo ((YAZ .i64 (((m0_2++([(r1_0,r1_1)])).length:Int)-(1:Int))),m0_0,m0_1,(0:Int),(0:Int),([]:List (Int×Zt0)),(m0_2++([(r1_0,r1_1)])))) fun y228=>some (y228.1,y228.2.1,y228.2.2.2.2.2,(0:Int))))))))
def Yvm:VFn:=⟨true,83,[.c 4 true 3,.t 5],
 (Rg [oG 2 0,oG 3 1,o 4 (.alloc [.i .i64 0,.i .u32 0,.e Zc7]),oK 5 0]
 (.seq (Rg [oF 7 1 3,oL 8 7,oN 9 8,oF 10 0 2,oL 11 10,oR 12 .neq 9 11]
 (.cond 12 (Rg [oT 13 3 2,oS 3 4 13,oK 5 6]
 (.fz [4,5] .ret))
 .skip))
 (.seq (Rg [oF 14 0 3,oL 15 14,oR 16 .leq 15 (k 0),oM 17 16,gF 18 17 (.fad 1 3),gF 19 17 (.load false 1 18),gF 20 17 (.call 260 [19]),gF 21 17 (.not 20),oP 22 17 (kb true) 21]
 (.cond 22 (Rg [oT 23 3 2,oS 3 4 23,oK 5 1]
 (.fz [4,5] .ret))
 .skip))
 (.seq (Rg [oT 24 3 2,oF 25 0 3,oL 26 25,oC 27 354 [24,26],oR 28 .geq 27 (k 0)]
 (.cond 28 (Rg [oT 29 3 2,oS 3 4 29,oK 5 5]
 (.fz [4,5] .ret))
 .skip))
 (Rg [o 30 (.bsl Zc7 0 []),oF 31 2 2,oL 32 31,⟨some 33,.app Zc7 0 30 32,none,false,true⟩,⟨some 34,.load true 2 3,none,true,false⟩,o 35 (.bsl Zc7 1 [(0,34)]),o 36 (.app Zc7 0 33 35),oF 37 2 2,oS 1 37 36]
 (.seq (Rg [oF 38 2 2,oL 39 38,oN 40 39,oR 41 .sub 40 (k 1),oM 6 41]
 (.blk 0 (.loop 3 q69_L3_b)))
 (Rg [oT 82 3 2,oS 3 4 82,oK 5 0]
 (.fz [4,5] .ret))))))))⟩
def Ymi(lo:Lo):FnE:=Zfe 350 true (Zsg [0,1] [.ag [.j,.i .u32,.l Zc7],.ag [.j,.l Zc3]] []) (.tp [.ag [.j,.i .u32,.l Zc7],.j]) [] (fun x=>q69 lo x.1 x.2.1 x.2.2.1 x.2.2.2.1 x.2.2.2.2:Int×Int×Zt6×Int×Zt0->Option (Int×Int×Zt6×Int))
noncomputable def fs70(lo:Lo):List FnE:=Ymi lo::fs69 lo
theorem Yvn(h:GZ P fm fs69 lo)(t:Ti P fm 350 Yvm):GZ P fm fs70 lo:=
  h.p (Ymi lo) (Yvl lo) t
def q70_L3_b:VCode:=
 (Rg [oR 14 .lss 13 12]
 (.seq (Ce 14 0)
 (.seq (.blk 1 (Rg [oI 15 3 11 13,oT 16 3 15,o 8 (.alloc [.b false,.i .i8 0,.e Zc11]),oS 3 8 16]
 (Rg [oK 9 0,oK 10 0]
 (.seq (Rg [oF 17 0 8,oL 18 17]
 (.cond 18 (Rg [oM 19 0,oF 20 1 8,oL 21 20,o 22 (.conv .i64 21),oC 23 345 [19,22],oM 9 23]
 (.reg [oM 25 1,oM 26 1,o 27 (.nilc 26),oT 28 3 27,oF 29 1 8,oL 30 29,o 31 (.conv .i64 30),oC 32 359 [28,31],oM 24 32,oE 33 24 0,oE 34 24 1,o 35 (.nilc 25),oS 3 35 33,oM 10 34]))
 (Rg [oM 36 0,oT 37 3 8,oC 38 344 [37],oC 39 343 [36,38],oM 9 39]
 (.reg [oM 41 1,oM 42 1,o 43 (.nilc 42),oT 44 3 43,oT 45 3 8,oC 46 344 [45],oC 47 350 [44,46],oM 40 47,oE 48 40 0,oE 49 40 1,o 50 (.nilc 41),oS 3 50 48,oM 10 49]))))
 (Rg [oM 51 9,oM 52 10,oR 53 .neq 51 52]
 (.cond 53 (Rg [oB 6 false]
 .ret)
 .skip))))))
 (.reg [oR 54 .add 13 (k 1),oM 13 54]))))
def YbV(lo:Lo):Zp17->Option (Zp17⊕ ((Bool×Int×Int×Int×Int×Zt6×Int×Zt2×Bool×Bool×Int×Zt1)⊕ (Int×Int×Int×Int×Zt6×Int×Zt2×Bool×Bool×Int×Zt1))):=fun x=>match x with
  | (v11,v12,v13,x0_0,x0_1,m1_0,m1_1,m1_2,h2_0,h2_1,h2_2,h2_3,h3_0,h3_1)=>bif(decide (v13<v12))then(chk (0<=v13/\v13< (v11.length:Int)) (bif(v11.getD v13.toNat (false,(0:Int),[])).1 then(YAF (q54 lo (YAZ .i64 ((v11.getD v13.toNat (false,(0:Int),[])).2.1)) x0_0 x0_1 h2_0 h2_1 h2_2 h2_3 h3_0 h3_1) fun y210=>YAF (q63 lo m1_0 m1_1 m1_2 (YAZ .i64 ((v11.getD v13.toNat (false,(0:Int),[])).2.1))) fun y215=>bif(!decide (y210.1=y215.2.2.2))then(some (.inr (.inl (false,y210.2.1,y210.2.2.1,y215.1,y215.2.1,y215.2.2.1,y210.2.2.2.1,y210.2.2.2.2.1,y210.2.2.2.2.2.1,y210.2.2.2.2.2.2.1,y210.2.2.2.2.2.2.2.1,y210.2.2.2.2.2.2.2.2))))else(some (.inl (v11,v12,(YAZ .i64 (v13+1)),y210.2.1,y210.2.2.1,y215.1,y215.2.1,y215.2.2.1,y210.2.2.2.1,y210.2.2.2.2.1,y210.2.2.2.2.2.1,y210.2.2.2.2.2.2.1,y210.2.2.2.2.2.2.2.1,y210.2.2.2.2.2.2.2.2))))else(YAF (q66 lo ((v11.getD v13.toNat (false,(0:Int),[])).1) ((v11.getD v13.toNat (false,(0:Int),[])).2.1) ((v11.getD v13.toNat (false,(0:Int),[])).2.2)) fun y219=>YAF (q21 lo y219.1 y219.2 x0_0 x0_1 h2_0 h2_1 h2_2 h2_3 h3_0 h3_1) fun y220=>YAF (q66 lo ((v11.getD v13.toNat (false,(0:Int),[])).1) ((v11.getD v13.toNat (false,(0:Int),[])).2.1) ((v11.getD v13.toNat (false,(0:Int),[])).2.2)) fun y221=>YAF (q69 lo m1_0 m1_1 m1_2 y221.1 y221.2) fun y229=>bif(!decide (y220.1=y229.2.2.2))then(some (.inr (.inl (false,y220.2.1,y220.2.2.1,y229.1,y229.2.1,y229.2.2.1,y220.2.2.2.1,y220.2.2.2.2.1,y220.2.2.2.2.2.1,y220.2.2.2.2.2.2.1,y220.2.2.2.2.2.2.2.1,y220.2.2.2.2.2.2.2.2))))else(some (.inl (v11,v12,(YAZ .i64 (v13+1)),y220.2.1,y220.2.2.1,y229.1,y229.2.1,y229.2.2.1,y220.2.2.2.1,y220.2.2.2.2.1,y220.2.2.2.2.2.1,y220.2.2.2.2.2.2.1,y220.2.2.2.2.2.2.2.1,y220.2.2.2.2.2.2.2.2))))))else(some (.inr (.inr (x0_0,x0_1,m1_0,m1_1,m1_2,h2_0,h2_1,h2_2,h2_3,h3_0,h3_1))))
def YeD(lo:Lo):Zp17->Option ((Bool×Int×Int×Int×Int×Zt6×Int×Zt2×Bool×Bool×Int×Zt1)⊕ (Int×Int×Int×Int×Zt6×Int×Zt2×Bool×Bool×Int×Zt1)):=lo.run (YbV lo)
def Yvo(lo:Lo):LpE:=⟨3,[],(Zsg [0,1,11,12,13] [.ptr 0 0 0,.ptr 1 0 0,.l (cs [.b,.i .i8,.l Zc11]),.j,.j] [.st [.j,.i .u32,.np 2,.np 3],.st [.j,.i .u32,.l Zc7],.st [.j,.l Zc5,.b,.b],.fp none (cs [I])]),[⟨.ret,(Zsg [6,0,1] [.b,.ptr 0 0 0,.ptr 1 0 0] [.st [.j,.i .u32,.np 2,.np 3],.st [.j,.i .u32,.l Zc7],.st [.j,.l Zc5,.b,.b],.fp none (cs [I])])⟩,⟨.exit 0,(Zsg [0,1] [.ptr 0 0 0,.ptr 1 0 0] [.st [.j,.i .u32,.np 2,.np 3],.st [.j,.i .u32,.l Zc7],.st [.j,.l Zc5,.b,.b],.fp none (cs [I])])⟩],YeD lo⟩
def Yvp(lo:Lo):LL:=(Yvo lo,.loop q70_L3_b.er)::[]
theorem Yvq(lo:Lo):Lk lo pf (fs70 lo) 4 (Yvp lo):=.l .n (YbV lo)
def q70(lo:Lo)(l2:List (Bool×Int× (List Int)))(x0_0:Int)(x0_1:Int)(m1_0:Int)(m1_1:Int)(m1_2:List (Int×Zt0))(h2_0:Int)(h2_1:List (Int×Int×Int×Zt0))(h2_2:Bool)(h2_3:Bool)(h3_0:Int)(h3_1:List (Int×ByteArray× (List Int))):Option (Bool×Int×Int×Int×Int×Zt6×Int×Zt2×Bool×Bool×Int×Zt1):=
  YAF (YeD lo (l2,(l2.length:Int),(0:Int),x0_0,x0_1,m1_0,m1_1,m1_2,h2_0,h2_1,h2_2,h2_3,h3_0,h3_1)) fun y230=>alt2 y230 (fun y231=>some (y231.1,y231.2.1,y231.2.2.1,y231.2.2.2.1,y231.2.2.2.2.1,y231.2.2.2.2.2.1,y231.2.2.2.2.2.2.1,y231.2.2.2.2.2.2.2.1,y231.2.2.2.2.2.2.2.2.1,y231.2.2.2.2.2.2.2.2.2.1,y231.2.2.2.2.2.2.2.2.2.2.1,y231.2.2.2.2.2.2.2.2.2.2.2)) (fun y232=>some (true,y232.1,y232.2.1,y232.2.2.1,y232.2.2.2.1,y232.2.2.2.2.1,y232.2.2.2.2.2.1,y232.2.2.2.2.2.2.1,y232.2.2.2.2.2.2.2.1,y232.2.2.2.2.2.2.2.2.1,y232.2.2.2.2.2.2.2.2.2.1,y232.2.2.2.2.2.2.2.2.2.2))
def Yvr:VFn:=⟨true,55,[.t 6],
 (Rg [oB 6 false]
 (.seq (Rg [oM 11 2,oN 12 11,oK 13 0]
 (.blk 0 (.loop 3 q70_L3_b)))
 (Rg [oB 6 true]
 .ret)))⟩
def Ymj(lo:Lo):FnE:=Zfe 342 false (Zsg [0,1,2] [.ptr 0 0 0,.ptr 1 0 0,.l (cs [.b,.i .i8,.l Zc11])] [.st [.j,.i .u32,.np 2,.np 3],.st [.j,.i .u32,.l Zc7],.st [.j,.l Zc5,.b,.b],.fp none (cs [I])]) .b [.st [.j,.i .u32,.np 2,.np 3],.st [.j,.i .u32,.l Zc7],.st [.j,.l Zc5,.b,.b],.fp none (cs [I])] (fun x=>q70 lo x.1 x.2.1 x.2.2.1 x.2.2.2.1 x.2.2.2.2.1 x.2.2.2.2.2.1 x.2.2.2.2.2.2.1 x.2.2.2.2.2.2.2.1 x.2.2.2.2.2.2.2.2.1 x.2.2.2.2.2.2.2.2.2.1 x.2.2.2.2.2.2.2.2.2.2.1 x.2.2.2.2.2.2.2.2.2.2.2:Zt10×Int×Int×Int×Int×Zt6×Int×Zt2×Bool×Bool×Int×Zt1->Option (Bool×Int×Int×Int×Int×Zt6×Int×Zt2×Bool×Bool×Int×Zt1))
noncomputable def fs71(lo:Lo):List FnE:=Ymj lo::fs70 lo
theorem Yvs(h:GZ P fm fs70 lo)(t:Ti P fm 342 Yvr):GZ P fm fs71 lo:=
  h.i (Ymj lo) (Yvq lo) t
end Go.Abs.G35
namespace Go.Abs.G35
open Go Go.Abs
set_option maxRecDepth 100000
set_option maxHeartbeats 1000000
variable{P:Program}{fm:FM}{lo:Lo}
def q71_L14_b:VCode:=
 (.seq (Rg [oM 55 12,oR 56 .geq 55 (k 0)]
 (Ce 56 0))
 (.seq (.blk 1 (.seq (Rg [oF 59 2 8,oL 60 59,oM 61 12,oI 62 2 60 61,oF 63 0 62,oL 64 63,oF 65 1 5,oL 66 65,o 67 (.conv .i64 66),oR 68 .eql 64 67,oM 69 68,gT 70 69 (.mv 11),oP 71 69 70 (kb false)]
 (.cond 71 (Rg [oB 11 false]
 (.reg [oM 72 9,oF 73 1 5,oL 74 73,o 75 (.conv .i64 74),oC 76 345 [72,75]]))
 .skip))
 (Rg [oM 77 9,oF 78 2 8,oL 79 78,oM 80 12,oI 81 2 79 80,oT 82 2 81,oC 83 343 [77,82],oR 84 .neq 83 (k 0)]
 (.cond 84 (Rg [oB 6 false]
 (Fr 6))
 .skip))))
 (.reg [oM 57 12,oR 58 .sub 57 (k 1),oM 12 58])))
def YbW(lo:Lo):Zp12->Option (Zp12⊕ (Bool⊕ (Bool×Bool×Int× (List Int)×Int×Int×Int×Int×Int×Zt2×Bool×Bool×Int×Zt1×Int×Zt2×Bool×Bool×Int×Zt1))):=fun x=>match x with
  | (added11,i12,extra5_0,extra5_1,extra5_2,x7_0,x7_1,m8_0,m8_1,m8_2,y9_0,y9_1,h4_0,h4_1,h4_2,h4_3,h5_0,h5_1,h6_0,h6_1,h6_2,h6_3,h7_0,h7_1)=>bif(decide (0<=i12))then(chk (0<=i12/\i12< (m8_2.length:Int)) (bif(decide ((m8_2.getD i12.toNat ((0:Int),[])).1=(YAZ .i64 extra5_1)))then(bif added11 then(YAF (q54 lo (YAZ .i64 extra5_1) y9_0 y9_1 h6_0 h6_1 h6_2 h6_3 h7_0 h7_1) fun y236=>chk (0<=i12/\i12< (m8_2.length:Int)) (YAF (q21 lo ((m8_2.getD i12.toNat ((0:Int),[])).1) ((m8_2.getD i12.toNat ((0:Int),[])).2) y236.2.1 y236.2.2.1 y236.2.2.2.1 y236.2.2.2.2.1 y236.2.2.2.2.2.1 y236.2.2.2.2.2.2.1 y236.2.2.2.2.2.2.2.1 y236.2.2.2.2.2.2.2.2) fun y237=>bif(!decide (y237.1=(0:Int)))then(some (.inr (.inl false)))else(some (.inl (false,(YAZ .i64 (i12-1)),extra5_0,extra5_1,extra5_2,x7_0,x7_1,m8_0,m8_1,m8_2,y237.2.1,y237.2.2.1,h4_0,h4_1,h4_2,h4_3,h5_0,h5_1,y237.2.2.2.1,y237.2.2.2.2.1,y237.2.2.2.2.2.1,y237.2.2.2.2.2.2.1,y237.2.2.2.2.2.2.2.1,y237.2.2.2.2.2.2.2.2)))))else(chk (0<=i12/\i12< (m8_2.length:Int)) (YAF (q21 lo ((m8_2.getD i12.toNat ((0:Int),[])).1) ((m8_2.getD i12.toNat ((0:Int),[])).2) y9_0 y9_1 h6_0 h6_1 h6_2 h6_3 h7_0 h7_1) fun y238=>bif(!decide (y238.1=(0:Int)))then(some (.inr (.inl false)))else(some (.inl (added11,(YAZ .i64 (i12-1)),extra5_0,extra5_1,extra5_2,x7_0,x7_1,m8_0,m8_1,m8_2,y238.2.1,y238.2.2.1,h4_0,h4_1,h4_2,h4_3,h5_0,h5_1,y238.2.2.2.1,y238.2.2.2.2.1,y238.2.2.2.2.2.1,y238.2.2.2.2.2.2.1,y238.2.2.2.2.2.2.2.1,y238.2.2.2.2.2.2.2.2))))))else(chk (0<=i12/\i12< (m8_2.length:Int)) (YAF (q21 lo ((m8_2.getD i12.toNat ((0:Int),[])).1) ((m8_2.getD i12.toNat ((0:Int),[])).2) y9_0 y9_1 h6_0 h6_1 h6_2 h6_3 h7_0 h7_1) fun y239=>bif(!decide (y239.1=(0:Int)))then(some (.inr (.inl false)))else(some (.inl (added11,(YAZ .i64 (i12-1)),extra5_0,extra5_1,extra5_2,x7_0,x7_1,m8_0,m8_1,m8_2,y239.2.1,y239.2.2.1,h4_0,h4_1,h4_2,h4_3,h5_0,h5_1,y239.2.2.2.1,y239.2.2.2.2.1,y239.2.2.2.2.2.1,y239.2.2.2.2.2.2.1,y239.2.2.2.2.2.2.2.1,y239.2.2.2.2.2.2.2.2)))))))else(some (.inr (.inr (added11,extra5_0,extra5_1,extra5_2,x7_0,x7_1,y9_0,y9_1,h4_0,h4_1,h4_2,h4_3,h5_0,h5_1,h6_0,h6_1,h6_2,h6_3,h7_0,h7_1))))
def YgI(lo:Lo):Zp12->Option (Bool⊕ (Bool×Bool×Int× (List Int)×Int×Int×Int×Int×Int×Zt2×Bool×Bool×Int×Zt1×Int×Zt2×Bool×Bool×Int×Zt1)):=lo.run (YbW lo)
def Yvt(lo:Lo):LpE:=⟨14,[],(Zsg [5,7,8,9,11,12] [.ptr 0 0 0,.ptr 1 0 0,.ptr 2 0 0,.ptr 3 0 0,.b,.j] [.st [.b,.i .i8,.l Zc11],.st [.j,.i .u32,.np 4,.np 5],.st [.j,.i .u32,.l Zc7],.st [.j,.i .u32,.np 6,.np 7],.st [.j,.l Zc5,.b,.b],.fp none (cs [I]),.st [.j,.l Zc5,.b,.b],.fp none (cs [I])]),[⟨.ret,(Zsg [6] [.b] [])⟩,⟨.exit 0,(Zsg [5,7,9,11] [.ptr 0 0 0,.ptr 1 0 0,.ptr 2 0 0,.b] [.st [.b,.i .i8,.l Zc11],.st [.j,.i .u32,.np 3,.np 4],.st [.j,.i .u32,.np 5,.np 6],.st [.j,.l Zc5,.b,.b],.fp none (cs [I]),.st [.j,.l Zc5,.b,.b],.fp none (cs [I])])⟩],YgI lo⟩
def Ymk(lo:Lo):LL:=(Yvt lo,.loop q71_L14_b.er)::[]
theorem Yvu(lo:Lo):Lk lo pf (fs71 lo) 0 (Ymk lo):=.l .n (YbW lo)
def q71_L3_b:VCode:=
 (Rg [oR 98 .lss 97 96]
 (.seq (Ce 98 2)
 (.seq (.blk 3 (Rg [oI 99 1 95 97,oL 100 99,oM 15 100]
 (.reg [oM 101 13,oM 102 15,oN 103 102,oR 104 .add 101 103,oM 13 104])))
 (.reg [oR 105 .add 97 (k 1),oM 97 105]))))
def YeE(lo:Lo):Zp14->Option (Zp14⊕ ((Int×Int×Int×Int×Int×Int×Zt2×Bool×Bool×Int×Zt1×Int×Zt2×Bool×Bool×Int×Zt1))):=fun x=>match x with
  | (total13,v96,v97,x7_0,x7_1,y9_0,y9_1,v95,h3_0,h3_1,h3_2,h3_3,h4_0,h4_1,h5_0,h5_1,h5_2,h5_3,h6_0,h6_1)=>bif(decide (v97<v96))then(chk (0<=v97/\v97< (v95.length:Int)) (some (.inl ((YAZ .i64 (total13+((v95.getD v97.toNat []).length:Int))),v96,(YAZ .i64 (v97+1)),x7_0,x7_1,y9_0,y9_1,v95,h3_0,h3_1,h3_2,h3_3,h4_0,h4_1,h5_0,h5_1,h5_2,h5_3,h6_0,h6_1))))else(some (.inr (total13,x7_0,x7_1,y9_0,y9_1,h3_0,h3_1,h3_2,h3_3,h4_0,h4_1,h5_0,h5_1,h5_2,h5_3,h6_0,h6_1)))
def Yc9(lo:Lo):Zp14->Option ((Int×Int×Int×Int×Int×Int×Zt2×Bool×Bool×Int×Zt1×Int×Zt2×Bool×Bool×Int×Zt1)):=lo.run (YeE lo)
def Yvv(lo:Lo):LpE:=⟨3,[],(Zsg [7,9,13,95,96,97] [.ptr 0 0 0,.ptr 1 0 0,.j,.ref 2,.j,.j] [.st [.j,.i .u32,.np 3,.np 4],.st [.j,.i .u32,.np 5,.np 6],.sq Zc9,.st [.j,.l Zc5,.b,.b],.fp none (cs [I]),.st [.j,.l Zc5,.b,.b],.fp none (cs [I])]),[⟨.exit 2,(Zsg [7,9,13] [.ptr 0 0 0,.ptr 1 0 0,.j] [.st [.j,.i .u32,.np 2,.np 3],.st [.j,.i .u32,.np 4,.np 5],.st [.j,.l Zc5,.b,.b],.fp none (cs [I]),.st [.j,.l Zc5,.b,.b],.fp none (cs [I])])⟩],Yc9 lo⟩
def Yvw(lo:Lo):LL:=(Yvv lo,.loop q71_L3_b.er)::Ymk lo
theorem Yvx(lo:Lo):Lk lo pf (fs71 lo) 0 (Yvw lo):=.l (Yvu lo) (YeE lo)
noncomputable def q71(lo:Lo)(z0_0:Int)(z0_1:Int)(l1:List (Bool×Int× (List Int)))(extra2_0:Bool)(extra2_1:Int)(extra2_2:List Int):Option Bool:=
  YAF (q56 lo) fun y197=>bif(!y197)then(YAF (q56 lo) fun y198=>some y198)else(bif(decide ((20:Int)< (l1.length:Int)))then(YAF (q56 lo) fun y199=>some y199)else(altO (q61 lo z0_0 z0_1) (fun y208=>altO (q61 lo z0_0 z0_1) (fun y209=>YAF (q70 lo l1 y208.2.2.2.1 y208.2.2.2.2.1 y208.1 y208.2.1 y208.2.2.1 y208.2.2.2.2.2.1 y208.2.2.2.2.2.2.1 y208.2.2.2.2.2.2.2.1 y208.2.2.2.2.2.2.2.2.1 y208.2.2.2.2.2.2.2.2.2.1 y208.2.2.2.2.2.2.2.2.2.2) fun y233=>bif(!y233.1)then(some false)else(YAF (q66 lo extra2_0 extra2_1 extra2_2) fun y234=>YAF (q21 lo y234.1 y234.2 y209.2.2.2.1 y209.2.2.2.2.1 y209.2.2.2.2.2.1 y209.2.2.2.2.2.2.1 y209.2.2.2.2.2.2.2.1 y209.2.2.2.2.2.2.2.2.1 y209.2.2.2.2.2.2.2.2.2.1 y209.2.2.2.2.2.2.2.2.2.2) fun y235=>YAF (YgI lo ((decide (y235.1=(0:Int))),(YAZ .i64 ((y233.2.2.2.2.2.1.length:Int)-1)),extra2_0,extra2_1,extra2_2,y233.2.1,y233.2.2.1,y233.2.2.2.1,y233.2.2.2.2.1,y233.2.2.2.2.2.1,y235.2.1,y235.2.2.1,y233.2.2.2.2.2.2.1,y233.2.2.2.2.2.2.2.1,y233.2.2.2.2.2.2.2.2.1,y233.2.2.2.2.2.2.2.2.2.1,y233.2.2.2.2.2.2.2.2.2.2.1,y233.2.2.2.2.2.2.2.2.2.2.2,y235.2.2.2.1,y235.2.2.2.2.1,y235.2.2.2.2.2.1,y235.2.2.2.2.2.2.1,y235.2.2.2.2.2.2.2.1,y235.2.2.2.2.2.2.2.2)) fun y240=>alt2 y240 (fun y241=>some y241) (fun y242=>bif y242.1 then(YAF (q54 lo (YAZ .i64 y242.2.2.1) y242.2.2.2.2.2.2.1 y242.2.2.2.2.2.2.2.1 y242.2.2.2.2.2.2.2.2.2.2.2.2.2.2.1 y242.2.2.2.2.2.2.2.2.2.2.2.2.2.2.2.1 y242.2.2.2.2.2.2.2.2.2.2.2.2.2.2.2.2.1 y242.2.2.2.2.2.2.2.2.2.2.2.2.2.2.2.2.2.1 y242.2.2.2.2.2.2.2.2.2.2.2.2.2.2.2.2.2.2.1 y242.2.2.2.2.2.2.2.2.2.2.2.2.2.2.2.2.2.2.2) fun y243=>bif(!decide (y243.1=(0:Int)))then(some false)else(YAF (q38 lo y242.2.2.2.2.1 y242.2.2.2.2.2.1 y242.2.2.2.2.2.2.2.2.1 y242.2.2.2.2.2.2.2.2.2.1 y242.2.2.2.2.2.2.2.2.2.2.1 y242.2.2.2.2.2.2.2.2.2.2.2.1 y242.2.2.2.2.2.2.2.2.2.2.2.2.1 y242.2.2.2.2.2.2.2.2.2.2.2.2.2.1) fun y244=>YAF (Yc9 lo ((0:Int),(y244.2.2.2.2.2.2.2.2.length:Int),(0:Int),y244.1,y244.2.1,y243.2.1,y243.2.2.1,y244.2.2.2.2.2.2.2.2,y244.2.2.1,y244.2.2.2.1,y244.2.2.2.2.1,y244.2.2.2.2.2.1,y244.2.2.2.2.2.2.1,y244.2.2.2.2.2.2.2.1,y243.2.2.2.1,y243.2.2.2.2.1,y243.2.2.2.2.2.1,y243.2.2.2.2.2.2.1,y243.2.2.2.2.2.2.2.1,y243.2.2.2.2.2.2.2.2)) fun y245=>YAF (q55 lo y245.2.1 y245.2.2.1 y245.2.2.2.2.2.1 y245.2.2.2.2.2.2.1 y245.2.2.2.2.2.2.2.1 y245.2.2.2.2.2.2.2.2.1 y245.2.2.2.2.2.2.2.2.2.1 y245.2.2.2.2.2.2.2.2.2.2.1) fun y246=>bif(decide (y245.1=y246.1))then(YAF (q38 lo y246.2.1 y246.2.2.1 y246.2.2.2.1 y246.2.2.2.2.1 y246.2.2.2.2.2.1 y246.2.2.2.2.2.2.1 y246.2.2.2.2.2.2.2.1 y246.2.2.2.2.2.2.2.2) fun y247=>YAF (q38 lo y245.2.2.2.1 y245.2.2.2.2.1 y245.2.2.2.2.2.2.2.2.2.2.2.1 y245.2.2.2.2.2.2.2.2.2.2.2.2.1 y245.2.2.2.2.2.2.2.2.2.2.2.2.2.1 y245.2.2.2.2.2.2.2.2.2.2.2.2.2.2.1 y245.2.2.2.2.2.2.2.2.2.2.2.2.2.2.2.1 y245.2.2.2.2.2.2.2.2.2.2.2.2.2.2.2.2) fun y248=>YAF (q40 lo y247.2.2.2.2.2.2.2.2 y248.2.2.2.2.2.2.2.2) fun y249=>some y249)else(some false)))else(YAF (q38 lo y242.2.2.2.2.1 y242.2.2.2.2.2.1 y242.2.2.2.2.2.2.2.2.1 y242.2.2.2.2.2.2.2.2.2.1 y242.2.2.2.2.2.2.2.2.2.2.1 y242.2.2.2.2.2.2.2.2.2.2.2.1 y242.2.2.2.2.2.2.2.2.2.2.2.2.1 y242.2.2.2.2.2.2.2.2.2.2.2.2.2.1) fun y250=>YAF (Yc9 lo ((0:Int),(y250.2.2.2.2.2.2.2.2.length:Int),(0:Int),y250.1,y250.2.1,y242.2.2.2.2.2.2.1,y242.2.2.2.2.2.2.2.1,y250.2.2.2.2.2.2.2.2,y250.2.2.1,y250.2.2.2.1,y250.2.2.2.2.1,y250.2.2.2.2.2.1,y250.2.2.2.2.2.2.1,y250.2.2.2.2.2.2.2.1,y242.2.2.2.2.2.2.2.2.2.2.2.2.2.2.1,y242.2.2.2.2.2.2.2.2.2.2.2.2.2.2.2.1,y242.2.2.2.2.2.2.2.2.2.2.2.2.2.2.2.2.1,y242.2.2.2.2.2.2.2.2.2.2.2.2.2.2.2.2.2.1,y242.2.2.2.2.2.2.2.2.2.2.2.2.2.2.2.2.2.2.1,y242.2.2.2.2.2.2.2.2.2.2.2.2.2.2.2.2.2.2.2)) fun y251=>YAF (q55 lo y251.2.1 y251.2.2.1 y251.2.2.2.2.2.1 y251.2.2.2.2.2.2.1 y251.2.2.2.2.2.2.2.1 y251.2.2.2.2.2.2.2.2.1 y251.2.2.2.2.2.2.2.2.2.1 y251.2.2.2.2.2.2.2.2.2.2.1) fun y252=>bif(decide (y251.1=y252.1))then(YAF (q38 lo y252.2.1 y252.2.2.1 y252.2.2.2.1 y252.2.2.2.2.1 y252.2.2.2.2.2.1 y252.2.2.2.2.2.2.1 y252.2.2.2.2.2.2.2.1 y252.2.2.2.2.2.2.2.2) fun y253=>YAF (q38 lo y251.2.2.2.1 y251.2.2.2.2.1 y251.2.2.2.2.2.2.2.2.2.2.2.1 y251.2.2.2.2.2.2.2.2.2.2.2.2.1 y251.2.2.2.2.2.2.2.2.2.2.2.2.2.1 y251.2.2.2.2.2.2.2.2.2.2.2.2.2.2.1 y251.2.2.2.2.2.2.2.2.2.2.2.2.2.2.2.1 y251.2.2.2.2.2.2.2.2.2.2.2.2.2.2.2.2) fun y254=>YAF (q40 lo y253.2.2.2.2.2.2.2.2 y254.2.2.2.2.2.2.2.2) fun y255=>some y255)else(some false))))) (YAF (q60 lo z0_0 z0_1) fun y256=>some false)) (YAF (q60 lo z0_0 z0_1) fun y257=>altO (q61 lo z0_0 z0_1) (fun y258=>some false) (YAF (q60 lo z0_0 z0_1) fun y259=>some false))))
def Yvy:VFn:=⟨true,117,[.t 6],
 (Rg [oG 3 0,oG 5 2,oB 6 false]
 (.seq (Rg [oC 16 336 [],oX 17 16,oM 18 17,gF 19 18 (.mv 1),gF 20 18 (.len 19),gF 21 18 (.bin .gtr 20 (k 20)),oP 22 18 (kb true) 21]
 (.cond 22 (Rg [oC 23 336 [],oM 6 23]
 (Fr 6))
 .skip))
 (Rg [oT 25 2 3,oC 26 341 [25],oM 24 26,oE 27 24 0,oE 28 24 1,o 8 (.alloc [.i .i64 0,.i .u32 0,.e Zc7]),oM 7 27,oS 3 8 28]
 (Rg [oT 30 2 3,oC 31 341 [30],oM 29 31,oE 32 29 0,oE 33 29 1,o 10 (.alloc [.i .i64 0,.i .u32 0,.e Zc7]),oM 9 32,oS 3 10 33]
 (.seq (Rg [oM 34 7,o 35 (.isp false 34),oM 36 35,gF 37 36 (.mv 9),gF 38 36 (.isp false 37),oP 39 36 (kb true) 38,oM 40 39,gF 41 40 (.mv 7),gF 42 40 (.mv 1),gF 43 40 (.call 342 [41,8,42]),gF 44 40 (.not 43),oP 45 40 (kb true) 44]
 (.cond 45 (Rg [oB 6 false]
 (Fr 6))
 .skip))
 (Rg [oM 46 9,oT 47 3 5,oC 48 344 [47],oC 49 343 [46,48],oR 50 .eql 49 (k 0),oM 11 50]
 (.seq (Rg [oF 51 2 8,oL 52 51,oN 53 52,oR 54 .sub 53 (k 1),oM 12 54]
 (.blk 0 (.loop 14 q71_L14_b)))
 (.seq (Rg [oM 85 11,oM 86 85,gT 87 86 (.mv 9),gT 88 86 (.fad 1 5),gT 89 86 (.load false 1 88),gT 90 86 (.conv .i64 89),gT 91 86 (.call 345 [87,90]),gT 92 86 (.bin .neq 91 (k 0)),oP 93 86 92 (kb false)]
 (.cond 93 (Rg [oB 6 false]
 (Fr 6))
 .skip))
 (Rg [oK 13 0]
 (.seq (Rg [oM 94 7,oC 95 340 [94],oN 96 95,oK 97 0]
 (.blk 2 (.loop 3 q71_L3_b)))
 (Rg [oM 106 13,oM 107 7,oC 108 339 [107],oR 109 .eql 106 108,oM 110 109,gT 111 110 (.mv 7),gT 112 110 (.call 340 [111]),gT 113 110 (.mv 9),gT 114 110 (.call 340 [113]),gT 115 110 (.call 346 [112,114]),oP 116 110 115 (kb false),oM 6 116]
 (Fr 6))))))))))))⟩
noncomputable def q71_f(lo:Lo):FnE:=Zfe 329 true (Zsg [0,1,2] [.ag [.i .u8,.i .u32],.l (cs [.b,.i .i8,.l Zc11]),.ag [.b,.i .i8,.l Zc11]] []) .b [] (fun x=>q71 lo x.1 x.2.1 x.2.2.1 x.2.2.2.1 x.2.2.2.2.1 x.2.2.2.2.2:Int×Int×Zt10×Bool×Int× (List Int)->Option Bool)
noncomputable def fs72(lo:Lo):List FnE:=q71_f lo::fs71 lo
theorem Yvz(h:GZ P fm fs71 lo)(t:Ti P fm 329 Yvy):GZ P fm fs72 lo:=
  h.p (q71_f lo) (Yvx lo) t
end Go.Abs.G35
