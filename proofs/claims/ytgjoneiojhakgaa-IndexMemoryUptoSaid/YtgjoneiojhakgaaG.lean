/- Functions of the program as functions of data (written by program). No condition. -/
import Derived.Test.YtgjoneiojhakgaaB
set_option linter.unusedVariables false
set_option linter.unusedSimpArgs false
set_option linter.unusedSectionVars false
open List renaming mem_cons_self → YCl
open Nat renaming beq → YCJ, blt → YCK, ble → YCN
open Option renaming bind → YCV
open ByteArray renaming mk → YDe
open Go.IntKind renaming wrap → YDf
namespace Go.Abs.G3m
open Go Go.Abs
abbrev Zd1:Int×Int×ByteArray:=((0:Int),(0:Int),(YDe #[]))
abbrev _root_.Go.Abs.SV.j:SV:=.i .i64
mutual
def ZtS:SV->List Ty
 | .i k=>[.i k]
 | .b=>[.b]
 | .s=>[.s]
 | .l c=>[.l c]
 | .pre _=>[I]
 | .ag l=>ZtL l
 | .tp l=>ZtL l
 | .clo _ l=>ZtL l
 |_=>[]
def ZtL:List SV->List Ty
 | []=>[]
 |a::r=>ZtS a++ZtL r
end
def ZtO:List SO->List Ty
 | []=>[]
 | .sq c::r=>.l c::ZtO r
 | .fm A _ c::r=>.l (sn c A)::ZtO r
 | .fp o c::r=>I:: .l (mapC o (.l c) .nil)::ZtO r
 | .st l::r=>ZtL l++ZtO r
 | .sb::r=>.s::ZtO r
 | .dd::r=>ZtO r
abbrev Zsg(t:List Nat)(v:List SV)(o:List SO):Sg:=⟨t,v,o,cs (ZtL v++ZtO o)⟩
abbrev Zfe(g:Nat)(p:Bool)(a:Sg)(r:SV)(o:List SO)(F:a.c.den->Option (cs (ZtS r++ZtO o)).den):FnE:=⟨g,p,a,r,o,_,F⟩
abbrev Zt0:Type:=List (Int×Int×ByteArray)
abbrev Zt1:Type:=List (Int×ByteArray× (List Int))
abbrev Zt2:Type:=List (Int×Int×Int×Zt0)
abbrev Zc3:Cs:=cs [I,I,.s]
abbrev Zt4:Type:=List ByteArray
abbrev Zt5:Type:=List (Int×Zt0)
abbrev Zc6:Cs:=cs [I,I,I,.l Zc3]
abbrev Zc7:Cs:=cs [I,.l Zc3]
abbrev Zt8:Type:=List ((List Int))
abbrev Zc9:Cs:=cs [.l (cs [I])]
abbrev Zc10:Cs:=cs [.l Zc3]
abbrev Zt11:Type:=List (Zt0)
abbrev Zt12:Type:=List (Bool×Int× (List Int))
abbrev Zp13:Type:=Int×Int×Int×Zt0×Int×Int×Int×Int×Int×Zt2×Bool×Bool×Int×Zt1×Int×Zt0× (List Int)×Int×Int× (List Int)×Bool
abbrev Zp14:Type:=(Int×Int×Int×Int×Zt2×Bool×Bool×Int×Zt1×Int×Zt0× (List Int)×Int×Int× (List Int)×Bool)
abbrev Zp15:Type:=Int×Int×Int×Int×Int×Int×Int×Zt5×Int×Int×Zt2×Bool×Bool×Int×Zt1×Zt0
abbrev Zp16:Type:=Int×Int×Int×Int×Int×Int×Int×Zt5×Zt8×Int×Zt2×Bool×Bool×Int×Zt1
abbrev Zp17:Type:=(Int×Int×Int×Zt2×Bool×Bool×Int×Zt1×Zt4×Int×Int× (List Int)×Bool)
abbrev Zp18:Type:=Zt12×Int×Int×Int×Int×Int×Int×Zt5×Int×Zt2×Bool×Bool×Int×Zt1
abbrev Zp19:Type:=Int×Int×Int×Int×Zt0×Int×Zt2×Bool×Bool×Int×Zt1×Int×Int×Zt0
abbrev Zp20:Type:=(Int×Int×Int×Int×Zt2×Bool×Bool×Int×Zt1×Int×Zt0× (List Int))
abbrev Zp21:Type:=Zt0×Int×Int×Int×Int×Int×Zt2×Bool×Bool×Int×Zt1×Zt0
abbrev Zp22:Type:=Int×Int×Int×Int×Int×Zt2×Bool×Bool×Int×Zt1×Zt8×Zt4
abbrev Zp23:Type:=Zt5×Int×Int×Int×Int×Int×Zt2×Bool×Bool×Int×Zt1
abbrev Zp24:Type:=Int×Int×Zt5×Int×Int×Int×Zt2×Bool×Bool×Int×Zt1
abbrev Zp25:Type:=Int×Int×Int×Zt0×Int×Zt2×Bool×Bool×Int×Zt1×Int
abbrev Zp26:Type:=(Int×Int×Int×Zt2×Bool×Bool×Int×Zt1×Zt4)
abbrev Zp27:Type:=Int×Int×Int×Int×Zt2×Bool×Bool×Int×Zt1
abbrev Zp28:Type:=Int×Int×Int×Zt2×Bool×Bool×Int×Zt1
abbrev Zp29:Type:=Int×Zt0×Bool×Int×Int×Int×Zt5×Zt11
abbrev Zp30:Type:=Int×Int×Int×Int×ByteArray×ByteArray
abbrev Zp31:Type:=Int×Int×Int×Bool×Bool× (List Int)
abbrev Zp32:Type:=Zt0×Int×Int×Int×Zt5× (List Int)
abbrev Zp33:Type:=Int×Int×Int×Int×Int×Zt5×Zt5
abbrev Zp34:Type:=Int×Int×Int×Bool×Bool×Zt4
instance{n:Nat}:OfNat VOpd n:=⟨.t n⟩
abbrev Rg(l:List VI)(b:VCode):VCode:=.seq (.reg l) b
abbrev Fr(n:Nat):VCode:=.fz [n] .ret
abbrev Ce(c e:Nat):VCode:=.cond (t c) .skip (.exit e)
abbrev oM(n a:Nat):VI:=o n (.mv (t a))
abbrev oL(n a:Nat):VI:=o n (.load false 1 (t a))
abbrev oT(n s a:Nat):VI:=o n (.load true s (t a))
abbrev oF(n i a:Nat):VI:=o n (.fad i (t a))
abbrev oE(n a i:Nat):VI:=o n (.ext (t a) i)
abbrev oN(n a:Nat):VI:=o n (.len (t a))
abbrev oI(n e a i:Nat):VI:=o n (.iad e (t a) (t i))
abbrev oS(n a b:Nat):VI:=on (.store n (t a) (t b))
abbrev oP(n c:Nat)(a b:VOpd):VI:=o n (.pick (t c) a b)
abbrev oK(n:Nat)(a:Int):VI:=o n (.mv (k a))
abbrev oB(n:Nat)(a:Bool):VI:=o n (.mv (kb a))
abbrev oC(n f:Nat)(l:List VOpd):VI:=o n (.call f l)
abbrev oX(n a:Nat):VI:=o n (.not (t a))
abbrev oG(n a:Nat):VI:=o n (.box (t a))
abbrev oR(n:Nat)(p:BinOp)(a b:VOpd):VI:=o n (.bin p a b)
abbrev gT(n g:Nat)(p:VOp):VI:=og n g true p
abbrev gF(n g:Nat)(p:VOp):VI:=og n g false p
set_option maxRecDepth 100000
set_option maxHeartbeats 1000000
variable{P:Program}{fm:FM}{lo:Lo}
abbrev pf:Nat->Bool:=fun g=> !(List.any ([310,337,339,340,341,342,343,345,347,349,353,356,293,362,365,366,309,149,151,374,164,196,323,324,388,389,327,390,271,364,367,301,373,375,311,312,313,315,316,318,319,377,378,379,380,382,383,384,385,322,386,387,308,245]:List Nat) (YCJ g))
abbrev GZ(P:Program)(fm:FM)(fs:Lo->List FnE)(lo:Lo):Prop:=GS P fm pf (fs lo) lo
abbrev Ti(P:Program)(fm:FM)(g:Nat)(F:VFn):Prop:=TieF P fm pf g F
def fs0(_:Lo):List FnE:=[]
def q0(lo:Lo)(n0:Int)(s1:Int):Option Int:=
  bif(decide (n0<0))then(some (7:Int))else(bif(decide (16<n0))then(some (7:Int))else(chk (0<=n0) (bif(!decide ((s1.fdiv (2^(min n0.toNat (IntKind.bits .u32))))=(0:Int)))then(some (6:Int))else(none))))
def Ys5:VFn:=⟨true,22,[.t 4,.t 5],
 (Rg [o 4 (.mv (.c (.one .nl))),oK 5 0]
 (.seq (Rg [oM 6 0,oR 7 .lss 6 (k 0),oM 8 7,gF 9 8 (.mv 0),gF 10 8 (.bin .gtr 9 (k 16)),oP 11 8 (kb true) 10]
 (.cond 11 (Rg [o 4 (.mv (.c (.one .nl))),oK 5 7]
 (Fr 4))
 .skip))
 (.seq (Rg [oM 12 1,oM 13 0,oR 14 .shr 12 13,oR 15 .neq 14 (ki .u32 0)]
 (.cond 15 (Rg [o 4 (.mv (.c (.one .nl))),oK 5 6]
 (Fr 4))
 .skip))
 (Rg [oM 16 0,oM 17 1,o 18 (.mkm (some .i64) I Zc10 true),o 19 (.mkmF none (cs [I])),o 20 (.build [.i .i64 0,.i .u32 0,.v (.map none),.v (.map none)] [(0,1,16),(1,1,17),(2,1,18),(3,1,19)]),oG 21 20,oM 4 21,oK 5 0]
 (Fr 4)))))⟩
def Ylu(lo:Lo):FnE:=Zfe 337 false (Zsg [0,1] [.j,.i .u32] []) (.tp [.nl,.j]) [] (fun x=>q0 lo x.1 x.2:Int×Int->Option Int)
def fs1(lo:Lo):List FnE:=Ylu lo::fs0 lo
theorem Ys6(h:GZ P fm fs0 lo)(t:Ti P fm 337 Ys5):GZ P fm fs1 lo:=
  h.i (Ylu lo) .n t
def q1(lo:Lo)(n0:Int)(s1:Int):Option Zp27:=
  bif(decide (n0<0))then(none)else(bif(decide (16<n0))then(none)else(chk (0<=n0) (bif(!decide ((s1.fdiv (2^(min n0.toNat (IntKind.bits .u32))))=(0:Int)))then(none)else(some ((0:Int),n0,s1,(0:Int),([]:List (Int×Int×Int×Zt0)),false,false,(0:Int),([]:List (Int×ByteArray× (List Int))))))))
def Ys7:VFn:=⟨true,22,[.t 4,.t 5],
 (Rg [o 4 (.mv (.c (.one .nl))),oK 5 0]
 (.seq (Rg [oM 6 0,oR 7 .lss 6 (k 0),oM 8 7,gF 9 8 (.mv 0),gF 10 8 (.bin .gtr 9 (k 16)),oP 11 8 (kb true) 10]
 (.cond 11 (Rg [o 4 (.mv (.c (.one .nl))),oK 5 7]
 .ret)
 .skip))
 (.seq (Rg [oM 12 1,oM 13 0,oR 14 .shr 12 13,oR 15 .neq 14 (ki .u32 0)]
 (.cond 15 (Rg [o 4 (.mv (.c (.one .nl))),oK 5 6]
 .ret)
 .skip))
 (Rg [oM 16 0,oM 17 1,o 18 (.mkm (some .i64) I Zc10 true),o 19 (.mkmF none (cs [I])),o 20 (.build [.i .i64 0,.i .u32 0,.v (.map none),.v (.map none)] [(0,1,16),(1,1,17),(2,1,18),(3,1,19)]),oG 21 20,oM 4 21,oK 5 0]
 .ret))))⟩
def Ylv(lo:Lo):FnE:=Zfe 337 false (Zsg [0,1] [.j,.i .u32] []) (.tp [.ptr 0 0 0,.j]) [.st [.j,.i .u32,.np 1,.np 2],.st [.j,.l Zc6,.b,.b],.fp none (cs [I])] (fun x=>q1 lo x.1 x.2:Int×Int->Option Zp27)
def fs2(lo:Lo):List FnE:=Ylv lo::fs1 lo
theorem Ys8(h:GZ P fm fs1 lo)(t:Ti P fm 337 Ys7):GZ P fm fs2 lo:=
  h.i (Ylv lo) .n t
def q2(lo:Lo)(id0:Int)(n1:Int)(s2:ByteArray):Option (Int×Zt0):=
  some (id0,[((1:Int),n1,(YDe #[])),((2:Int),(0:Int),s2)])
def Ys9:VFn:=⟨true,14,[.c 6 true 2],
 (Rg [o 6 (.alloc [.i .i64 0,.e Zc3])]
 (Rg [oM 7 0,oM 8 1,o 9 (.build [.i .i64 0,.i .i64 0,.s (⟨#[]⟩)] [(0,1,(k 1)),(1,1,8)]),oM 10 2,o 11 (.build [.i .i64 0,.i .i64 0,.s (⟨#[]⟩)] [(0,1,(k 2)),(2,1,10)]),o 12 (.bsl Zc3 2 [(0,9),(1,11)]),o 13 (.build [.i .i64 0,.e Zc3] [(0,1,7),(1,1,12)]),oS 2 6 13]
 (Fr 6)))⟩
def Ylw(lo:Lo):FnE:=Zfe 358 true (Zsg [0,1,2] [.j,.j,.s] []) (.ag [.j,.l Zc3]) [] (fun x=>q2 lo x.1 x.2.1 x.2.2:Int×Int×ByteArray->Option (Int×Zt0))
def fs3(lo:Lo):List FnE:=Ylw lo::fs2 lo
theorem Yta(h:GZ P fm fs2 lo)(t:Ti P fm 358 Ys9):GZ P fm fs3 lo:=
  h.p (Ylw lo) .n t
def q3(lo:Lo)(v0_0:Int)(v0_1:Int)(v0_2:ByteArray):Option Bool:=
  bif(decide (v0_0=0))then(bif(decide (v0_1=0))then(some (decide (v0_2=(YDe #[]))))else(some false))else(bif(decide (v0_0=1))then(some (decide (v0_2=(YDe #[]))))else(bif(decide (v0_0=2))then(bif(decide (v0_1=0))then(some (decide ((v0_2.size:Int)<=200)))else(some false))else(bif(decide (v0_0=3))then(bif(decide (1<=v0_1))then(some (decide (v0_2=(YDe #[]))))else(some false))else(some false))))
def Ytb:VFn:=⟨true,41,[.t 2],
 (Rg [oG 1 0,oB 2 false]
 (.seq (Rg [oF 3 0 1,oL 4 3]
 (.blk 0 (Rg [oR 6 .eql 4 (k 0),oM 5 6]
 (.cond 5 (Rg [oF 7 1 1,oL 8 7,oR 9 .eql 8 (k 0),oM 10 9,gT 11 10 (.fad 2 1),gT 12 10 (.load false 1 11),gT 13 10 (.bin .eql 12 (ks (⟨#[]⟩))),oP 14 10 13 (kb false),oM 2 14]
 (Fr 2))
 (Rg [oR 16 .eql 4 (k 1),oM 15 16]
 (.cond 15 (Rg [oF 17 2 1,oL 18 17,oR 19 .eql 18 (ks (⟨#[]⟩)),oM 2 19]
 (Fr 2))
 (Rg [oR 21 .eql 4 (k 2),oM 20 21]
 (.cond 20 (Rg [oF 22 1 1,oL 23 22,oR 24 .eql 23 (k 0),oM 25 24,gT 26 25 (.fad 2 1),gT 27 25 (.load false 1 26),gT 28 25 (.lenS 27),gT 29 25 (.bin .leq 28 (k 200)),oP 30 25 29 (kb false),oM 2 30]
 (Fr 2))
 (Rg [oR 32 .eql 4 (k 3),oM 31 32]
 (.cond 31 (Rg [oF 33 1 1,oL 34 33,oR 35 .geq 34 (k 1),oM 36 35,gT 37 36 (.fad 2 1),gT 38 36 (.load false 1 37),gT 39 36 (.bin .eql 38 (ks (⟨#[]⟩))),oP 40 36 39 (kb false),oM 2 40]
 (Fr 2))
 .skip))))))))))
 (Rg [oB 2 false]
 (Fr 2))))⟩
def Ylx(lo:Lo):FnE:=Zfe 283 true (Zsg [0] [.ag [.j,.j,.s]] []) .b [] (fun x=>q3 lo x.1 x.2.1 x.2.2:Int×Int×ByteArray->Option Bool)
def fs4(lo:Lo):List FnE:=Ylx lo::fs3 lo
theorem Ytc(h:GZ P fm fs3 lo)(t:Ti P fm 283 Ytb):GZ P fm fs4 lo:=
  h.p (Ylx lo) .n t
def q4(lo:Lo)(v0_0:Int)(v0_1:Int)(v0_2:ByteArray):Option Bool:=
  YCV (q3 lo v0_0 v0_1 v0_2) fun y2=>some (!y2)
def Ytd:VFn:=⟨true,6,[.t 2],
 (Rg [oG 1 0,oB 2 false]
 (Rg [oT 3 3 1,oC 4 283 [3],oX 5 4,oM 2 5]
 (Fr 2)))⟩
def Yly(lo:Lo):FnE:=Zfe 360 true (Zsg [0] [.ag [.j,.j,.s]] []) .b [] (fun x=>q4 lo x.1 x.2.1 x.2.2:Int×Int×ByteArray->Option Bool)
def fs5(lo:Lo):List FnE:=Yly lo::fs4 lo
theorem Yte(h:GZ P fm fs4 lo)(t:Ti P fm 360 Ytd):GZ P fm fs5 lo:=
  h.p (Yly lo) .n t
def q5_L3_b:VCode:=
 (Rg [oR 9 .lss 8 7]
 (.seq (Ce 9 0)
 (.seq (.blk 1 (Rg [oM 10 8,oM 5 10]
 (Rg [oM 11 1,oM 12 0,oM 13 5,oI 14 3 12 13,oT 15 3 14,o 16 (.dyn 11 [15])]
 (.cond 16 (Rg [oM 17 5,oM 4 17]
 .ret)
 .skip))))
 (.reg [oR 18 .add 8 (k 1),oM 8 18]))))
def Yey(lo:Lo):Zt0×Int×Int->Option ((Zt0×Int×Int)⊕ (Int⊕Unit)):=fun x=>match x with
  | (s0,v7,v8)=>bif(decide (v8<v7))then(chk (0<=v8/\v8< (s0.length:Int)) (YCV (q4 lo ((s0.getD v8.toNat Zd1).1) ((s0.getD v8.toNat Zd1).2.1) ((s0.getD v8.toNat Zd1).2.2)) fun y3=>bif y3 then(some (.inr (.inl v8)))else(some (.inl (s0,v7,(YDf .i64 (v8+1)))))))else(some (.inr (.inr ())))
def YgK(lo:Lo):Zt0×Int×Int->Option (Int⊕Unit):=lo.run (Yey lo)
def Ytf(lo:Lo):LpE:=⟨3,[],(Zsg [0,1,7,8] [.l Zc3,.clo 360 [],.j,.j] []),[⟨.ret,(Zsg [4] [.j] [])⟩,⟨.exit 0,(Zsg [] [] [])⟩],YgK lo⟩
def Ytg(lo:Lo):LL:=(Ytf lo,.loop q5_L3_b.er)::[]
theorem Yth(lo:Lo):Lk lo pf (fs5 lo) 0 (Ytg lo):=.l .n (Yey lo)
def q5(lo:Lo)(s0:List (Int×Int×ByteArray)):Option Int:=
  YCV (YgK lo (s0,(s0.length:Int),(0:Int))) fun y4=>alt2 y4 (fun y5=>some y5) (fun y6=>some (-1:Int))
def Yti:VFn:=⟨true,19,[.t 4],
 (Rg [oK 4 0]
 (.seq (Rg [oM 6 0,oN 7 6,oK 8 0]
 (.blk 0 (.loop 3 q5_L3_b)))
 (Rg [oK 4 (-1)]
 .ret)))⟩
def Ylz(lo:Lo):FnE:=Zfe 309 false (Zsg [0,1] [.l Zc3,.clo 360 []] []) (.i .i64) [] (fun x=>q5 lo x:Zt0->Option Int)
def fs6(lo:Lo):List FnE:=Ylz lo::fs5 lo
theorem Ytj(h:GZ P fm fs5 lo)(t:Ti P fm 309 Yti):GZ P fm fs6 lo:=
  h.i (Ylz lo) (Yth lo) t
def q6(lo:Lo)(s0:List (Int×Int×ByteArray)):Option Bool:=
  YCV (q5 lo s0) fun y7=>some (decide (0<=y7))
def Ytk:VFn:=⟨true,9,[.t 4],
 (Rg [oB 4 false]
 (Rg [oM 5 0,oM 6 1,oC 7 309 [5,6],oR 8 .geq 7 (k 0),oM 4 8]
 .ret))⟩
def YlA(lo:Lo):FnE:=Zfe 293 false (Zsg [0,1] [.l Zc3,.clo 360 []] []) .b [] (fun x=>q6 lo x:Zt0->Option Bool)
def fs7(lo:Lo):List FnE:=YlA lo::fs6 lo
theorem Ytl(h:GZ P fm fs6 lo)(t:Ti P fm 293 Ytk):GZ P fm fs7 lo:=
  h.i (YlA lo) .n t
def q7(lo:Lo)(l:List (Int×Int×ByteArray)):Option Zt0:=bif YCN l.length maxEl&&YCN 1 3 then some l else none
def Ytm(lo:Lo):FnE:=vcloneE 308 Zc3
def fs8(lo:Lo):List FnE:=Ytm lo::fs7 lo
theorem Ytn(h:GZ P fm fs7 lo)(htie: ∀f,fm f=308->fnTr P fm pf f=some (8,[.t 2],Yzd 3 [(.int .i64 0),(.int .i64 0),(.string (⟨#[]⟩))])):GZ P fm fs8 lo:=
  ⟨h.1,h.2,Yk0 h.S h.mx Zc3 rfl [(.int .i64 0),(.int .i64 0),(.string (⟨#[]⟩))] 8 (by decide) htie⟩
def q8_L3_b:VCode:=
 (Rg [oR 12 .lss 11 10]
 (.seq (Ce 12 0)
 (.seq (.blk 1 (Rg [oM 13 11,oI 14 3 9 11,oT 15 3 14,o 7 (.alloc [.i .i64 0,.i .i64 0,.s (⟨#[]⟩)]),oM 6 13,oS 3 7 15]
 (Rg [oM 16 0,o 17 (.nilc 16),oF 18 1 17,oL 19 18,oM 20 6,oR 21 .shr 19 20,oR 22 .and 21 (ki .u32 1),oR 23 .eql 22 (ki .u32 1)]
 (.cond 23 (.reg [oM 24 5,oT 25 3 7,o 26 (.bsl Zc3 1 [(0,25)]),o 27 (.app Zc3 0 24 26),oM 5 27])
 .skip))))
 (.reg [oR 28 .add 11 (k 1),oM 11 28]))))
def Yez(lo:Lo):Zp21->Option (Zp21⊕ ((Int×Int×Int×Zt2×Bool×Bool×Int×Zt1×Zt0))):=fun x=>match x with
  | (v9,v10,v11,x0_0,x0_1,h1_0,h1_1,h1_2,h1_3,h2_0,h2_1,out5)=>bif(decide (v11<v10))then(chk (0<=v11/\v11< (v9.length:Int)) (chk (0<=v11) (bif(decide ((bits .and .u32 (x0_1.fdiv (2^(min v11.toNat (IntKind.bits .u32)))) (1:Int))=(1:Int)))then(chk (out5.length+([(v9.getD v11.toNat Zd1)]).length<=maxEl) (some (.inl (v9,v10,(YDf .i64 (v11+1)),x0_0,x0_1,h1_0,h1_1,h1_2,h1_3,h2_0,h2_1,(out5++([(v9.getD v11.toNat Zd1)]))))))else(some (.inl (v9,v10,(YDf .i64 (v11+1)),x0_0,x0_1,h1_0,h1_1,h1_2,h1_3,h2_0,h2_1,out5))))))else(some (.inr (x0_0,x0_1,h1_0,h1_1,h1_2,h1_3,h2_0,h2_1,out5)))
def YgL(lo:Lo):Zp21->Option ((Int×Int×Int×Zt2×Bool×Bool×Int×Zt1×Zt0)):=lo.run (Yez lo)
def Yto(lo:Lo):LpE:=⟨3,[(5,none,false)],(Zsg [0,5,9,10,11] [.ptr 0 0 0,.ref 3,.l Zc3,.j,.j] [.st [.j,.i .u32,.np 1,.np 2],.st [.j,.l Zc6,.b,.b],.fp none (cs [I]),.sq Zc3]),[⟨.exit 0,(Zsg [0,5] [.ptr 0 0 0,.ref 3] [.st [.j,.i .u32,.np 1,.np 2],.st [.j,.l Zc6,.b,.b],.fp none (cs [I]),.sq Zc3])⟩],YgL lo⟩
def Ytp(lo:Lo):LL:=(Yto lo,.loop q8_L3_b.er)::[]
theorem Ytq(lo:Lo):Lk lo pf (fs8 lo) 3 (Ytp lo):=.l .n (Yez lo)
def q8(lo:Lo)(r1_0:Int)(r1_1:List (Int×Int×ByteArray))(x0_0:Int)(x0_1:Int)(h1_0:Int)(h1_1:List (Int×Int×Int×Zt0))(h1_2:Bool)(h1_3:Bool)(h2_0:Int)(h2_1:List (Int×ByteArray× (List Int))):Option (Int×Int×Int×Zt2×Bool×Bool×Int×Zt1×Zt0):=
  YCV (YgL lo (r1_1,(r1_1.length:Int),(0:Int),x0_0,x0_1,h1_0,h1_1,h1_2,h1_3,h2_0,h2_1,[])) fun y10=>some (y10.1,y10.2.1,y10.2.2.1,y10.2.2.2.1,y10.2.2.2.2.1,y10.2.2.2.2.2.1,y10.2.2.2.2.2.2.1,y10.2.2.2.2.2.2.2.1,y10.2.2.2.2.2.2.2.2)
def Ytr:VFn:=⟨true,30,[.t 4],
 (Rg [oG 3 1,o 4 (.mv (ke Zc3))]
 (Rg [o 5 (.mv (ke Zc3))]
 (.seq (Rg [oF 8 1 3,oL 9 8,oN 10 9,oK 11 0]
 (.blk 0 (.loop 3 q8_L3_b)))
 (Rg [oM 29 5,oM 4 29]
 .ret))))⟩
def YlB(lo:Lo):FnE:=Zfe 362 false (Zsg [0,1] [.ptr 0 0 0,.ag [.j,.l Zc3]] [.st [.j,.i .u32,.np 1,.np 2],.st [.j,.l Zc6,.b,.b],.fp none (cs [I])]) (.ref 3) [.st [.j,.i .u32,.np 1,.np 2],.st [.j,.l Zc6,.b,.b],.fp none (cs [I]),.sq Zc3] (fun x=>q8 lo x.1 x.2.1 x.2.2.1 x.2.2.2.1 x.2.2.2.2.1 x.2.2.2.2.2.1 x.2.2.2.2.2.2.1 x.2.2.2.2.2.2.2.1 x.2.2.2.2.2.2.2.2.1 x.2.2.2.2.2.2.2.2.2:Int×Zt0×Int×Int×Int×Zt2×Bool×Bool×Int×Zt1->Option (Int×Int×Int×Zt2×Bool×Bool×Int×Zt1×Zt0))
def fs9(lo:Lo):List FnE:=YlB lo::fs8 lo
theorem Yts(h:GZ P fm fs8 lo)(t:Ti P fm 362 Ytr):GZ P fm fs9 lo:=
  h.i (YlB lo) (Ytq lo) t
def q9_L3_b:VCode:=
 (.seq (Rg [oM 10 6,oR 11 .geq 10 (k 0)]
 (Ce 11 0))
 (.seq (.blk 1 (.reg [oM 14 0,oM 15 5,oM 16 6,oR 17 .shr 15 16,o 18 (.conv .u8 17),o 19 (.bsl (cs [.i .u8]) 1 [(0,18)]),o 20 (.appb 14 19),oM 0 20]))
 (.reg [oM 12 6,oR 13 .sub 12 (k 8),oM 6 13])))
def YgM(lo:Lo):Int×Int×ByteArray->Option ((Int×Int×ByteArray)⊕ByteArray):=fun x=>match x with
  | (u5,shift6,out0)=>bif(decide (0<=shift6))then(chk (0<=shift6) (bif inB ([(YDf .u8 (u5.fdiv (2^(min shift6.toNat (IntKind.bits .u64)))))])then(chk (out0.size+([(YDf .u8 (u5.fdiv (2^(min shift6.toNat (IntKind.bits .u64)))))]).length<=maxEl) (some (.inl (u5,(YDf .i64 (shift6-8)),(out0++YyE ([(YDf .u8 (u5.fdiv (2^(min shift6.toNat (IntKind.bits .u64)))))]))))))else none))else(some (.inr out0))
def YgN(lo:Lo):Int×Int×ByteArray->Option ByteArray:=lo.run (YgM lo)
def Ytt(lo:Lo):LpE:=⟨3,[(0,some 0,false)],(Zsg [0,5,6] [.ref 1,.i .u64,.j] [.dd,.sb]),[⟨.exit 0,(Zsg [0] [.ref 1] [.dd,.sb])⟩],YgN lo⟩
def Ytu(lo:Lo):LL:=(Ytt lo,.loop q9_L3_b.er)::[]
theorem Ytv(lo:Lo):Lk lo pf (fs9 lo) 1 (Ytu lo):=.l .n (YgM lo)
def q9(lo:Lo)(n1:Int)(out0:ByteArray):Option ByteArray:=
  YCV (YgN lo ((bits .xor .u64 (YDf .u64 n1) (9223372036854775808:Int)),(56:Int),out0)) fun y13=>some y13
def Ytw:VFn:=⟨true,22,[.t 4],
 (Rg [o 4 (.mv (ke (cs [.i .u8])))]
 (Rg [oM 7 1,o 8 (.conv .u64 7),oR 9 .xor 8 (ki .u64 9223372036854775808),oM 5 9]
 (.seq (Rg [oK 6 56]
 (.blk 0 (.loop 3 q9_L3_b)))
 (Rg [oM 21 0,oM 4 21]
 .ret))))⟩
def YlC(lo:Lo):FnE:=Zfe 310 false (Zsg [0,1] [.ref 0,.j] [.sb]) (.ref 1) [.dd,.sb] (fun x=>q9 lo x.1 x.2:Int×ByteArray->Option ByteArray)
def fs10(lo:Lo):List FnE:=YlC lo::fs9 lo
theorem Ytx(h:GZ P fm fs9 lo)(t:Ti P fm 310 Ytw):GZ P fm fs10 lo:=
  h.i (YlC lo) (Ytv lo) t
def q10_L5_b:VCode:=
 (Rg [oR 28 .lss 27 26]
 (.seq (Ce 28 1)
 (.seq (.blk 2 (Rg [oM 29 27,oM 5 29]
 (Rg [oM 30 4,oF 31 2 1,oL 32 31,oM 33 5,o 34 (.idx 32 33),o 35 (.bsl (cs [.i .u8]) 1 [(0,34)]),o 36 (.appb 30 35),oM 4 36]
 (Rg [oF 37 2 1,oL 38 37,oM 39 5,o 40 (.idx 38 39),oR 41 .eql 40 (ki .u8 0)]
 (.cond 41 (.reg [oM 42 4,o 43 (.bsl (cs [.i .u8]) 1 [(0,(ki .u8 255))]),o 44 (.appb 42 43),oM 4 44])
 .skip)))))
 (.reg [oR 45 .add 27 (k 1),oM 27 45]))))
def YeA(lo:Lo):Zp30->Option (Zp30⊕ByteArray):=fun x=>match x with
  | (v26,v27,v1_0,v1_1,v1_2,out4)=>bif(decide (v27<v26))then(chk (0<=v27/\v27< (v1_2.size:Int)) (bif inB ([(YyF v1_2 v27)])then(chk (out4.size+([(YyF v1_2 v27)]).length<=maxEl) (chk (0<=v27/\v27< (v1_2.size:Int)) (bif(decide ((YyF v1_2 v27)=(0:Int)))then(bif inB ([(255:Int)])then(chk ((out4++YyE ([(YyF v1_2 v27)])).size+([(255:Int)]).length<=maxEl) (some (.inl (v26,(YDf .i64 (v27+1)),v1_0,v1_1,v1_2,((out4++YyE ([(YyF v1_2 v27)]))++YyE ([(255:Int)]))))))else none)else(some (.inl (v26,(YDf .i64 (v27+1)),v1_0,v1_1,v1_2,(out4++YyE ([(YyF v1_2 v27)]))))))))else none))else(some (.inr out4))
def YgO(lo:Lo):Zp30->Option ByteArray:=lo.run (YeA lo)
def Yty(lo:Lo):LpE:=⟨5,[],(Zsg [1,4,26,27] [.ptr 0 0 0,.ref 1,.j,.j] [.st [.j,.j,.s],.sb]),[⟨.exit 1,(Zsg [4] [.ref 0] [.sb])⟩],YgO lo⟩
def YlD(lo:Lo):LL:=(Yty lo,.loop q10_L5_b.er)::[]
theorem Ytz(lo:Lo):Lk lo pf (fs10 lo) 0 (YlD lo):=.l .n (YeA lo)
def q10_J17_b:VCode:=
 (.cond 15 (.reg [oM 18 4,oF 19 1 1,oL 20 19,oC 21 310 [18,20],oM 4 21])
 (Rg [oR 23 .eql 14 (k 2),oM 22 23]
 (.cond 22 (.seq (Rg [oF 24 2 1,oL 25 24,o 26 (.lenS 25),oK 27 0]
 (.blk 1 (.loop 5 q10_L5_b)))
 (.reg [oM 46 4,o 47 (.bsl (cs [.i .u8]) 2 [(0,(ki .u8 0)),(1,(ki .u8 1))]),o 48 (.appb 46 47),oM 4 48]))
 .skip)))
def YbV(lo:Lo):Int×Bool×Int×Int×ByteArray×ByteArray->Option ByteArray:=fun x=>match x with
  | (v14,v15,v1_0,v1_1,v1_2,out4)=>bif v15 then(YCV (q9 lo v1_1 out4) fun y14=>some y14)else(bif(decide (v14=2))then(YCV (YgO lo ((v1_2.size:Int),(0:Int),v1_0,v1_1,v1_2,out4)) fun y15=>bif inB ([(0:Int),(1:Int)])then(chk (y15.size+([(0:Int),(1:Int)]).length<=maxEl) (some (y15++YyE ([(0:Int),(1:Int)]))))else none)else(some out4))
def YtA(lo:Lo):LpE:=⟨17,[],(Zsg [1,4,14,15] [.ptr 0 0 0,.ref 1,.j,.b] [.st [.j,.j,.s],.sb]),[⟨.nor,(Zsg [4] [.ref 0] [.sb])⟩],YbV lo⟩
def YtB(lo:Lo):LL:=(YtA lo,q10_J17_b.er)::YlD lo
theorem YtC(lo:Lo):Lk lo pf (fs10 lo) 0 (YtB lo):=.j (Ytz lo)
def q10(lo:Lo)(v0_0:Int)(v0_1:Int)(v0_2:ByteArray):Option (ByteArray×Int):=
  YCV (q3 lo v0_0 v0_1 v0_2) fun y12=>bif(!y12)then(some ((YDe #[]),(1:Int)))else(bif inB [(YDf .u8 v0_0)]then(bif(decide (v0_0=1))then(YCV (YbV lo (v0_0,true,v0_0,v0_1,v0_2,(YyE [(YDf .u8 v0_0)]))) fun y16=>some (y16,(0:Int)))else(YCV (YbV lo (v0_0,(decide (v0_0=3)),v0_0,v0_1,v0_2,(YyE [(YDf .u8 v0_0)]))) fun y17=>some (y17,(0:Int))))else none)
def YtD:VFn:=⟨true,51,[.t 2,.t 3],
 (Rg [oG 1 0,o 2 (.mv (ks (⟨#[]⟩))),oK 3 0]
 (.seq (Rg [oT 6 3 1,oC 7 283 [6],oX 8 7]
 (.cond 8 (Rg [o 2 (.mv (ks (⟨#[]⟩))),oK 3 1]
 (.fz [2,3] .ret))
 .skip))
 (Rg [oF 9 0 1,oL 10 9,o 11 (.conv .u8 10),o 12 (.litb [11]),oM 4 12]
 (.seq (Rg [oF 13 0 1,oL 14 13]
 (.blk 0 (.seq (Rg [oR 16 .eql 14 (k 1),oM 15 16]
 (.cond 15 .skip
 (.reg [oR 17 .eql 14 (k 3),oM 15 17])))
 (.jn 17 q10_J17_b))))
 (Rg [oM 49 4,o 50 (.bstr 49),oM 2 50,oK 3 0]
 (.fz [2,3] .ret))))))⟩
def YlE(lo:Lo):FnE:=Zfe 296 true (Zsg [0] [.ag [.j,.j,.s]] []) (.tp [.s,.j]) [] (fun x=>q10 lo x.1 x.2.1 x.2.2:Int×Int×ByteArray->Option (ByteArray×Int))
def fs11(lo:Lo):List FnE:=YlE lo::fs10 lo
theorem YtE(h:GZ P fm fs10 lo)(t:Ti P fm 296 YtD):GZ P fm fs11 lo:=
  h.p (YlE lo) (YtC lo) t
def q11(lo:Lo)(s:ByteArray):Option ByteArray:=some s
def YtF(lo:Lo):FnE:=vchkE2 164
def fs12(lo:Lo):List FnE:=YtF lo::fs11 lo
theorem YtG(h:GZ P fm fs11 lo)(hG: ∀f,fm f=164->Yyw P f=true/\ ∃ρ:Go.Shelf.Ren,Go.Proofs.Lays.n240 P ρ/\BldOK P fm ρ/\ρ.f 240=f):GZ P fm fs12 lo:=
  ⟨h.1,h.2,Ysm h.S rfl hG⟩
def q12(lo:Lo)(s1:ByteArray)(h1:ByteArray):Option (Int×ByteArray):=
  YCV (q11 lo h1) fun y19=>chk (y19.size=h1.size) (chk (y19.size+s1.size<=maxEl) (some ((s1.size:Int),(y19++s1))))
def YtH:VFn:=⟨true,19,[.t 4,.t 5],
 (Rg [oK 4 0,o 5 (.mv (.c (.v .nilIface)))]
 (Rg [oM 6 0,oC 7 164 [6]]
 (Rg [oM 8 0,oM 9 0,o 10 (.nilc 9),oF 11 1 10,oL 12 11,oM 13 1,o 14 (.apps 12 13),o 15 (.nilc 8),oF 16 1 15,oS 1 16 14]
 (Rg [oM 17 1,o 18 (.lenS 17),oM 4 18,o 5 (.mv (.c (.v .nilIface)))]
 .ret))))⟩
def YlF(lo:Lo):FnE:=Zfe 149 false (Zsg [0,1] [.ptr 0 0 0,.s] [.st [.np 0,.ref 1],.sb]) (.tp [.j,.u]) [.st [.np 0,.ref 2],.dd,.sb] (fun x=>q12 lo x.1 x.2:ByteArray×ByteArray->Option (Int×ByteArray))
def fs13(lo:Lo):List FnE:=YlF lo::fs12 lo
theorem YtI(h:GZ P fm fs12 lo)(t:Ti P fm 149 YtH):GZ P fm fs13 lo:=
  h.i (YlF lo) .n t
def q13(lo:Lo)(s:ByteArray):Option ByteArray:=some s
def YtJ(lo:Lo):FnE:=vstrE 151
def fs14(lo:Lo):List FnE:=YtJ lo::fs13 lo
theorem YtK(h:GZ P fm fs13 lo)(hG: ∀f,fm f=151->Yyw P f=true/\ ∃ρ:Go.Shelf.Ren,Go.Proofs.Lays.n169 P ρ/\BldOK P fm ρ/\fm.bu=ρ.t 5/\ρ.f 169=f):GZ P fm fs14 lo:=
  ⟨h.1,h.2,Yst h.S rfl hG⟩
def q14_L3_b:VCode:=
 (Rg [oR 11 .lss 10 9]
 (.seq (Ce 11 0)
 (.seq (.blk 1 (Rg [oI 12 3 8 10,oT 13 3 12,o 5 (.alloc [.i .i64 0,.i .i64 0,.s (⟨#[]⟩)]),oS 3 5 13]
 (Rg [oT 15 3 5,oC 16 296 [15],oM 14 16,oE 17 14 0,oE 18 14 1,oM 6 17,oM 7 18]
 (.reg [oM 19 6,oC 20 149 [3,19]]))))
 (.reg [oR 21 .add 10 (k 1),oM 10 21]))))
def YeB(lo:Lo):Zt0×Int×Int×ByteArray->Option ((Zt0×Int×Int×ByteArray)⊕ByteArray):=fun x=>match x with
  | (v8,v9,v10,h1)=>bif(decide (v10<v9))then(chk (0<=v10/\v10< (v8.length:Int)) (YCV (q10 lo ((v8.getD v10.toNat Zd1).1) ((v8.getD v10.toNat Zd1).2.1) ((v8.getD v10.toNat Zd1).2.2)) fun y18=>YCV (q12 lo y18.1 h1) fun y20=>some (.inl (v8,v9,(YDf .i64 (v10+1)),y20.2))))else(some (.inr h1))
def YgP(lo:Lo):Zt0×Int×Int×ByteArray->Option ByteArray:=lo.run (YeB lo)
def YtL(lo:Lo):LpE:=⟨3,[],(Zsg [3,8,9,10] [.ptr 0 0 0,.l Zc3,.j,.j] [.st [.np 0,.ref 1],.sb]),[⟨.exit 0,(Zsg [3] [.ptr 0 0 0] [.st [.np 0,.ref 1],.sb])⟩],YgP lo⟩
def YtM(lo:Lo):LL:=(YtL lo,.loop q14_L3_b.er)::[]
theorem YtN(lo:Lo):Lk lo pf (fs14 lo) 0 (YtM lo):=.l .n (YeB lo)
def q14(lo:Lo)(l0:List (Int×Int×ByteArray)):Option ByteArray:=
  YCV (YgP lo (l0,(l0.length:Int),(0:Int),(YDe #[]))) fun y21=>YCV (q13 lo y21) fun y22=>some y22
def YtO:VFn:=⟨true,23,[.t 2],
 (Rg [o 2 (.mv (ks (⟨#[]⟩)))]
 (Rg [o 3 (.bld)]
 (.ow [(3,some 1,false)] (.seq (Rg [oM 8 0,oN 9 8,oK 10 0]
 (.blk 0 (.loop 3 q14_L3_b)))
 (Rg [oC 22 151 [3],oM 2 22]
 (Fr 2))))))⟩
def YlG(lo:Lo):FnE:=Zfe 361 true (Zsg [0] [.l Zc3] []) .s [] (fun x=>q14 lo x:Zt0->Option ByteArray)
def fs15(lo:Lo):List FnE:=YlG lo::fs14 lo
theorem YtP(h:GZ P fm fs14 lo)(t:Ti P fm 361 YtO):GZ P fm fs15 lo:=
  h.p (YlG lo) (YtN lo) t
def q15(lo:Lo)(x0:Int):Option Bool:=
  some (!decide (x0=x0))
def YtQ:VFn:=⟨true,6,[.t 2],
 (Rg [oB 2 false]
 (Rg [oM 3 0,oM 4 0,oR 5 .neq 3 4,oM 2 5]
 (Fr 2)))⟩
def YlH(lo:Lo):FnE:=Zfe 376 true (Zsg [0] [.j] []) .b [] (fun x=>q15 lo x:Int->Option Bool)
def fs16(lo:Lo):List FnE:=YlH lo::fs15 lo
theorem YtR(h:GZ P fm fs15 lo)(t:Ti P fm 376 YtQ):GZ P fm fs16 lo:=
  h.p (YlH lo) .n t
def q16(lo:Lo)(x0:Int)(y1:Int):Option Bool:=
  YCV (q15 lo x0) fun y24=>bif y24 then(YCV (q15 lo y1) fun y25=>bif(!y25)then(some true)else(some (decide (x0<y1))))else(some (decide (x0<y1)))
def YtS:VFn:=⟨true,17,[.t 4],
 (Rg [oB 4 false]
 (Rg [oM 5 0,oC 6 376 [5],oM 7 6,gT 8 7 (.mv 1),gT 9 7 (.call 376 [8]),gT 10 7 (.not 9),oP 11 7 10 (kb false),oM 12 11,gF 13 12 (.mv 0),gF 14 12 (.mv 1),gF 15 12 (.bin .lss 13 14),oP 16 12 (kb true) 15,oM 4 16]
 (Fr 4)))⟩
def YlI(lo:Lo):FnE:=Zfe 370 true (Zsg [0,1] [.j,.j] []) .b [] (fun x=>q16 lo x.1 x.2:Int×Int->Option Bool)
def fs17(lo:Lo):List FnE:=YlI lo::fs16 lo
theorem YtT(h:GZ P fm fs16 lo)(t:Ti P fm 370 YtS):GZ P fm fs17 lo:=
  h.p (YlI lo) .n t
def q17(lo:Lo)(x0:Int):Option Bool:=
  some (!decide (x0=x0))
def YtU:VFn:=⟨true,6,[.t 2],
 (Rg [oB 2 false]
 (Rg [oM 3 0,oM 4 0,oR 5 .neq 3 4,oM 2 5]
 (Fr 2)))⟩
def YlJ(lo:Lo):FnE:=Zfe 371 true (Zsg [0] [.j] []) .b [] (fun x=>q17 lo x:Int->Option Bool)
def fs18(lo:Lo):List FnE:=YlJ lo::fs17 lo
theorem YtV(h:GZ P fm fs17 lo)(t:Ti P fm 371 YtU):GZ P fm fs18 lo:=
  h.p (YlJ lo) .n t
def q18_L3_b:VCode:=
 (.seq (Rg [oM 13 7,oM 14 8,oR 15 .lss 13 14]
 (Ce 15 0))
 (.blk 1 (Rg [oM 16 7,oM 17 8,oR 18 .add 16 17,o 19 (.conv .u64 18),oR 20 .shr 19 (ki .u64 1),o 21 (.conv .i64 20),oM 9 21]
 (Rg [oM 22 0,oM 23 9,oI 24 1 22 23,oL 25 24,oM 26 1,oC 27 370 [25,26]]
 (.cond 27 (.reg [oM 28 9,oR 29 .add 28 (k 1),oM 7 29])
 (.reg [oM 30 9,oM 8 30]))))))
def YbW(lo:Lo):(List Int)×Int×Int×Int×Int->Option (((List Int)×Int×Int×Int×Int)⊕ (((List Int)×Int×Int×Int))):=fun x=>match x with
  | (x0,target1,n6,i7,j8)=>bif(decide (i7<j8))then(chk (0<=(1:Int)) (chk (0<=(YDf .i64 ((YDf .u64 (YDf .i64 (i7+j8))).fdiv (2^(min (1:Int).toNat (IntKind.bits .u64)))))/\ (YDf .i64 ((YDf .u64 (YDf .i64 (i7+j8))).fdiv (2^(min (1:Int).toNat (IntKind.bits .u64)))))< (x0.length:Int)) (YCV (q16 lo (x0.getD ((YDf .i64 ((YDf .u64 (YDf .i64 (i7+j8))).fdiv (2^(min (1:Int).toNat (IntKind.bits .u64))))).toNat) (0:Int)) target1) fun y26=>bif y26 then(some (.inl (x0,target1,n6,(YDf .i64 ((YDf .i64 ((YDf .u64 (YDf .i64 (i7+j8))).fdiv (2^(min (1:Int).toNat (IntKind.bits .u64)))))+(1:Int))),j8)))else(some (.inl (x0,target1,n6,i7,(YDf .i64 ((YDf .u64 (YDf .i64 (i7+j8))).fdiv (2^(min (1:Int).toNat (IntKind.bits .u64)))))))))))else(some (.inr (x0,target1,n6,i7)))
def YgQ(lo:Lo):(List Int)×Int×Int×Int×Int->Option (((List Int)×Int×Int×Int)):=lo.run (YbW lo)
def YtW(lo:Lo):LpE:=⟨3,[],(Zsg [0,1,6,7,8] [.l (cs [I]),.j,.j,.j,.j] []),[⟨.exit 0,(Zsg [0,1,6,7] [.l (cs [I]),.j,.j,.j] [])⟩],YgQ lo⟩
def YtX(lo:Lo):LL:=(YtW lo,.loop q18_L3_b.er)::[]
theorem YtY(lo:Lo):Lk lo pf (fs18 lo) 0 (YtX lo):=.l .n (YbW lo)
def q18(lo:Lo)(x0:List Int)(target1:Int):Option (Int×Bool):=
  YCV (YgQ lo (x0,target1,(x0.length:Int),(0:Int),(x0.length:Int))) fun y27=>bif(decide (y27.2.2.2<y27.2.2.1))then(chk (0<=y27.2.2.2/\y27.2.2.2< (y27.1.length:Int)) (bif(decide ((y27.1.getD y27.2.2.2.toNat (0:Int))=y27.2.1))then(some (y27.2.2.2,true))else(chk (0<=y27.2.2.2/\y27.2.2.2< (y27.1.length:Int)) (YCV (q17 lo (y27.1.getD y27.2.2.2.toNat (0:Int))) fun y28=>bif y28 then(YCV (q17 lo y27.2.1) fun y29=>some (y27.2.2.2,y29))else(some (y27.2.2.2,false))))))else(some (y27.2.2.2,false))
def YtZ:VFn:=⟨true,54,[.t 4,.t 5],
 (Rg [oK 4 0,oB 5 false]
 (Rg [oM 10 0,oN 11 10,oM 6 11]
 (Rg [oM 12 6,oK 7 0,oM 8 12]
 (.seq (.blk 0 (.loop 3 q18_L3_b))
 (Rg [oM 31 7,oM 32 7,oM 33 6,oR 34 .lss 32 33,oM 35 34,gT 36 35 (.mv 0),gT 37 35 (.mv 7),gT 38 35 (.iad 1 36 37),gT 39 35 (.load false 1 38),gT 40 35 (.mv 1),gT 41 35 (.bin .eql 39 40),gT 42 35 (.mv 41),gF 43 42 (.mv 0),gF 44 42 (.mv 7),gF 45 42 (.iad 1 43 44),gF 46 42 (.load false 1 45),gF 47 42 (.call 371 [46]),gF 48 42 (.mv 47),gT 49 48 (.mv 1),gT 50 48 (.call 371 [49]),gF 51 42 (.pick 48 50 (kb false)),gT 52 35 (.pick 42 (kb true) 51),oP 53 35 52 (kb false),oM 4 31,oM 5 53]
 (.fz [4,5] .ret))))))⟩
def YlK(lo:Lo):FnE:=Zfe 363 true (Zsg [0,1] [.l (cs [I]),.j] []) (.tp [.j,.b]) [] (fun x=>q18 lo x.1 x.2:(List Int)×Int->Option (Int×Bool))
def fs19(lo:Lo):List FnE:=YlK lo::fs18 lo
theorem Yt0(h:GZ P fm fs18 lo)(t:Ti P fm 363 YtZ):GZ P fm fs19 lo:=
  h.p (YlK lo) (YtY lo) t
def q19(lo:Lo)(i:Int)(v l:List Int):Option (List Int):=YA1 (i,(v,l))
def Yt1(lo:Lo):FnE:=vinsE 364 (cs [I])
def fs20(lo:Lo):List FnE:=Yt1 lo::fs19 lo
theorem Yt2(h:GZ P fm fs19 lo)(hG: ∀f,fm f=364->Yyw P f=true/\ ∃(ρ:Go.Shelf.Ren) (z:List Value),InsL P ρ z/\z.length=1/\ρ.f 22=f):GZ P fm fs20 lo:=
  ⟨h.1,h.2,YsS h.S (cs [I]) rfl hG⟩
def q20(lo:Lo)(i:Int)(v:List Int):Option (List Int):=Yz8 (i,v)
def Yt3(lo:Lo):FnE:=vinsNE 364 (cs [I])
def fs21(lo:Lo):List FnE:=Yt3 lo::fs20 lo
theorem Yt4(h:GZ P fm fs20 lo)(hG: ∀f,fm f=364->Yyw P f=true/\ ∃(ρ:Go.Shelf.Ren) (z:List Value),InsL P ρ z/\z.length=1/\ρ.f 22=f):GZ P fm fs21 lo:=
  ⟨h.1,h.2,YsV h.S (cs [I]) rfl hG⟩
def q21(lo:Lo)(r1_0:Int)(r1_1:List (Int×Int×ByteArray))(x0_0:Int)(x0_1:Int)(h1_0:Int)(h1_1:List (Int×Int×Int×Zt0))(h1_2:Bool)(h1_3:Bool)(h2_0:Int)(h2_1:List (Int×ByteArray× (List Int))):Option Zp27:=
  bif(!decide ((r1_1.length:Int)=x0_0))then(some ((6:Int),x0_0,x0_1,h1_0,h1_1,h1_2,h1_3,h2_0,h2_1))else(bif(decide (r1_0<=0))then(some ((1:Int),x0_0,x0_1,h1_0,h1_1,h1_2,h1_3,h2_0,h2_1))else(YCV (q6 lo r1_1) fun y8=>bif y8 then(some ((1:Int),x0_0,x0_1,h1_0,h1_1,h1_2,h1_3,h2_0,h2_1))else(bif(mhs eqI r1_0 h1_1)then(some ((5:Int),x0_0,x0_1,h1_0,h1_1,h1_2,h1_3,h2_0,h2_1))else(YCV (q7 lo r1_1) fun y9=>YCV (q8 lo r1_0 r1_1 x0_0 x0_1 (mck eqI h1_0 r1_0 h1_1) (mpt eqI h1_0 r1_0 (r1_0,y9) h1_1) h1_2 h1_3 h2_0 h2_1) fun y11=>YCV (q14 lo y11.2.2.2.2.2.2.2.2) fun y23=>YCV (q18 lo ((y11.2.2.2.2.2.2.2.1.getD (mix eqS y23 y11.2.2.2.2.2.2.2.1) ((0:Int),(YDe #[]),[])).2.2) r1_0) fun y30=>bif YCK (mix eqS y23 y11.2.2.2.2.2.2.2.1) y11.2.2.2.2.2.2.2.1.length then(YCV (q19 lo y30.1 [r1_0] ((y11.2.2.2.2.2.2.2.1.getD (mix eqS y23 y11.2.2.2.2.2.2.2.1) ((0:Int),(YDe #[]),[])).2.2)) fun y31=>chk (mix eqS y23 y11.2.2.2.2.2.2.2.1=(mix eqS y23 y11.2.2.2.2.2.2.2.1)) (some ((0:Int),y11.1,y11.2.1,y11.2.2.1,y11.2.2.2.1,y11.2.2.2.2.1,y11.2.2.2.2.2.1,(mck eqS y11.2.2.2.2.2.2.1 y23 y11.2.2.2.2.2.2.2.1),(mpt eqS y11.2.2.2.2.2.2.1 y23 y31 y11.2.2.2.2.2.2.2.1))))else(YCV (q20 lo y30.1 [r1_0]) fun y32=>some ((0:Int),y11.1,y11.2.1,y11.2.2.1,y11.2.2.2.1,y11.2.2.2.2.1,y11.2.2.2.2.2.1,(mck eqS y11.2.2.2.2.2.2.1 y23 y11.2.2.2.2.2.2.2.1),(mpt eqS y11.2.2.2.2.2.2.1 y23 y32 y11.2.2.2.2.2.2.2.1)))))))
def Yt5:VFn:=⟨true,81,[.t 4],
 (Rg [oG 3 1,oK 4 0]
 (.seq (Rg [oF 10 1 3,oL 11 10,oN 12 11,oM 13 0,o 14 (.nilc 13),oF 15 0 14,oL 16 15,oR 17 .neq 12 16]
 (.cond 17 (Rg [oK 4 6]
 .ret)
 .skip))
 (.seq (Rg [oF 18 0 3,oL 19 18,oR 20 .leq 19 (k 0),oM 21 20,gF 22 21 (.fad 1 3),gF 23 21 (.load false 1 22),gF 24 21 (.call 293 [23,(.c (.f 360))]),oP 25 21 (kb true) 24]
 (.cond 25 (Rg [oK 4 1]
 .ret)
 .skip))
 (.seq (Rg [oM 27 0,o 28 (.nilc 27),oF 29 2 28,⟨some 30,.load false 1 29,none,true,false⟩,oF 31 0 3,⟨some 32,.load false 1 31,none,true,false⟩,⟨some 33,.mget (some .i64) I Zc10 true true 30 32,none,true,false⟩,oM 26 33,oE 34 26 0,oE 35 26 1,o 5 (.alloc [.i .i64 0,.e Zc3]),oS 2 5 34,oM 6 35]
 (Rg [oM 36 6]
 (.cond 36 (Rg [oK 4 5]
 .ret)
 .skip)))
 (Rg [oM 37 0,o 38 (.nilc 37),oF 39 2 38,⟨some 40,.load false 1 39,none,true,false⟩,oF 41 0 3,⟨some 42,.load false 1 41,none,true,false⟩,oF 43 0 3,⟨some 44,.load false 1 43,none,true,false⟩,oF 45 1 3,oL 46 45,o 47 (.callN 308 [46] true),o 48 (.build [.i .i64 0,.e Zc3] [(0,1,44),(1,1,47)]),on (.mput (some .i64) I Zc10 true 40 42 48)]
 (Rg [oM 49 0,oT 50 2 3,oC 51 362 [49,50],oC 52 361 [51],oM 7 52]
 (Rg [oM 54 0,o 55 (.nilc 54),oF 56 3 55,oL 57 56,oM 58 7,o 59 (.mget none (.l (cs [I])) (cs []) false false 57 58),oF 60 0 3,oL 61 60,oC 62 363 [59,61],oM 53 62,oE 63 53 0,oE 64 53 1,oM 8 63,oM 9 64]
 (.seq (.regN [4000000,1000000000008] [oM 65 0,o 66 (.nilc 65),oF 67 3 66,⟨some 68,.load false 1 67,none,true,false⟩,oM 69 7,oM 70 0,o 71 (.nilc 70),oF 72 3 71,oL 73 72,oM 74 7,o 75 (.mget none (.l (cs [I])) (cs []) false false 73 74),oM 76 8,oF 77 0 3,oL 78 77,o 79 (.bsl (cs [I]) 1 [(0,78)]),⟨some 80,.callF 364 [75,76,79],none,false,true⟩,on (.mput none (.l (cs [I])) (cs []) false 68 69 80)])
 (Rg [oK 4 0]
 .ret)))))))))⟩
def YlL(lo:Lo):FnE:=Zfe 343 false (Zsg [0,1] [.ptr 0 0 0,.ag [.j,.l Zc3]] [.st [.j,.i .u32,.np 1,.np 2],.st [.j,.l Zc6,.b,.b],.fp none (cs [I])]) (.i .i64) [.st [.j,.i .u32,.np 1,.np 2],.st [.j,.l Zc6,.b,.b],.fp none (cs [I])] (fun x=>q21 lo x.1 x.2.1 x.2.2.1 x.2.2.2.1 x.2.2.2.2.1 x.2.2.2.2.2.1 x.2.2.2.2.2.2.1 x.2.2.2.2.2.2.2.1 x.2.2.2.2.2.2.2.2.1 x.2.2.2.2.2.2.2.2.2:Int×Zt0×Int×Int×Int×Zt2×Bool×Bool×Int×Zt1->Option Zp27)
def fs22(lo:Lo):List FnE:=YlL lo::fs21 lo
theorem Yt6(h:GZ P fm fs21 lo)(t:Ti P fm 343 Yt5):GZ P fm fs22 lo:=
  h.i (YlL lo) .n t
def q22_J9_b:VCode:=
 (.seq (Rg [oM 13 0,oR 14 .geq 13 (ki .u64 256)]
 (.cond 14 (Rg [oM 15 0,oR 16 .shr 15 (ki .u64 8),oM 0 16]
 (.reg [oM 17 2,oR 18 .add 17 (k 8),oM 2 18]))
 .skip))
 (Rg [oM 19 2,oM 20 0,o 21 (.conv .u8 20),o 22 (.idx (ks (⟨#[0,1,2,2,3,3,3,3,4,4,4,4,4,4,4,4,5,5,5,5,5,5,5,5,5,5,5,5,5,5,5,5,6,6,6,6,6,6,6,6,6,6,6,6,6,6,6,6,6,6,6,6,6,6,6,6,6,6,6,6,6,6,6,6,7,7,7,7,7,7,7,7,7,7,7,7,7,7,7,7,7,7,7,7,7,7,7,7,7,7,7,7,7,7,7,7,7,7,7,7,7,7,7,7,7,7,7,7,7,7,7,7,7,7,7,7,7,7,7,7,7,7,7,7,7,7,7,7,8,8,8,8,8,8,8,8,8,8,8,8,8,8,8,8,8,8,8,8,8,8,8,8,8,8,8,8,8,8,8,8,8,8,8,8,8,8,8,8,8,8,8,8,8,8,8,8,8,8,8,8,8,8,8,8,8,8,8,8,8,8,8,8,8,8,8,8,8,8,8,8,8,8,8,8,8,8,8,8,8,8,8,8,8,8,8,8,8,8,8,8,8,8,8,8,8,8,8,8,8,8,8,8,8,8,8,8,8,8,8,8,8,8,8,8,8,8,8,8,8,8,8,8,8,8,8,8]⟩)) 21),o 23 (.conv .i64 22),oR 24 .add 19 23,oM 2 24]
 (Fr 2)))
def Yc7(lo:Lo):Int×Int->Option Int:=fun x=>match x with
  | (x0,n2)=>bif(decide (256<=x0))then(chk (0<=(8:Int)) (chk (0<=(YDf .u8 (x0.fdiv (2^(min (8:Int).toNat (IntKind.bits .u64)))))/\ (YDf .u8 (x0.fdiv (2^(min (8:Int).toNat (IntKind.bits .u64)))))< ((YDe #[0,1,2,2,3,3,3,3,4,4,4,4,4,4,4,4,5,5,5,5,5,5,5,5,5,5,5,5,5,5,5,5,6,6,6,6,6,6,6,6,6,6,6,6,6,6,6,6,6,6,6,6,6,6,6,6,6,6,6,6,6,6,6,6,7,7,7,7,7,7,7,7,7,7,7,7,7,7,7,7,7,7,7,7,7,7,7,7,7,7,7,7,7,7,7,7,7,7,7,7,7,7,7,7,7,7,7,7,7,7,7,7,7,7,7,7,7,7,7,7,7,7,7,7,7,7,7,7,8,8,8,8,8,8,8,8,8,8,8,8,8,8,8,8,8,8,8,8,8,8,8,8,8,8,8,8,8,8,8,8,8,8,8,8,8,8,8,8,8,8,8,8,8,8,8,8,8,8,8,8,8,8,8,8,8,8,8,8,8,8,8,8,8,8,8,8,8,8,8,8,8,8,8,8,8,8,8,8,8,8,8,8,8,8,8,8,8,8,8,8,8,8,8,8,8,8,8,8,8,8,8,8,8,8,8,8,8,8,8,8,8,8,8,8,8,8,8,8,8,8,8,8,8,8,8,8]).size:Int)) (some (YDf .i64 ((YDf .i64 (n2+8))+(YDf .i64 (YyF (YDe #[0,1,2,2,3,3,3,3,4,4,4,4,4,4,4,4,5,5,5,5,5,5,5,5,5,5,5,5,5,5,5,5,6,6,6,6,6,6,6,6,6,6,6,6,6,6,6,6,6,6,6,6,6,6,6,6,6,6,6,6,6,6,6,6,7,7,7,7,7,7,7,7,7,7,7,7,7,7,7,7,7,7,7,7,7,7,7,7,7,7,7,7,7,7,7,7,7,7,7,7,7,7,7,7,7,7,7,7,7,7,7,7,7,7,7,7,7,7,7,7,7,7,7,7,7,7,7,7,8,8,8,8,8,8,8,8,8,8,8,8,8,8,8,8,8,8,8,8,8,8,8,8,8,8,8,8,8,8,8,8,8,8,8,8,8,8,8,8,8,8,8,8,8,8,8,8,8,8,8,8,8,8,8,8,8,8,8,8,8,8,8,8,8,8,8,8,8,8,8,8,8,8,8,8,8,8,8,8,8,8,8,8,8,8,8,8,8,8,8,8,8,8,8,8,8,8,8,8,8,8,8,8,8,8,8,8,8,8,8,8,8,8,8,8,8,8,8,8,8,8,8,8,8,8,8,8]) (YDf .u8 (x0.fdiv (2^(min (8:Int).toNat (IntKind.bits .u64))))))))))))else(chk (0<=(YDf .u8 x0)/\ (YDf .u8 x0)< ((YDe #[0,1,2,2,3,3,3,3,4,4,4,4,4,4,4,4,5,5,5,5,5,5,5,5,5,5,5,5,5,5,5,5,6,6,6,6,6,6,6,6,6,6,6,6,6,6,6,6,6,6,6,6,6,6,6,6,6,6,6,6,6,6,6,6,7,7,7,7,7,7,7,7,7,7,7,7,7,7,7,7,7,7,7,7,7,7,7,7,7,7,7,7,7,7,7,7,7,7,7,7,7,7,7,7,7,7,7,7,7,7,7,7,7,7,7,7,7,7,7,7,7,7,7,7,7,7,7,7,8,8,8,8,8,8,8,8,8,8,8,8,8,8,8,8,8,8,8,8,8,8,8,8,8,8,8,8,8,8,8,8,8,8,8,8,8,8,8,8,8,8,8,8,8,8,8,8,8,8,8,8,8,8,8,8,8,8,8,8,8,8,8,8,8,8,8,8,8,8,8,8,8,8,8,8,8,8,8,8,8,8,8,8,8,8,8,8,8,8,8,8,8,8,8,8,8,8,8,8,8,8,8,8,8,8,8,8,8,8,8,8,8,8,8,8,8,8,8,8,8,8,8,8,8,8,8,8]).size:Int)) (some (YDf .i64 (n2+(YDf .i64 (YyF (YDe #[0,1,2,2,3,3,3,3,4,4,4,4,4,4,4,4,5,5,5,5,5,5,5,5,5,5,5,5,5,5,5,5,6,6,6,6,6,6,6,6,6,6,6,6,6,6,6,6,6,6,6,6,6,6,6,6,6,6,6,6,6,6,6,6,7,7,7,7,7,7,7,7,7,7,7,7,7,7,7,7,7,7,7,7,7,7,7,7,7,7,7,7,7,7,7,7,7,7,7,7,7,7,7,7,7,7,7,7,7,7,7,7,7,7,7,7,7,7,7,7,7,7,7,7,7,7,7,7,8,8,8,8,8,8,8,8,8,8,8,8,8,8,8,8,8,8,8,8,8,8,8,8,8,8,8,8,8,8,8,8,8,8,8,8,8,8,8,8,8,8,8,8,8,8,8,8,8,8,8,8,8,8,8,8,8,8,8,8,8,8,8,8,8,8,8,8,8,8,8,8,8,8,8,8,8,8,8,8,8,8,8,8,8,8,8,8,8,8,8,8,8,8,8,8,8,8,8,8,8,8,8,8,8,8,8,8,8,8,8,8,8,8,8,8,8,8,8,8,8,8,8,8,8,8,8,8]) (YDf .u8 x0)))))))
def Yt7(lo:Lo):LpE:=⟨9,[],(Zsg [0,2] [.i .u64,.j] []),[⟨.ret,(Zsg [2] [.j] [])⟩],Yc7 lo⟩
def Yt8(lo:Lo):LL:=(Yt7 lo,q22_J9_b.er)::[]
theorem Yt9(lo:Lo):Lk lo pf (fs22 lo) 0 (Yt8 lo):=.j .n
def q22(lo:Lo)(x0:Int):Option Int:=
  bif(decide (4294967296<=x0))then(chk (0<=(32:Int)) (bif(decide ((65536:Int)<=(x0.fdiv (2^(min (32:Int).toNat (IntKind.bits .u64))))))then(chk (0<=(16:Int)) (YCV (Yc7 lo (((x0.fdiv (2^(min (32:Int).toNat (IntKind.bits .u64)))).fdiv (2^(min (16:Int).toNat (IntKind.bits .u64)))),(YDf .i64 ((32:Int)+(16:Int))))) fun y41=>some y41))else(YCV (Yc7 lo ((x0.fdiv (2^(min (32:Int).toNat (IntKind.bits .u64)))),(32:Int))) fun y42=>some y42)))else(bif(decide (65536<=x0))then(chk (0<=(16:Int)) (YCV (Yc7 lo ((x0.fdiv (2^(min (16:Int).toNat (IntKind.bits .u64)))),(YDf .i64 ((0:Int)+(16:Int))))) fun y43=>some y43))else(YCV (Yc7 lo (x0,(0:Int))) fun y44=>some y44))
def Yua:VFn:=⟨true,25,[.t 2],
 (Rg [oK 2 0]
 (.seq (Rg [oM 3 0,oR 4 .geq 3 (ki .u64 4294967296)]
 (.cond 4 (Rg [oM 5 0,oR 6 .shr 5 (ki .u64 32),oM 0 6]
 (.reg [oK 2 32]))
 .skip))
 (.seq (Rg [oM 7 0,oR 8 .geq 7 (ki .u64 65536)]
 (.cond 8 (Rg [oM 9 0,oR 10 .shr 9 (ki .u64 16),oM 0 10]
 (.reg [oM 11 2,oR 12 .add 11 (k 16),oM 2 12]))
 .skip))
 (.jn 9 q22_J9_b))))⟩
def YlM(lo:Lo):FnE:=Zfe 187 true (Zsg [0] [.i .u64] []) (.i .i64) [] (fun x=>q22 lo x:Int->Option Int)
def fs23(lo:Lo):List FnE:=YlM lo::fs22 lo
theorem Yub(h:GZ P fm fs22 lo)(t:Ti P fm 187 Yua):GZ P fm fs23 lo:=
  h.p (YlM lo) (Yt9 lo) t
def q23(lo:Lo)(x0:Int):Option Int:=
  YCV (q22 lo x0) fun y45=>some y45
def Yuc:VFn:=⟨true,8,[.t 2],
 (Rg [oK 2 0]
 (.seq (.cond (kb false) (Rg [oM 3 0,o 4 (.conv .u32 3),oC 5 186 [4],oM 2 5]
 (Fr 2))
 .skip)
 (Rg [oM 6 0,oC 7 187 [6],oM 2 7]
 (Fr 2))))⟩
def YlN(lo:Lo):FnE:=Zfe 163 true (Zsg [0] [.i .u64] []) (.i .i64) [] (fun x=>q23 lo x:Int->Option Int)
def fs24(lo:Lo):List FnE:=YlN lo::fs23 lo
theorem Yud(h:GZ P fm fs23 lo)(t:Ti P fm 163 Yuc):GZ P fm fs24 lo:=
  h.p (YlN lo) .n t
end Go.Abs.G3m
namespace Go.Abs.G3m
open Go Go.Abs
set_option maxRecDepth 100000
set_option maxHeartbeats 1000000
variable{P:Program}{fm:FM}{lo:Lo}
def q24(lo:Lo)(x0:ByteArray):Option Bool:=
  some (!decide (x0=x0))
def Yue:VFn:=⟨true,6,[.t 2],
 (Rg [oB 2 false]
 (Rg [oM 3 0,oM 4 0,oR 5 .neq 3 4,oM 2 5]
 (Fr 2)))⟩
def YlO(lo:Lo):FnE:=Zfe 325 true (Zsg [0] [.s] []) .b [] (fun x=>q24 lo x:ByteArray->Option Bool)
def fs25(lo:Lo):List FnE:=YlO lo::fs24 lo
theorem Yuf(h:GZ P fm fs24 lo)(t:Ti P fm 325 Yue):GZ P fm fs25 lo:=
  h.p (YlO lo) .n t
def q25(lo:Lo)(x0:ByteArray)(y1:ByteArray):Option Bool:=
  YCV (q24 lo x0) fun y47=>bif y47 then(YCV (q24 lo y1) fun y48=>bif(!y48)then(some true)else(some (Op.bytesLess x0.toList y1.toList)))else(some (Op.bytesLess x0.toList y1.toList))
def Yug:VFn:=⟨true,17,[.t 4],
 (Rg [oB 4 false]
 (Rg [oM 5 0,oC 6 325 [5],oM 7 6,gT 8 7 (.mv 1),gT 9 7 (.call 325 [8]),gT 10 7 (.not 9),oP 11 7 10 (kb false),oM 12 11,gF 13 12 (.mv 0),gF 14 12 (.mv 1),gF 15 12 (.bin .lss 13 14),oP 16 12 (kb true) 15,oM 4 16]
 (Fr 4)))⟩
def YlP(lo:Lo):FnE:=Zfe 317 true (Zsg [0,1] [.s,.s] []) .b [] (fun x=>q25 lo x.1 x.2:ByteArray×ByteArray->Option Bool)
def fs26(lo:Lo):List FnE:=YlP lo::fs25 lo
theorem Yuh(h:GZ P fm fs25 lo)(t:Ti P fm 317 Yug):GZ P fm fs26 lo:=
  h.p (YlP lo) .n t
def q26_L3_b:VCode:=
 (.seq (Rg [oM 16 7,oM 17 1,oR 18 .gtr 16 17,oM 19 18,gT 20 19 (.mv 0),gT 21 19 (.mv 7),gT 22 19 (.iad 1 20 21),gT 23 19 (.load false 1 22),gT 24 19 (.mv 0),gT 25 19 (.mv 7),gT 26 19 (.bin .sub 25 (k 1)),gT 27 19 (.iad 1 24 26),gT 28 19 (.load false 1 27),gT 29 19 (.call 317 [23,28]),oP 30 19 29 (kb false)]
 (Ce 30 2))
 (.seq (.blk 3 (.reg [oM 33 0,oM 34 7,oM 35 0,oM 36 7,oR 37 .sub 36 (k 1),oM 38 0,oM 39 7,oR 40 .sub 39 (k 1),oI 41 1 38 40,oL 42 41,oM 43 0,oM 44 7,oI 45 1 43 44,oL 46 45,oI 47 1 33 34,oS 1 47 42,oI 48 1 35 37,oS 1 48 46]))
 (.reg [oM 31 7,oR 32 .sub 31 (k 1),oM 7 32])))
def YlQ(lo:Lo):Int×Int×Int×Int×Zt4->Option ((Int×Int×Int×Int×Zt4)⊕ ((Int×Int×Int×Zt4))):=fun x=>match x with
  | (a1,b2,i6,j7,data0)=>bif(decide (a1<j7))then(chk (0<=j7/\j7< (data0.length:Int)) (chk (0<=(YDf .i64 (j7-1))/\ (YDf .i64 (j7-1))< (data0.length:Int)) (YCV (q25 lo (data0.getD j7.toNat (YDe #[])) (data0.getD ((YDf .i64 (j7-1)).toNat) (YDe #[]))) fun y49=>bif y49 then(chk (0<=(YDf .i64 (j7-1))/\ (YDf .i64 (j7-1))< (data0.length:Int)) (chk (0<=j7/\j7< (data0.length:Int)) (chk (0<=j7/\j7< (data0.length:Int)) (chk (0<=(YDf .i64 (j7-1))/\ (YDf .i64 (j7-1))< ((data0.set j7.toNat (data0.getD ((YDf .i64 (j7-1)).toNat) (YDe #[]))).length:Int)) (some (.inl (a1,b2,i6,(YDf .i64 (j7-1)),((data0.set j7.toNat (data0.getD ((YDf .i64 (j7-1)).toNat) (YDe #[]))).set ((YDf .i64 (j7-1)).toNat) (data0.getD j7.toNat (YDe #[]))))))))))else(some (.inr (a1,b2,i6,data0))))))else(some (.inr (a1,b2,i6,data0)))
def YlR(lo:Lo):Int×Int×Int×Int×Zt4->Option ((Int×Int×Int×Zt4)):=lo.run (YlQ lo)
def Yui(lo:Lo):LpE:=⟨3,[],(Zsg [0,1,2,6,7] [.ref 0,.j,.j,.j,.j] [.sq (cs [.s])]),[⟨.exit 2,(Zsg [0,1,2,6] [.ref 0,.j,.j,.j] [.sq (cs [.s])])⟩],YlR lo⟩
def YlS(lo:Lo):LL:=(Yui lo,.loop q26_L3_b.er)::[]
theorem Yuj(lo:Lo):Lk lo pf (fs26 lo) 1 (YlS lo):=.l .n (YlQ lo)
def q26_L1_b:VCode:=
 (.seq (Rg [oM 10 6,oM 11 2,oR 12 .lss 10 11]
 (Ce 12 0))
 (.seq (.blk 1 (Rg [oM 15 6,oM 7 15]
 (.blk 2 (.loop 3 q26_L3_b))))
 (.reg [oM 13 6,oR 14 .add 13 (k 1),oM 6 14])))
def YlT(lo:Lo):Int×Int×Int×Zt4->Option ((Int×Int×Int×Zt4)⊕ ((Zt4))):=fun x=>match x with
  | (a1,b2,i6,data0)=>bif(decide (i6<b2))then(YCV (YlR lo (a1,b2,i6,i6,data0)) fun y50=>some (.inl (y50.1,y50.2.1,(YDf .i64 (y50.2.2.1+(1:Int))),y50.2.2.2)))else(some (.inr data0))
def YlU(lo:Lo):Int×Int×Int×Zt4->Option ((Zt4)):=lo.run (YlT lo)
def Yuk(lo:Lo):LpE:=⟨1,[],(Zsg [0,1,2,6] [.ref 0,.j,.j,.j] [.sq (cs [.s])]),[⟨.exit 0,(Zsg [] [] [.sq (cs [.s])])⟩],YlU lo⟩
def Yul(lo:Lo):LL:=(Yuk lo,.loop q26_L1_b.er)::YlS lo
theorem Yum(lo:Lo):Lk lo pf (fs26 lo) 1 (Yul lo):=.l (Yuj lo) (YlT lo)
def q26(lo:Lo)(a1:Int)(b2:Int)(data0:List ByteArray):Option (Zt4):=
  YCV (YlU lo (a1,b2,(YDf .i64 (a1+1)),data0)) fun y51=>some y51
def Yun:VFn:=⟨true,49,[],
 (Rg [oM 8 1,oR 9 .add 8 (k 1),oM 6 9]
 (.blk 0 (.loop 1 q26_L1_b)))⟩
def YlV(lo:Lo):FnE:=Zfe 311 false (Zsg [0,1,2] [.ref 0,.j,.j] [.sq (cs [.s])]) (.tp []) [.sq (cs [.s])] (fun x=>q26 lo x.1 x.2.1 x.2.2:Int×Int×Zt4->Option (Zt4))
def fs27(lo:Lo):List FnE:=YlV lo::fs26 lo
theorem Yuo(h:GZ P fm fs26 lo)(t:Ti P fm 311 Yun):GZ P fm fs27 lo:=
  h.i (YlV lo) (Yum lo) t
def q27(lo:Lo)(x0:Int)(x1:Int)(x2:List ByteArray):Option (Zt4):=none
def YlW(lo:Lo):FnE:=Zfe 312 false (Zsg [0,1,2] [.ref 0,.j,.j] [.sq (cs [.s])]) (.tp []) [.sq (cs [.s])] (fun x=>q27 lo x.1 x.2.1 x.2.2:Int×Int×Zt4->Option (Zt4))
def fs28(lo:Lo):List FnE:=YlW lo::fs27 lo
theorem Yup(h:GZ P fm fs27 lo)(hN:True):GZ P fm fs28 lo:=
  ⟨h.1,h.2,YaM h.S (YlW lo) (fun _=>rfl)⟩
def q28(lo:Lo)(x0:Int)(x1:Int)(x2:List ByteArray):Option (Zt4):=none
def YlX(lo:Lo):FnE:=Zfe 313 false (Zsg [0,1,2] [.ref 0,.j,.j] [.sq (cs [.s])]) (.tp []) [.sq (cs [.s])] (fun x=>q28 lo x.1 x.2.1 x.2.2:Int×Int×Zt4->Option (Zt4))
def fs29(lo:Lo):List FnE:=YlX lo::fs28 lo
theorem Yuq(h:GZ P fm fs28 lo)(hN:True):GZ P fm fs29 lo:=
  ⟨h.1,h.2,YaM h.S (YlX lo) (fun _=>rfl)⟩
def q29(lo:Lo)(x0:List ByteArray)(x1:Int)(x2:Int):Option (Int×Int):=none
def YlY(lo:Lo):FnE:=Zfe 314 true (Zsg [0,1,2] [.l (cs [.s]),.j,.j] []) (.tp [.j,.j]) [] (fun x=>q29 lo x.1 x.2.1 x.2.2:Zt4×Int×Int->Option (Int×Int))
def fs30(lo:Lo):List FnE:=YlY lo::fs29 lo
theorem Yur(h:GZ P fm fs29 lo)(hN:True):GZ P fm fs30 lo:=
  ⟨h.1,h.2,YaM h.S (YlY lo) (fun _=>rfl)⟩
def q30(lo:Lo)(x0:Int)(x1:Int)(x2:List ByteArray):Option (Zt4):=none
def YlZ(lo:Lo):FnE:=Zfe 315 false (Zsg [0,1,2] [.ref 0,.j,.j] [.sq (cs [.s])]) (.tp []) [.sq (cs [.s])] (fun x=>q30 lo x.1 x.2.1 x.2.2:Int×Int×Zt4->Option (Zt4))
def fs31(lo:Lo):List FnE:=YlZ lo::fs30 lo
theorem Yus(h:GZ P fm fs30 lo)(hN:True):GZ P fm fs31 lo:=
  ⟨h.1,h.2,YaM h.S (YlZ lo) (fun _=>rfl)⟩
def q31(lo:Lo)(x0:Int)(x1:Int)(x2:List ByteArray):Option (Bool×Zt4):=none
def Yl0(lo:Lo):FnE:=Zfe 316 false (Zsg [0,1,2] [.ref 0,.j,.j] [.sq (cs [.s])]) .b [.sq (cs [.s])] (fun x=>q31 lo x.1 x.2.1 x.2.2:Int×Int×Zt4->Option (Bool×Zt4))
def fs32(lo:Lo):List FnE:=Yl0 lo::fs31 lo
theorem Yut(h:GZ P fm fs31 lo)(hN:True):GZ P fm fs32 lo:=
  ⟨h.1,h.2,YaM h.S (Yl0 lo) (fun _=>rfl)⟩
def q32(lo:Lo)(x0:Int)(x1:Int)(x2:Int)(x3:List ByteArray):Option (Int×Zt4):=none
def Yl1(lo:Lo):FnE:=Zfe 318 false (Zsg [0,1,2,3] [.ref 0,.j,.j,.j] [.sq (cs [.s])]) (.i .i64) [.sq (cs [.s])] (fun x=>q32 lo x.1 x.2.1 x.2.2.1 x.2.2.2:Int×Int×Int×Zt4->Option (Int×Zt4))
def fs33(lo:Lo):List FnE:=Yl1 lo::fs32 lo
theorem Yuu(h:GZ P fm fs32 lo)(hN:True):GZ P fm fs33 lo:=
  ⟨h.1,h.2,YaM h.S (Yl1 lo) (fun _=>rfl)⟩
def q33(lo:Lo)(x0:Int)(x1:Int)(x2:Int)(x3:List ByteArray):Option (Int×Bool×Zt4):=none
def Yl2(lo:Lo):FnE:=Zfe 319 false (Zsg [0,1,2,3] [.ref 0,.j,.j,.j] [.sq (cs [.s])]) (.tp [.j,.b]) [.sq (cs [.s])] (fun x=>q33 lo x.1 x.2.1 x.2.2.1 x.2.2.2:Int×Int×Int×Zt4->Option (Int×Bool×Zt4))
def fs34(lo:Lo):List FnE:=Yl2 lo::fs33 lo
theorem Yuv(h:GZ P fm fs33 lo)(hN:True):GZ P fm fs34 lo:=
  ⟨h.1,h.2,YaM h.S (Yl2 lo) (fun _=>rfl)⟩
def Yc8(F:Int×Int×Int×Zt4->Option (Zt4)):FnE:=⟨301,false,(Zsg [0,1,2,3] [.ref 0,.j,.j,.j] [.sq (cs [.s])]),.tp [],[.sq (cs [.s])],(cs [.l (cs [.s])]),F⟩
def q34_J20_b:VCode:=
 (.seq (Rg [oM 73 1,oR 74 .gtr 73 (k 0),oM 75 74,gT 76 75 (.mv 0),gT 77 75 (.mv 1),gT 78 75 (.bin .sub 77 (k 1)),gT 79 75 (.iad 1 76 78),gT 80 75 (.load false 1 79),gT 81 75 (.mv 0),gT 82 75 (.mv 11),gT 83 75 (.iad 1 81 82),gT 84 75 (.load false 1 83),gT 85 75 (.call 317 [80,84]),gT 86 75 (.not 85),oP 87 75 86 (kb false)]
 (.cond 87 (Rg [oM 88 0,oM 89 1,oM 90 2,oM 91 11,oC 92 318 [88,89,90,91],oM 13 92]
 (Rg [oM 93 13,oM 1 93]
 (.exit 1)))
 .skip))
 (Rg [oM 95 0,oM 96 1,oM 97 2,oM 98 11,oC 99 319 [95,96,97,98],oM 94 99,oE 100 94 0,oE 101 94 1,oM 14 100,oM 15 101]
 (Rg [oM 102 15,oM 9 102]
 (Rg [oM 103 14,oM 104 1,oR 105 .sub 103 104,oM 106 2,oM 107 14,oR 108 .sub 106 107,oM 16 105,oM 17 108]
 (Rg [oM 109 10,oR 110 .quo 109 (k 8),oM 18 110]
 (Rg [oM 111 16,oM 112 17,oR 113 .lss 111 112]
 (.cond 113 (Rg [oM 114 16,oM 115 18,oR 116 .geq 114 115,oM 8 116]
 (Rg [oM 117 0,oM 118 1,oM 119 14,oM 120 3,oC 121 301 [117,118,119,120]]
 (.reg [oM 122 14,oR 123 .add 122 (k 1),oM 1 123])))
 (Rg [oM 124 17,oM 125 18,oR 126 .geq 124 125,oM 8 126]
 (Rg [oM 127 0,oM 128 14,oR 129 .add 128 (k 1),oM 130 2,oM 131 3,oC 132 301 [127,129,130,131]]
 (.reg [oM 133 14,oM 2 133]))))))))))
def Yc9(lo:Lo)(rec:Int×Int×Int×Zt4->Option (Zt4)):Int×Int×Int×Bool×Bool×Int×Int×Zt4->Option (Zp34⊕Zp34):=fun x=>match x with
  | (a1,b2,limit3,wasBalanced8,wasPartitioned9,length10,pivot11,data0)=>bif(decide (0<a1))then(chk (0<=(YDf .i64 (a1-1))/\ (YDf .i64 (a1-1))< (data0.length:Int)) (chk (0<=pivot11/\pivot11< (data0.length:Int)) (YCV (q25 lo (data0.getD ((YDf .i64 (a1-1)).toNat) (YDe #[])) (data0.getD pivot11.toNat (YDe #[]))) fun y58=>bif(!y58)then(YCV (q32 lo a1 b2 pivot11 data0) fun y59=>chk (y59.2.length=data0.length) (some (.inl (y59.1,b2,limit3,wasBalanced8,wasPartitioned9,y59.2))))else(YCV (q33 lo a1 b2 pivot11 data0) fun y60=>chk (y60.2.2.length=data0.length) (chk ((8:Int)≠0) (bif(decide ((YDf .i64 (y60.1-a1))< (YDf .i64 (b2-y60.1))))then(YCV (rec (a1,y60.1,limit3,y60.2.2)) fun y61=>chk (y61.length=y60.2.2.length) (some (.inr ((YDf .i64 (y60.1+(1:Int))),b2,limit3,(decide ((YDf .i64 (length10.tdiv (8:Int)))<=(YDf .i64 (y60.1-a1)))),y60.2.1,y61))))else(YCV (rec ((YDf .i64 (y60.1+(1:Int))),b2,limit3,y60.2.2)) fun y62=>chk (y62.length=y60.2.2.length) (some (.inr (a1,y60.1,limit3,(decide ((YDf .i64 (length10.tdiv (8:Int)))<=(YDf .i64 (b2-y60.1)))),y60.2.1,y62))))))))))else(YCV (q33 lo a1 b2 pivot11 data0) fun y63=>chk (y63.2.2.length=data0.length) (chk ((8:Int)≠0) (bif(decide ((YDf .i64 (y63.1-a1))< (YDf .i64 (b2-y63.1))))then(YCV (rec (a1,y63.1,limit3,y63.2.2)) fun y64=>chk (y64.length=y63.2.2.length) (some (.inr ((YDf .i64 (y63.1+(1:Int))),b2,limit3,(decide ((YDf .i64 (length10.tdiv (8:Int)))<=(YDf .i64 (y63.1-a1)))),y63.2.1,y64))))else(YCV (rec ((YDf .i64 (y63.1+(1:Int))),b2,limit3,y63.2.2)) fun y65=>chk (y65.length=y63.2.2.length) (some (.inr (a1,y63.1,limit3,(decide ((YDf .i64 (length10.tdiv (8:Int)))<=(YDf .i64 (b2-y63.1)))),y63.2.1,y65)))))))
def Yuw(lo:Lo)(rec:Int×Int×Int×Zt4->Option (Zt4)):LpE:=⟨20,[],(Zsg [0,1,2,3,8,9,10,11] [.ref 0,.j,.j,.j,.b,.b,.j,.j] [.sq (cs [.s])]),[⟨.exit 1,(Zsg [0,1,2,3,8,9] [.ref 0,.j,.j,.j,.b,.b] [.sq (cs [.s])])⟩,⟨.nor,(Zsg [0,1,2,3,8,9] [.ref 0,.j,.j,.j,.b,.b] [.sq (cs [.s])])⟩],Yc9 lo rec⟩
def Yl3(lo:Lo)(rec:Int×Int×Int×Zt4->Option (Zt4)):LL:=(Yuw lo rec,q34_J20_b.er)::[]
theorem Yux(lo:Lo)(rec:Int×Int×Int×Zt4->Option (Zt4)):Lk lo pf (Yc8 rec::fs34 lo) 1 (Yl3 lo rec):=.j .n
def q34_J25_b:VCode:=
 (.seq (Rg [oM 61 8,oM 62 61,gT 63 62 (.mv 9),oP 64 62 63 (kb false),oM 65 64,gT 66 65 (.mv 12),gT 67 65 (.bin .eql 66 (k 1)),oP 68 65 67 (kb false)]
 (.cond 68 (Rg [oM 69 0,oM 70 1,oM 71 2,oC 72 316 [69,70,71]]
 (.cond 72 .ret
 .skip))
 .skip))
 (.jn 20 q34_J20_b))
def YgR(lo:Lo)(rec:Int×Int×Int×Zt4->Option (Zt4)):Int×Int×Int×Bool×Bool×Int×Int×Int×Zt4->Option ((Zt4)⊕Zp34⊕Zp34):=fun x=>match x with
  | (a1,b2,limit3,wasBalanced8,wasPartitioned9,length10,pivot11,hint12,data0)=>bif wasBalanced8 then(bif wasPartitioned9 then(bif(decide (hint12=1))then(YCV (q31 lo a1 b2 data0) fun y57=>chk (y57.2.length=data0.length) (bif y57.1 then(some (.inl y57.2))else(YCV (Yc9 lo rec (a1,b2,limit3,wasBalanced8,wasPartitioned9,length10,pivot11,y57.2)) fun y66=>alt2 y66 (fun y67=>some (.inr (.inl (y67.1,y67.2.1,y67.2.2.1,y67.2.2.2.1,y67.2.2.2.2.1,y67.2.2.2.2.2)))) (fun y68=>some (.inr (.inr (y68.1,y68.2.1,y68.2.2.1,y68.2.2.2.1,y68.2.2.2.2.1,y68.2.2.2.2.2)))))))else(YCV (Yc9 lo rec (a1,b2,limit3,wasBalanced8,wasPartitioned9,length10,pivot11,data0)) fun y69=>alt2 y69 (fun y70=>some (.inr (.inl (y70.1,y70.2.1,y70.2.2.1,y70.2.2.2.1,y70.2.2.2.2.1,y70.2.2.2.2.2)))) (fun y71=>some (.inr (.inr (y71.1,y71.2.1,y71.2.2.1,y71.2.2.2.1,y71.2.2.2.2.1,y71.2.2.2.2.2))))))else(YCV (Yc9 lo rec (a1,b2,limit3,wasBalanced8,wasPartitioned9,length10,pivot11,data0)) fun y72=>alt2 y72 (fun y73=>some (.inr (.inl (y73.1,y73.2.1,y73.2.2.1,y73.2.2.2.1,y73.2.2.2.2.1,y73.2.2.2.2.2)))) (fun y74=>some (.inr (.inr (y74.1,y74.2.1,y74.2.2.1,y74.2.2.2.1,y74.2.2.2.2.1,y74.2.2.2.2.2))))))else(YCV (Yc9 lo rec (a1,b2,limit3,wasBalanced8,wasPartitioned9,length10,pivot11,data0)) fun y75=>alt2 y75 (fun y76=>some (.inr (.inl (y76.1,y76.2.1,y76.2.2.1,y76.2.2.2.1,y76.2.2.2.2.1,y76.2.2.2.2.2)))) (fun y77=>some (.inr (.inr (y77.1,y77.2.1,y77.2.2.1,y77.2.2.2.1,y77.2.2.2.2.1,y77.2.2.2.2.2)))))
def Yuy(lo:Lo)(rec:Int×Int×Int×Zt4->Option (Zt4)):LpE:=⟨25,[],(Zsg [0,1,2,3,8,9,10,11,12] [.ref 0,.j,.j,.j,.b,.b,.j,.j,.j] [.sq (cs [.s])]),[⟨.ret,(Zsg [] [] [.sq (cs [.s])])⟩,⟨.exit 1,(Zsg [0,1,2,3,8,9] [.ref 0,.j,.j,.j,.b,.b] [.sq (cs [.s])])⟩,⟨.nor,(Zsg [0,1,2,3,8,9] [.ref 0,.j,.j,.j,.b,.b] [.sq (cs [.s])])⟩],YgR lo rec⟩
def Yl4(lo:Lo)(rec:Int×Int×Int×Zt4->Option (Zt4)):LL:=(Yuy lo rec,q34_J25_b.er)::Yl3 lo rec
theorem Yuz(lo:Lo)(rec:Int×Int×Int×Zt4->Option (Zt4)):Lk lo pf (Yc8 rec::fs34 lo) 1 (Yl4 lo rec):=.j (Yux lo rec)
def q34_J30_b:VCode:=
 (Rg [oM 43 0,oM 44 1,oM 45 2,oC 46 314 [43,44,45],oM 42 46,oE 47 42 0,oE 48 42 1,oM 11 47,oM 12 48]
 (.seq (Rg [oM 49 12,oR 50 .eql 49 (k 2)]
 (.cond 50 (Rg [oM 51 0,oM 52 1,oM 53 2,oC 54 315 [51,52,53]]
 (Rg [oM 55 2,oR 56 .sub 55 (k 1),oM 57 11,oM 58 1,oR 59 .sub 57 58,oR 60 .sub 56 59,oM 11 60]
 (.reg [oK 12 1])))
 .skip))
 (.jn 25 q34_J25_b)))
def YgS(lo:Lo)(rec:Int×Int×Int×Zt4->Option (Zt4)):Int×Int×Int×Bool×Bool×Int×Zt4->Option ((Zt4)⊕Zp34⊕Zp34):=fun x=>match x with
  | (a1,b2,limit3,wasBalanced8,wasPartitioned9,length10,data0)=>YCV (q29 lo data0 a1 b2) fun y55=>bif(decide (y55.2=(2:Int)))then(YCV (q30 lo a1 b2 data0) fun y56=>chk (y56.length=data0.length) (YCV (YgR lo rec (a1,b2,limit3,wasBalanced8,wasPartitioned9,length10,(YDf .i64 ((YDf .i64 (b2-1))-(YDf .i64 (y55.1-a1)))),(1:Int),y56)) fun y78=>alt2 y78 (fun y79=>some (.inl y79)) (fun y80=>alt2 y80 (fun y81=>some (.inr (.inl (y81.1,y81.2.1,y81.2.2.1,y81.2.2.2.1,y81.2.2.2.2.1,y81.2.2.2.2.2)))) (fun y82=>some (.inr (.inr (y82.1,y82.2.1,y82.2.2.1,y82.2.2.2.1,y82.2.2.2.2.1,y82.2.2.2.2.2)))))))else(YCV (YgR lo rec (a1,b2,limit3,wasBalanced8,wasPartitioned9,length10,y55.1,y55.2,data0)) fun y83=>alt2 y83 (fun y84=>some (.inl y84)) (fun y85=>alt2 y85 (fun y86=>some (.inr (.inl (y86.1,y86.2.1,y86.2.2.1,y86.2.2.2.1,y86.2.2.2.2.1,y86.2.2.2.2.2)))) (fun y87=>some (.inr (.inr (y87.1,y87.2.1,y87.2.2.1,y87.2.2.2.1,y87.2.2.2.2.1,y87.2.2.2.2.2))))))
def YuA(lo:Lo)(rec:Int×Int×Int×Zt4->Option (Zt4)):LpE:=⟨30,[],(Zsg [0,1,2,3,8,9,10] [.ref 0,.j,.j,.j,.b,.b,.j] [.sq (cs [.s])]),[⟨.ret,(Zsg [] [] [.sq (cs [.s])])⟩,⟨.exit 1,(Zsg [0,1,2,3,8,9] [.ref 0,.j,.j,.j,.b,.b] [.sq (cs [.s])])⟩,⟨.nor,(Zsg [0,1,2,3,8,9] [.ref 0,.j,.j,.j,.b,.b] [.sq (cs [.s])])⟩],YgS lo rec⟩
def Yl5(lo:Lo)(rec:Int×Int×Int×Zt4->Option (Zt4)):LL:=(YuA lo rec,q34_J30_b.er)::Yl4 lo rec
theorem YuB(lo:Lo)(rec:Int×Int×Int×Zt4->Option (Zt4)):Lk lo pf (Yc8 rec::fs34 lo) 1 (Yl5 lo rec):=.j (Yuz lo rec)
def q34_L1_b:VCode:=
 (.blk 1 (Rg [oM 19 2,oM 20 1,oR 21 .sub 19 20,oM 10 21]
 (.seq (Rg [oM 22 10,oR 23 .leq 22 (k 12)]
 (.cond 23 (Rg [oM 24 0,oM 25 1,oM 26 2,oC 27 311 [24,25,26]]
 .ret)
 .skip))
 (.seq (Rg [oM 28 3,oR 29 .eql 28 (k 0)]
 (.cond 29 (Rg [oM 30 0,oM 31 1,oM 32 2,oC 33 312 [30,31,32]]
 .ret)
 .skip))
 (.seq (Rg [oM 34 8,oX 35 34]
 (.cond 35 (Rg [oM 36 0,oM 37 1,oM 38 2,oC 39 313 [36,37,38]]
 (.reg [oM 40 3,oR 41 .sub 40 (k 1),oM 3 41]))
 .skip))
 (.jn 30 q34_J30_b))))))
def Yl6(lo:Lo)(rec:Int×Int×Int×Zt4->Option (Zt4)):Zp34->Option (Zp34⊕ ((Zt4))):=fun x=>match x with
  | (a1,b2,limit3,wasBalanced8,wasPartitioned9,data0)=>bif(decide ((YDf .i64 (b2-a1))<=(12:Int)))then(YCV (q26 lo a1 b2 data0) fun y52=>chk (y52.length=data0.length) (some (.inr y52)))else(bif(decide (limit3=0))then(YCV (q27 lo a1 b2 data0) fun y53=>chk (y53.length=data0.length) (some (.inr y53)))else(bif(!wasBalanced8)then(YCV (q28 lo a1 b2 data0) fun y54=>chk (y54.length=data0.length) (YCV (YgS lo rec (a1,b2,(YDf .i64 (limit3-1)),wasBalanced8,wasPartitioned9,(YDf .i64 (b2-a1)),y54)) fun y88=>alt2 y88 (fun y89=>some (.inr y89)) (fun y90=>alt2 y90 (fun y91=>some (.inl (y91.1,y91.2.1,y91.2.2.1,y91.2.2.2.1,y91.2.2.2.2.1,y91.2.2.2.2.2))) (fun y92=>some (.inl (y92.1,y92.2.1,y92.2.2.1,y92.2.2.2.1,y92.2.2.2.2.1,y92.2.2.2.2.2))))))else(YCV (YgS lo rec (a1,b2,limit3,wasBalanced8,wasPartitioned9,(YDf .i64 (b2-a1)),data0)) fun y93=>alt2 y93 (fun y94=>some (.inr y94)) (fun y95=>alt2 y95 (fun y96=>some (.inl (y96.1,y96.2.1,y96.2.2.1,y96.2.2.2.1,y96.2.2.2.2.1,y96.2.2.2.2.2))) (fun y97=>some (.inl (y97.1,y97.2.1,y97.2.2.1,y97.2.2.2.1,y97.2.2.2.2.1,y97.2.2.2.2.2)))))))
def Yl7(lo:Lo)(rec:Int×Int×Int×Zt4->Option (Zt4)):Zp34->Option ((Zt4)):=lo.run (Yl6 lo rec)
def YuC(lo:Lo)(rec:Int×Int×Int×Zt4->Option (Zt4)):LpE:=⟨1,[],(Zsg [0,1,2,3,8,9] [.ref 0,.j,.j,.j,.b,.b] [.sq (cs [.s])]),[⟨.ret,(Zsg [] [] [.sq (cs [.s])])⟩],Yl7 lo rec⟩
def Yl8(lo:Lo)(rec:Int×Int×Int×Zt4->Option (Zt4)):LL:=(YuC lo rec,.loop q34_L1_b.er)::Yl5 lo rec
theorem YuD(lo:Lo)(rec:Int×Int×Int×Zt4->Option (Zt4)):Lk lo pf (Yc8 rec::fs34 lo) 1 (Yl8 lo rec):=.l (YuB lo rec) (Yl6 lo rec)
def YuE(lo:Lo)(rec:Int×Int×Int×Zt4->Option (Zt4))(a1:Int)(b2:Int)(limit3:Int)(data0:List ByteArray):Option (Zt4):=
  YCV (Yl7 lo rec (a1,b2,limit3,true,true,data0)) fun y98=>some y98
def YgT(lo:Lo):Nat->Int×Int×Int×Zt4->Option (Zt4)
  |0,_=>none
  |n+1,x=>YuE lo (YgT lo n) x.1 x.2.1 x.2.2.1 x.2.2.2
def q34(lo:Lo)(a1:Int)(b2:Int)(limit3:Int)(data0:List ByteArray):Option (Zt4):=lo.run (fixS (YgT lo)) (0,(a1,b2,limit3,data0))
def YuF:VFn:=⟨true,134,[],
 (Rg [oB 8 true]
 (Rg [oB 9 true]
 (.blk 0 (.loop 1 q34_L1_b))))⟩
def Yl9(lo:Lo):FnE:=Yc8 (fun x=>q34 lo x.1 x.2.1 x.2.2.1 x.2.2.2)
def fs35(lo:Lo):List FnE:=Yl9 lo::fs34 lo
theorem YuG(h:GZ P fm fs34 lo)(t:Ti P fm 301 YuF):GZ P fm fs35 lo:=
  h.ir (Yl9 lo) (YgT lo) (ls:=fun rec=>Yl8 lo rec) (fun rec=>(YuD lo rec)) t (by kernel_rfl) (fun _=>rfl) rfl (fun _=>by kernel_rfl) fun n x=>by kernel_rfl
def q35(lo:Lo)(x0:List ByteArray):Option (Zt4):=
  YCV (q23 lo (YDf .u64 (x0.length:Int))) fun y46=>YCV (q34 lo (0:Int) (x0.length:Int) y46 x0) fun y99=>chk (y99.length=x0.length) (some y99)
def YuH:VFn:=⟨true,11,[],
 (Rg [oM 3 0,oN 4 3,oM 2 4]
 (.reg [oM 5 0,oM 6 2,oM 7 2,o 8 (.conv .u64 7),oC 9 163 [8],oC 10 301 [5,(k 0),6,9]]))⟩
def Yma(lo:Lo):FnE:=Zfe 271 false (Zsg [0] [.ref 0] [.sq (cs [.s])]) (.tp []) [.sq (cs [.s])] (fun x=>q35 lo x:Zt4->Option (Zt4))
def fs36(lo:Lo):List FnE:=Yma lo::fs35 lo
theorem YuI(h:GZ P fm fs35 lo)(t:Ti P fm 271 YuH):GZ P fm fs36 lo:=
  h.i (Yma lo) .n t
def q36(lo:Lo)(l:List ByteArray):Option Zt4:=YBe (q35 lo) l
def YuJ(lo:Lo):FnE:=vsortE 271 (.cons (.s) .nil) (q36 lo)
def fs37(lo:Lo):List FnE:=YuJ lo::fs36 lo
theorem YuK(h:GZ P fm fs36 lo)(hG: ∀f,fm f=271->Yyw P f=true/\ ∃ρ:Go.Shelf.Ren,Go.Proofs.Lays.n190 P ρ/\ρ.f 190=f):GZ P fm fs37 lo:=
  ⟨h.1,h.2,YsK h.S rfl (F0:=q35 lo) (YCl ..) hG⟩
def q37(lo:Lo)(l:List Int):Option (List Int):=bif YCN l.length maxEl&&YCN 1 1 then some l else none
def YuL(lo:Lo):FnE:=vcloneE 245 (cs [I])
def fs38(lo:Lo):List FnE:=YuL lo::fs37 lo
theorem YuM(h:GZ P fm fs37 lo)(htie: ∀f,fm f=245->fnTr P fm pf f=some (8,[.t 2],Yzd 1 [(.int .i64 0)])):GZ P fm fs38 lo:=
  ⟨h.1,h.2,Yk0 h.S h.mx (cs [I]) rfl [(.int .i64 0)] 8 (by decide) htie⟩
def q38_L3_b:VCode:=
 (Rg [oR 26 .lss 25 24]
 (.seq (Ce 26 2)
 (.seq (.blk 3 (Rg [oI 27 1 23 25,oL 28 27,oM 7 28]
 (.reg [oM 29 5,oM 30 0,o 31 (.nilc 30),oF 32 3 31,oL 33 32,oM 34 7,o 35 (.mget none (.l (cs [I])) (cs []) false false 33 34),o 36 (.callN 245 [35] false),o 37 (.bsl Zc9 1 [(0,36)]),o 38 (.app Zc9 2 29 37),oM 5 38])))
 (.reg [oR 39 .add 25 (k 1),oM 25 39]))))
def YeC(lo:Lo):Zp22->Option (Zp22⊕ ((Int×Int×Int×Zt2×Bool×Bool×Int×Zt1×Zt8))):=fun x=>match x with
  | (v24,v25,x0_0,x0_1,h1_0,h1_1,h1_2,h1_3,h2_0,h2_1,out5,v23)=>bif(decide (v25<v24))then(chk (0<=v25/\v25< (v23.length:Int)) (YCV (q37 lo ((h2_1.getD (mix eqS (v23.getD v25.toNat (YDe #[])) h2_1) ((0:Int),(YDe #[]),[])).2.2)) fun y101=>chk (out5.length+1<=maxEl) (some (.inl (v24,(YDf .i64 (v25+1)),x0_0,x0_1,h1_0,h1_1,h1_2,h1_3,h2_0,h2_1,(out5++[y101]),v23)))))else(some (.inr (x0_0,x0_1,h1_0,h1_1,h1_2,h1_3,h2_0,h2_1,out5)))
def YgU(lo:Lo):Zp22->Option ((Int×Int×Int×Zt2×Bool×Bool×Int×Zt1×Zt8)):=lo.run (YeC lo)
def YuN(lo:Lo):LpE:=⟨3,[(5,none,true)],(Zsg [0,5,23,24,25] [.ptr 0 0 0,.ref 3,.ref 4,.j,.j] [.st [.j,.i .u32,.np 1,.np 2],.st [.j,.l Zc6,.b,.b],.fp none (cs [I]),.fm .nil true (cs [I]),.sq (cs [.s])]),[⟨.exit 2,(Zsg [0,5] [.ptr 0 0 0,.ref 3] [.st [.j,.i .u32,.np 1,.np 2],.st [.j,.l Zc6,.b,.b],.fp none (cs [I]),.fm .nil true (cs [I])])⟩],YgU lo⟩
def Ymb(lo:Lo):LL:=(YuN lo,.loop q38_L3_b.er)::[]
theorem YuO(lo:Lo):Lk lo pf (fs38 lo) 3 (Ymb lo):=.l .n (YeC lo)
def Ymc:VCode:=
 (.reg [oM 8 0,o 9 (.nilc 8),oF 10 3 9,oL 11 10,o 12 (.mrng 11)])
def Ymd:VCode:=
 (.blk 1 (Rg [o 15 (.ment none (.l (cs [I])) (cs []) false 12),oE 16 15 0,oM 4 16]
 (.reg [oM 17 3,oM 18 4,o 19 (.bsl (cs [.s]) 1 [(0,18)]),o 20 (.app (cs [.s]) 0 17 19),oM 3 20])))
def Yme:VCode:=
 (Rg [oM 21 3,oC 22 271 [21]]
 (Rg [o 5 (.mv (ke Zc9))]
 (.seq (Rg [oM 23 3,oN 24 23,oK 25 0]
 (.blk 2 (.loop 3 q38_L3_b)))
 (Rg [oM 40 5,oM 2 40]
 (Fr 2)))))
def q38_J18_b:VCode:=.seq (.seq Ymc (.blk 0 (.loop 12 (Rg [o 13 (.mnxt 12),oE 14 13 0] (YzK 14 0 Ymd))))) Yme
def YuP:Sg:=(Zsg [0,3,12] [.ptr 0 0 0,.ref 3,.np 4] [.st [.j,.i .u32,.np 1,.np 2],.st [.j,.l Zc6,.b,.b],.fp none (cs [I]),.sq (cs [.s]),.st [.np 2,.j,.j,.l (cs [I]),.b]])
def Ymf(lo:Lo):Zp26->Option (Int×Int×Int×Zt2×Bool×Bool×Int×Zt1×Zt4×Int×Int× (List Int)×Bool):=fun x=>match x with
  | (x0_0,x0_1,h1_0,h1_1,h1_2,h1_3,h2_0,h2_1,keys3)=>some (x0_0,x0_1,h1_0,h1_1,h1_2,h1_3,h2_0,h2_1,keys3,h2_0,h2_0,([]:List Int),false)
def YeD:Zp17->ItP:=fun x=>match x with
  | (x0_0,x0_1,h1_0,h1_1,h1_2,h1_3,h2_0,h2_1,keys3,v12_0,v12_1,v12_2,v12_3)=>(h2_1.map (fun e=>e.1),v12_2,h2_0,v12_0,v12_1)
def Yda(lo:Lo):Zp17->Int->Option (Int×Int×Int×Zt2×Bool×Bool×Int×Zt1×Zt4×Int×Int× (List Int)×Bool):=fun x b=>match x with
  | (x0_0,x0_1,h1_0,h1_1,h1_2,h1_3,h2_0,h2_1,keys3,v12_0,v12_1,v12_2,v12_3)=>chk (v12_1=h2_0) (YCV (addI v12_2 b).getLast? fun y39=>YCV (mbf y39 h2_1) fun y40=>chk (keys3.length+[y40.1].length<=maxEl) (some (x0_0,x0_1,h1_0,h1_1,h1_2,h1_3,h2_0,h2_1,(keys3++[y40.1]),v12_0,v12_1,(addI v12_2 b),v12_3)))
def YeE(lo:Lo):Zp17->Option ((Zt8×Int×Int×Int×Zt2×Bool×Bool×Int×Zt1)):=fun x=>match x with
  | (x0_0,x0_1,h1_0,h1_1,h1_2,h1_3,h2_0,h2_1,keys3,v12_0,v12_1,v12_2,v12_3)=>YCV (q36 lo keys3) fun y100=>chk (y100.length=keys3.length) (YCV (YgU lo ((y100.length:Int),(0:Int),x0_0,x0_1,h1_0,h1_1,h1_2,h1_3,h2_0,h2_1,[],y100)) fun y102=>some (y102.2.2.2.2.2.2.2.2,y102.1,y102.2.1,y102.2.2.1,y102.2.2.2.1,y102.2.2.2.2.1,y102.2.2.2.2.2.1,y102.2.2.2.2.2.2.1,y102.2.2.2.2.2.2.2.1))
noncomputable def YgV(lo:Lo):Zp26->Option ((Zt8×Int×Int×Int×Zt2×Bool×Bool×Int×Zt1)):=fun x=>YCV (Ymf lo x) (rngF YeD (Yda lo) (YeE lo))
noncomputable def YeF(lo:Lo):LpE:=⟨18,[(3,none,false)],(Zsg [0,3] [.ptr 0 0 0,.ref 3] [.st [.j,.i .u32,.np 1,.np 2],.st [.j,.l Zc6,.b,.b],.fp none (cs [I]),.sq (cs [.s])]),[⟨.ret,(Zsg [2,0] [.l Zc9,.ptr 0 0 0] [.st [.j,.i .u32,.np 1,.np 2],.st [.j,.l Zc6,.b,.b],.fp none (cs [I])])⟩],YgV lo⟩
noncomputable def YuQ(lo:Lo):LL:=(YeF lo,q38_J18_b.er)::Ymb lo
theorem YuR(lo:Lo):Lk lo pf (fs38 lo) 3 (YuQ lo):=
  .m (YuO lo) (it:=12) (nx:=13) (mo:=14) (out:=0) (own:=(YeF lo).own) (g0:=(YeF lo).g) (outs:=(YeF lo).outs) (g:=YuP) (pre:=Ymc) (bb:=Ymd) (rest:=Yme) (p:=YeD) (t:=Yda lo) (r:=YeE lo) (u:=Ymf lo) (by kernel_rfl) (fun x=>by kernel_rfl) (fun x b=>by kernel_rfl) (fun x=>by kernel_rfl) (fun x=>by kernel_rfl) rfl
noncomputable def q38(lo:Lo)(x0_0:Int)(x0_1:Int)(h1_0:Int)(h1_1:List (Int×Int×Int×Zt0))(h1_2:Bool)(h1_3:Bool)(h2_0:Int)(h2_1:List (Int×ByteArray× (List Int))):Option (Zt8×Int×Int×Int×Zt2×Bool×Bool×Int×Zt1):=
  YCV (YgV lo (x0_0,x0_1,h1_0,h1_1,h1_2,h1_3,h2_0,h2_1,[])) fun y103=>some (y103.1,y103.2.1,y103.2.2.1,y103.2.2.2.1,y103.2.2.2.2.1,y103.2.2.2.2.2.1,y103.2.2.2.2.2.2.1,y103.2.2.2.2.2.2.2.1,y103.2.2.2.2.2.2.2.2)
def YuS:VFn:=⟨true,41,[.t 2],
 (Rg [o 2 (.mv (ke Zc9))]
 (Rg [o 3 (.mv (ke (cs [.s])))]
 (.jn 18 q38_J18_b)))⟩
noncomputable def Ymg(lo:Lo):FnE:=Zfe 340 false (Zsg [0] [.ptr 0 0 0] [.st [.j,.i .u32,.np 1,.np 2],.st [.j,.l Zc6,.b,.b],.fp none (cs [I])]) (.l Zc9) [.st [.j,.i .u32,.np 1,.np 2],.st [.j,.l Zc6,.b,.b],.fp none (cs [I])] (fun x=>q38 lo x.1 x.2.1 x.2.2.1 x.2.2.2.1 x.2.2.2.2.1 x.2.2.2.2.2.1 x.2.2.2.2.2.2.1 x.2.2.2.2.2.2.2:Zp28->Option (Zt8×Int×Int×Int×Zt2×Bool×Bool×Int×Zt1))
noncomputable def fs39(lo:Lo):List FnE:=Ymg lo::fs38 lo
theorem YuT(h:GZ P fm fs38 lo)(t:Ti P fm 340 YuS):GZ P fm fs39 lo:=
  h.i (Ymg lo) (YuR lo) t
def q39_L3_b:VCode:=
 (.seq (Rg [oM 11 5,oM 12 0,oN 13 12,oR 14 .lss 11 13]
 (Ce 14 0))
 (.seq (.blk 1 (Rg [oM 17 0,oM 18 5,oI 19 1 17 18,oL 20 19,oM 21 1,oM 22 5,oI 23 1 21 22,oL 24 23,oR 25 .neq 20 24]
 (.cond 25 (Rg [oB 4 false]
 (Fr 4))
 .skip)))
 (.reg [oM 15 5,oR 16 .add 15 (k 1),oM 5 16])))
def YeG(lo:Lo):(List Int)× (List Int)×Int->Option (((List Int)× (List Int)×Int)⊕ (Bool⊕Unit)):=fun x=>match x with
  | (a0,b1,i5)=>bif(decide (i5< (a0.length:Int)))then(chk (0<=i5/\i5< (a0.length:Int)) (chk (0<=i5/\i5< (b1.length:Int)) (bif(!decide ((a0.getD i5.toNat (0:Int))=(b1.getD i5.toNat (0:Int))))then(some (.inr (.inl false)))else(some (.inl (a0,b1,(YDf .i64 (i5+1))))))))else(some (.inr (.inr ())))
def YgW(lo:Lo):(List Int)× (List Int)×Int->Option (Bool⊕Unit):=lo.run (YeG lo)
def YuU(lo:Lo):LpE:=⟨3,[],(Zsg [0,1,5] [.l (cs [I]),.l (cs [I]),.j] []),[⟨.ret,(Zsg [4] [.b] [])⟩,⟨.exit 0,(Zsg [] [] [])⟩],YgW lo⟩
def YuV(lo:Lo):LL:=(YuU lo,.loop q39_L3_b.er)::[]
theorem YuW(lo:Lo):Lk lo pf (fs39 lo) 0 (YuV lo):=.l .n (YeG lo)
def q39(lo:Lo)(a0:List Int)(b1:List Int):Option Bool:=
  bif(!decide ((a0.length:Int)=(b1.length:Int)))then(some false)else(YCV (YgW lo (a0,b1,(0:Int))) fun y105=>alt2 y105 (fun y106=>some y106) (fun y107=>some true))
def YuX:VFn:=⟨true,26,[.t 4],
 (Rg [oB 4 false]
 (.seq (Rg [oM 6 0,oN 7 6,oM 8 1,oN 9 8,oR 10 .neq 7 9]
 (.cond 10 (Rg [oB 4 false]
 (Fr 4))
 .skip))
 (.seq (Rg [oK 5 0]
 (.blk 0 (.loop 3 q39_L3_b)))
 (Rg [oB 4 true]
 (Fr 4)))))⟩
def Ymh(lo:Lo):FnE:=Zfe 351 true (Zsg [0,1] [.l (cs [I]),.l (cs [I])] []) .b [] (fun x=>q39 lo x.1 x.2:(List Int)× (List Int)->Option Bool)
noncomputable def fs40(lo:Lo):List FnE:=Ymh lo::fs39 lo
theorem YuY(h:GZ P fm fs39 lo)(t:Ti P fm 351 YuX):GZ P fm fs40 lo:=
  h.p (Ymh lo) (YuW lo) t
def q40_L3_b:VCode:=
 (.seq (Rg [oM 11 5,oM 12 0,oN 13 12,oR 14 .lss 11 13]
 (Ce 14 0))
 (.seq (.blk 1 (Rg [oM 17 0,oM 18 5,oI 19 1 17 18,oL 20 19,oM 21 1,oM 22 5,oI 23 1 21 22,oL 24 23,oC 25 351 [20,24],oX 26 25]
 (.cond 26 (Rg [oB 4 false]
 (Fr 4))
 .skip)))
 (.reg [oM 15 5,oR 16 .add 15 (k 1),oM 5 16])))
def YeH(lo:Lo):Zt8×Zt8×Int->Option ((Zt8×Zt8×Int)⊕ (Bool⊕Unit)):=fun x=>match x with
  | (a0,b1,i5)=>bif(decide (i5< (a0.length:Int)))then(chk (0<=i5/\i5< (a0.length:Int)) (chk (0<=i5/\i5< (b1.length:Int)) (YCV (q39 lo (a0.getD i5.toNat []) (b1.getD i5.toNat [])) fun y108=>bif(!y108)then(some (.inr (.inl false)))else(some (.inl (a0,b1,(YDf .i64 (i5+1))))))))else(some (.inr (.inr ())))
def YgX(lo:Lo):Zt8×Zt8×Int->Option (Bool⊕Unit):=lo.run (YeH lo)
def YuZ(lo:Lo):LpE:=⟨3,[],(Zsg [0,1,5] [.l Zc9,.l Zc9,.j] []),[⟨.ret,(Zsg [4] [.b] [])⟩,⟨.exit 0,(Zsg [] [] [])⟩],YgX lo⟩
def Yu0(lo:Lo):LL:=(YuZ lo,.loop q40_L3_b.er)::[]
theorem Yu1(lo:Lo):Lk lo pf (fs40 lo) 0 (Yu0 lo):=.l .n (YeH lo)
def q40(lo:Lo)(a0:List ((List Int)))(b1:List ((List Int))):Option Bool:=
  bif(!decide ((a0.length:Int)=(b1.length:Int)))then(some false)else(YCV (YgX lo (a0,b1,(0:Int))) fun y109=>alt2 y109 (fun y110=>some y110) (fun y111=>some true))
def Yu2:VFn:=⟨true,27,[.t 4],
 (Rg [oB 4 false]
 (.seq (Rg [oM 6 0,oN 7 6,oM 8 1,oN 9 8,oR 10 .neq 7 9]
 (.cond 10 (Rg [oB 4 false]
 (Fr 4))
 .skip))
 (.seq (Rg [oK 5 0]
 (.blk 0 (.loop 3 q40_L3_b)))
 (Rg [oB 4 true]
 (Fr 4)))))⟩
def Ymi(lo:Lo):FnE:=Zfe 346 true (Zsg [0,1] [.l Zc9,.l Zc9] []) .b [] (fun x=>q40 lo x.1 x.2:Zt8×Zt8->Option Bool)
noncomputable def fs41(lo:Lo):List FnE:=Ymi lo::fs40 lo
theorem Yu3(h:GZ P fm fs40 lo)(t:Ti P fm 346 Yu2):GZ P fm fs41 lo:=
  h.p (Ymi lo) (Yu1 lo) t
def q41_L3_b:VCode:=
 (.seq (Rg [oM 16 7,oM 17 1,oR 18 .gtr 16 17,oM 19 18,gT 20 19 (.mv 0),gT 21 19 (.mv 7),gT 22 19 (.iad 1 20 21),gT 23 19 (.load false 1 22),gT 24 19 (.mv 0),gT 25 19 (.mv 7),gT 26 19 (.bin .sub 25 (k 1)),gT 27 19 (.iad 1 24 26),gT 28 19 (.load false 1 27),gT 29 19 (.call 370 [23,28]),oP 30 19 29 (kb false)]
 (Ce 30 2))
 (.seq (.blk 3 (.reg [oM 33 0,oM 34 7,oM 35 0,oM 36 7,oR 37 .sub 36 (k 1),oM 38 0,oM 39 7,oR 40 .sub 39 (k 1),oI 41 1 38 40,oL 42 41,oM 43 0,oM 44 7,oI 45 1 43 44,oL 46 45,oI 47 1 33 34,oS 1 47 42,oI 48 1 35 37,oS 1 48 46]))
 (.reg [oM 31 7,oR 32 .sub 31 (k 1),oM 7 32])))
def Ymj(lo:Lo):Int×Int×Int×Int× (List Int)->Option ((Int×Int×Int×Int× (List Int))⊕ ((Int×Int×Int× (List Int)))):=fun x=>match x with
  | (a1,b2,i6,j7,data0)=>bif(decide (a1<j7))then(chk (0<=j7/\j7< (data0.length:Int)) (chk (0<=(YDf .i64 (j7-1))/\ (YDf .i64 (j7-1))< (data0.length:Int)) (YCV (q16 lo (data0.getD j7.toNat (0:Int)) (data0.getD ((YDf .i64 (j7-1)).toNat) (0:Int))) fun y119=>bif y119 then(chk (0<=(YDf .i64 (j7-1))/\ (YDf .i64 (j7-1))< (data0.length:Int)) (chk (0<=j7/\j7< (data0.length:Int)) (chk (0<=j7/\j7< (data0.length:Int)) (chk (0<=(YDf .i64 (j7-1))/\ (YDf .i64 (j7-1))< ((data0.set j7.toNat (data0.getD ((YDf .i64 (j7-1)).toNat) (0:Int))).length:Int)) (some (.inl (a1,b2,i6,(YDf .i64 (j7-1)),((data0.set j7.toNat (data0.getD ((YDf .i64 (j7-1)).toNat) (0:Int))).set ((YDf .i64 (j7-1)).toNat) (data0.getD j7.toNat (0:Int))))))))))else(some (.inr (a1,b2,i6,data0))))))else(some (.inr (a1,b2,i6,data0)))
def Ymk(lo:Lo):Int×Int×Int×Int× (List Int)->Option ((Int×Int×Int× (List Int))):=lo.run (Ymj lo)
def Yu4(lo:Lo):LpE:=⟨3,[],(Zsg [0,1,2,6,7] [.ref 0,.j,.j,.j,.j] [.sq (cs [I])]),[⟨.exit 2,(Zsg [0,1,2,6] [.ref 0,.j,.j,.j] [.sq (cs [I])])⟩],Ymk lo⟩
def Yml(lo:Lo):LL:=(Yu4 lo,.loop q41_L3_b.er)::[]
theorem Yu5(lo:Lo):Lk lo pf (fs41 lo) 1 (Yml lo):=.l .n (Ymj lo)
def q41_L1_b:VCode:=
 (.seq (Rg [oM 10 6,oM 11 2,oR 12 .lss 10 11]
 (Ce 12 0))
 (.seq (.blk 1 (Rg [oM 15 6,oM 7 15]
 (.blk 2 (.loop 3 q41_L3_b))))
 (.reg [oM 13 6,oR 14 .add 13 (k 1),oM 6 14])))
def Ymm(lo:Lo):Int×Int×Int× (List Int)->Option ((Int×Int×Int× (List Int))⊕ (((List Int)))):=fun x=>match x with
  | (a1,b2,i6,data0)=>bif(decide (i6<b2))then(YCV (Ymk lo (a1,b2,i6,i6,data0)) fun y120=>some (.inl (y120.1,y120.2.1,(YDf .i64 (y120.2.2.1+(1:Int))),y120.2.2.2)))else(some (.inr data0))
def Ymn(lo:Lo):Int×Int×Int× (List Int)->Option (((List Int))):=lo.run (Ymm lo)
def Yu6(lo:Lo):LpE:=⟨1,[],(Zsg [0,1,2,6] [.ref 0,.j,.j,.j] [.sq (cs [I])]),[⟨.exit 0,(Zsg [] [] [.sq (cs [I])])⟩],Ymn lo⟩
def Yu7(lo:Lo):LL:=(Yu6 lo,.loop q41_L1_b.er)::Yml lo
theorem Yu8(lo:Lo):Lk lo pf (fs41 lo) 1 (Yu7 lo):=.l (Yu5 lo) (Ymm lo)
def q41(lo:Lo)(a1:Int)(b2:Int)(data0:List Int):Option ((List Int)):=
  YCV (Ymn lo (a1,b2,(YDf .i64 (a1+1)),data0)) fun y121=>some y121
def Yu9:VFn:=⟨true,49,[],
 (Rg [oM 8 1,oR 9 .add 8 (k 1),oM 6 9]
 (.blk 0 (.loop 1 q41_L1_b)))⟩
def Ymo(lo:Lo):FnE:=Zfe 378 false (Zsg [0,1,2] [.ref 0,.j,.j] [.sq (cs [I])]) (.tp []) [.sq (cs [I])] (fun x=>q41 lo x.1 x.2.1 x.2.2:Int×Int× (List Int)->Option ((List Int)))
noncomputable def fs42(lo:Lo):List FnE:=Ymo lo::fs41 lo
theorem Yva(h:GZ P fm fs41 lo)(t:Ti P fm 378 Yu9):GZ P fm fs42 lo:=
  h.i (Ymo lo) (Yu8 lo) t
end Go.Abs.G3m
namespace Go.Abs.G3m
open Go Go.Abs
set_option maxRecDepth 100000
set_option maxHeartbeats 1000000
variable{P:Program}{fm:FM}{lo:Lo}
def q42(lo:Lo)(x0:Int)(x1:Int)(x2:List Int):Option ((List Int)):=none
def Ymp(lo:Lo):FnE:=Zfe 379 false (Zsg [0,1,2] [.ref 0,.j,.j] [.sq (cs [I])]) (.tp []) [.sq (cs [I])] (fun x=>q42 lo x.1 x.2.1 x.2.2:Int×Int× (List Int)->Option ((List Int)))
noncomputable def fs43(lo:Lo):List FnE:=Ymp lo::fs42 lo
theorem Yvb(h:GZ P fm fs42 lo)(hN:True):GZ P fm fs43 lo:=
  ⟨h.1,h.2,YaM h.S (Ymp lo) (fun _=>rfl)⟩
def q43(lo:Lo)(x0:Int)(x1:Int)(x2:List Int):Option ((List Int)):=none
def Ymq(lo:Lo):FnE:=Zfe 380 false (Zsg [0,1,2] [.ref 0,.j,.j] [.sq (cs [I])]) (.tp []) [.sq (cs [I])] (fun x=>q43 lo x.1 x.2.1 x.2.2:Int×Int× (List Int)->Option ((List Int)))
noncomputable def fs44(lo:Lo):List FnE:=Ymq lo::fs43 lo
theorem Yvc(h:GZ P fm fs43 lo)(hN:True):GZ P fm fs44 lo:=
  ⟨h.1,h.2,YaM h.S (Ymq lo) (fun _=>rfl)⟩
def q44(lo:Lo)(x0:List Int)(x1:Int)(x2:Int):Option (Int×Int):=none
def Ymr(lo:Lo):FnE:=Zfe 381 true (Zsg [0,1,2] [.l (cs [I]),.j,.j] []) (.tp [.j,.j]) [] (fun x=>q44 lo x.1 x.2.1 x.2.2:(List Int)×Int×Int->Option (Int×Int))
noncomputable def fs45(lo:Lo):List FnE:=Ymr lo::fs44 lo
theorem Yvd(h:GZ P fm fs44 lo)(hN:True):GZ P fm fs45 lo:=
  ⟨h.1,h.2,YaM h.S (Ymr lo) (fun _=>rfl)⟩
def q45(lo:Lo)(x0:Int)(x1:Int)(x2:List Int):Option ((List Int)):=none
def Yms(lo:Lo):FnE:=Zfe 382 false (Zsg [0,1,2] [.ref 0,.j,.j] [.sq (cs [I])]) (.tp []) [.sq (cs [I])] (fun x=>q45 lo x.1 x.2.1 x.2.2:Int×Int× (List Int)->Option ((List Int)))
noncomputable def fs46(lo:Lo):List FnE:=Yms lo::fs45 lo
theorem Yve(h:GZ P fm fs45 lo)(hN:True):GZ P fm fs46 lo:=
  ⟨h.1,h.2,YaM h.S (Yms lo) (fun _=>rfl)⟩
def q46(lo:Lo)(x0:Int)(x1:Int)(x2:List Int):Option (Bool× (List Int)):=none
def Ymt(lo:Lo):FnE:=Zfe 383 false (Zsg [0,1,2] [.ref 0,.j,.j] [.sq (cs [I])]) .b [.sq (cs [I])] (fun x=>q46 lo x.1 x.2.1 x.2.2:Int×Int× (List Int)->Option (Bool× (List Int)))
noncomputable def fs47(lo:Lo):List FnE:=Ymt lo::fs46 lo
theorem Yvf(h:GZ P fm fs46 lo)(hN:True):GZ P fm fs47 lo:=
  ⟨h.1,h.2,YaM h.S (Ymt lo) (fun _=>rfl)⟩
def q47(lo:Lo)(x0:Int)(x1:Int)(x2:Int)(x3:List Int):Option (Int× (List Int)):=none
def Ymu(lo:Lo):FnE:=Zfe 384 false (Zsg [0,1,2,3] [.ref 0,.j,.j,.j] [.sq (cs [I])]) (.i .i64) [.sq (cs [I])] (fun x=>q47 lo x.1 x.2.1 x.2.2.1 x.2.2.2:Int×Int×Int× (List Int)->Option (Int× (List Int)))
noncomputable def fs48(lo:Lo):List FnE:=Ymu lo::fs47 lo
theorem Yvg(h:GZ P fm fs47 lo)(hN:True):GZ P fm fs48 lo:=
  ⟨h.1,h.2,YaM h.S (Ymu lo) (fun _=>rfl)⟩
def q48(lo:Lo)(x0:Int)(x1:Int)(x2:Int)(x3:List Int):Option (Int×Bool× (List Int)):=none
def Ymv(lo:Lo):FnE:=Zfe 385 false (Zsg [0,1,2,3] [.ref 0,.j,.j,.j] [.sq (cs [I])]) (.tp [.j,.b]) [.sq (cs [I])] (fun x=>q48 lo x.1 x.2.1 x.2.2.1 x.2.2.2:Int×Int×Int× (List Int)->Option (Int×Bool× (List Int)))
noncomputable def fs49(lo:Lo):List FnE:=Ymv lo::fs48 lo
theorem Yvh(h:GZ P fm fs48 lo)(hN:True):GZ P fm fs49 lo:=
  ⟨h.1,h.2,YaM h.S (Ymv lo) (fun _=>rfl)⟩
def Ydb(F:Int×Int×Int× (List Int)->Option ((List Int))):FnE:=⟨375,false,(Zsg [0,1,2,3] [.ref 0,.j,.j,.j] [.sq (cs [I])]),.tp [],[.sq (cs [I])],Zc9,F⟩
def q49_J20_b:VCode:=
 (.seq (Rg [oM 73 1,oR 74 .gtr 73 (k 0),oM 75 74,gT 76 75 (.mv 0),gT 77 75 (.mv 1),gT 78 75 (.bin .sub 77 (k 1)),gT 79 75 (.iad 1 76 78),gT 80 75 (.load false 1 79),gT 81 75 (.mv 0),gT 82 75 (.mv 11),gT 83 75 (.iad 1 81 82),gT 84 75 (.load false 1 83),gT 85 75 (.call 370 [80,84]),gT 86 75 (.not 85),oP 87 75 86 (kb false)]
 (.cond 87 (Rg [oM 88 0,oM 89 1,oM 90 2,oM 91 11,oC 92 384 [88,89,90,91],oM 13 92]
 (Rg [oM 93 13,oM 1 93]
 (.exit 1)))
 .skip))
 (Rg [oM 95 0,oM 96 1,oM 97 2,oM 98 11,oC 99 385 [95,96,97,98],oM 94 99,oE 100 94 0,oE 101 94 1,oM 14 100,oM 15 101]
 (Rg [oM 102 15,oM 9 102]
 (Rg [oM 103 14,oM 104 1,oR 105 .sub 103 104,oM 106 2,oM 107 14,oR 108 .sub 106 107,oM 16 105,oM 17 108]
 (Rg [oM 109 10,oR 110 .quo 109 (k 8),oM 18 110]
 (Rg [oM 111 16,oM 112 17,oR 113 .lss 111 112]
 (.cond 113 (Rg [oM 114 16,oM 115 18,oR 116 .geq 114 115,oM 8 116]
 (Rg [oM 117 0,oM 118 1,oM 119 14,oM 120 3,oC 121 375 [117,118,119,120]]
 (.reg [oM 122 14,oR 123 .add 122 (k 1),oM 1 123])))
 (Rg [oM 124 17,oM 125 18,oR 126 .geq 124 125,oM 8 126]
 (Rg [oM 127 0,oM 128 14,oR 129 .add 128 (k 1),oM 130 2,oM 131 3,oC 132 375 [127,129,130,131]]
 (.reg [oM 133 14,oM 2 133]))))))))))
def Ydc(lo:Lo)(rec:Int×Int×Int× (List Int)->Option ((List Int))):Int×Int×Int×Bool×Bool×Int×Int× (List Int)->Option (Zp31⊕Zp31):=fun x=>match x with
  | (a1,b2,limit3,wasBalanced8,wasPartitioned9,length10,pivot11,data0)=>bif(decide (0<a1))then(chk (0<=(YDf .i64 (a1-1))/\ (YDf .i64 (a1-1))< (data0.length:Int)) (chk (0<=pivot11/\pivot11< (data0.length:Int)) (YCV (q16 lo (data0.getD ((YDf .i64 (a1-1)).toNat) (0:Int)) (data0.getD pivot11.toNat (0:Int))) fun y128=>bif(!y128)then(YCV (q47 lo a1 b2 pivot11 data0) fun y129=>chk (y129.2.length=data0.length) (some (.inl (y129.1,b2,limit3,wasBalanced8,wasPartitioned9,y129.2))))else(YCV (q48 lo a1 b2 pivot11 data0) fun y130=>chk (y130.2.2.length=data0.length) (chk ((8:Int)≠0) (bif(decide ((YDf .i64 (y130.1-a1))< (YDf .i64 (b2-y130.1))))then(YCV (rec (a1,y130.1,limit3,y130.2.2)) fun y131=>chk (y131.length=y130.2.2.length) (some (.inr ((YDf .i64 (y130.1+(1:Int))),b2,limit3,(decide ((YDf .i64 (length10.tdiv (8:Int)))<=(YDf .i64 (y130.1-a1)))),y130.2.1,y131))))else(YCV (rec ((YDf .i64 (y130.1+(1:Int))),b2,limit3,y130.2.2)) fun y132=>chk (y132.length=y130.2.2.length) (some (.inr (a1,y130.1,limit3,(decide ((YDf .i64 (length10.tdiv (8:Int)))<=(YDf .i64 (b2-y130.1)))),y130.2.1,y132))))))))))else(YCV (q48 lo a1 b2 pivot11 data0) fun y133=>chk (y133.2.2.length=data0.length) (chk ((8:Int)≠0) (bif(decide ((YDf .i64 (y133.1-a1))< (YDf .i64 (b2-y133.1))))then(YCV (rec (a1,y133.1,limit3,y133.2.2)) fun y134=>chk (y134.length=y133.2.2.length) (some (.inr ((YDf .i64 (y133.1+(1:Int))),b2,limit3,(decide ((YDf .i64 (length10.tdiv (8:Int)))<=(YDf .i64 (y133.1-a1)))),y133.2.1,y134))))else(YCV (rec ((YDf .i64 (y133.1+(1:Int))),b2,limit3,y133.2.2)) fun y135=>chk (y135.length=y133.2.2.length) (some (.inr (a1,y133.1,limit3,(decide ((YDf .i64 (length10.tdiv (8:Int)))<=(YDf .i64 (b2-y133.1)))),y133.2.1,y135)))))))
def Yvi(lo:Lo)(rec:Int×Int×Int× (List Int)->Option ((List Int))):LpE:=⟨20,[],(Zsg [0,1,2,3,8,9,10,11] [.ref 0,.j,.j,.j,.b,.b,.j,.j] [.sq (cs [I])]),[⟨.exit 1,(Zsg [0,1,2,3,8,9] [.ref 0,.j,.j,.j,.b,.b] [.sq (cs [I])])⟩,⟨.nor,(Zsg [0,1,2,3,8,9] [.ref 0,.j,.j,.j,.b,.b] [.sq (cs [I])])⟩],Ydc lo rec⟩
def Ymw(lo:Lo)(rec:Int×Int×Int× (List Int)->Option ((List Int))):LL:=(Yvi lo rec,q49_J20_b.er)::[]
theorem Yvj(lo:Lo)(rec:Int×Int×Int× (List Int)->Option ((List Int))):Lk lo pf (Ydb rec::fs49 lo) 1 (Ymw lo rec):=.j .n
def q49_J25_b:VCode:=
 (.seq (Rg [oM 61 8,oM 62 61,gT 63 62 (.mv 9),oP 64 62 63 (kb false),oM 65 64,gT 66 65 (.mv 12),gT 67 65 (.bin .eql 66 (k 1)),oP 68 65 67 (kb false)]
 (.cond 68 (Rg [oM 69 0,oM 70 1,oM 71 2,oC 72 383 [69,70,71]]
 (.cond 72 .ret
 .skip))
 .skip))
 (.jn 20 q49_J20_b))
def YgY(lo:Lo)(rec:Int×Int×Int× (List Int)->Option ((List Int))):Int×Int×Int×Bool×Bool×Int×Int×Int× (List Int)->Option (((List Int))⊕Zp31⊕Zp31):=fun x=>match x with
  | (a1,b2,limit3,wasBalanced8,wasPartitioned9,length10,pivot11,hint12,data0)=>bif wasBalanced8 then(bif wasPartitioned9 then(bif(decide (hint12=1))then(YCV (q46 lo a1 b2 data0) fun y127=>chk (y127.2.length=data0.length) (bif y127.1 then(some (.inl y127.2))else(YCV (Ydc lo rec (a1,b2,limit3,wasBalanced8,wasPartitioned9,length10,pivot11,y127.2)) fun y136=>alt2 y136 (fun y137=>some (.inr (.inl (y137.1,y137.2.1,y137.2.2.1,y137.2.2.2.1,y137.2.2.2.2.1,y137.2.2.2.2.2)))) (fun y138=>some (.inr (.inr (y138.1,y138.2.1,y138.2.2.1,y138.2.2.2.1,y138.2.2.2.2.1,y138.2.2.2.2.2)))))))else(YCV (Ydc lo rec (a1,b2,limit3,wasBalanced8,wasPartitioned9,length10,pivot11,data0)) fun y139=>alt2 y139 (fun y140=>some (.inr (.inl (y140.1,y140.2.1,y140.2.2.1,y140.2.2.2.1,y140.2.2.2.2.1,y140.2.2.2.2.2)))) (fun y141=>some (.inr (.inr (y141.1,y141.2.1,y141.2.2.1,y141.2.2.2.1,y141.2.2.2.2.1,y141.2.2.2.2.2))))))else(YCV (Ydc lo rec (a1,b2,limit3,wasBalanced8,wasPartitioned9,length10,pivot11,data0)) fun y142=>alt2 y142 (fun y143=>some (.inr (.inl (y143.1,y143.2.1,y143.2.2.1,y143.2.2.2.1,y143.2.2.2.2.1,y143.2.2.2.2.2)))) (fun y144=>some (.inr (.inr (y144.1,y144.2.1,y144.2.2.1,y144.2.2.2.1,y144.2.2.2.2.1,y144.2.2.2.2.2))))))else(YCV (Ydc lo rec (a1,b2,limit3,wasBalanced8,wasPartitioned9,length10,pivot11,data0)) fun y145=>alt2 y145 (fun y146=>some (.inr (.inl (y146.1,y146.2.1,y146.2.2.1,y146.2.2.2.1,y146.2.2.2.2.1,y146.2.2.2.2.2)))) (fun y147=>some (.inr (.inr (y147.1,y147.2.1,y147.2.2.1,y147.2.2.2.1,y147.2.2.2.2.1,y147.2.2.2.2.2)))))
def Yvk(lo:Lo)(rec:Int×Int×Int× (List Int)->Option ((List Int))):LpE:=⟨25,[],(Zsg [0,1,2,3,8,9,10,11,12] [.ref 0,.j,.j,.j,.b,.b,.j,.j,.j] [.sq (cs [I])]),[⟨.ret,(Zsg [] [] [.sq (cs [I])])⟩,⟨.exit 1,(Zsg [0,1,2,3,8,9] [.ref 0,.j,.j,.j,.b,.b] [.sq (cs [I])])⟩,⟨.nor,(Zsg [0,1,2,3,8,9] [.ref 0,.j,.j,.j,.b,.b] [.sq (cs [I])])⟩],YgY lo rec⟩
def Ymx(lo:Lo)(rec:Int×Int×Int× (List Int)->Option ((List Int))):LL:=(Yvk lo rec,q49_J25_b.er)::Ymw lo rec
theorem Yvl(lo:Lo)(rec:Int×Int×Int× (List Int)->Option ((List Int))):Lk lo pf (Ydb rec::fs49 lo) 1 (Ymx lo rec):=.j (Yvj lo rec)
def q49_J30_b:VCode:=
 (Rg [oM 43 0,oM 44 1,oM 45 2,oC 46 381 [43,44,45],oM 42 46,oE 47 42 0,oE 48 42 1,oM 11 47,oM 12 48]
 (.seq (Rg [oM 49 12,oR 50 .eql 49 (k 2)]
 (.cond 50 (Rg [oM 51 0,oM 52 1,oM 53 2,oC 54 382 [51,52,53]]
 (Rg [oM 55 2,oR 56 .sub 55 (k 1),oM 57 11,oM 58 1,oR 59 .sub 57 58,oR 60 .sub 56 59,oM 11 60]
 (.reg [oK 12 1])))
 .skip))
 (.jn 25 q49_J25_b)))
def YgZ(lo:Lo)(rec:Int×Int×Int× (List Int)->Option ((List Int))):Int×Int×Int×Bool×Bool×Int× (List Int)->Option (((List Int))⊕Zp31⊕Zp31):=fun x=>match x with
  | (a1,b2,limit3,wasBalanced8,wasPartitioned9,length10,data0)=>YCV (q44 lo data0 a1 b2) fun y125=>bif(decide (y125.2=(2:Int)))then(YCV (q45 lo a1 b2 data0) fun y126=>chk (y126.length=data0.length) (YCV (YgY lo rec (a1,b2,limit3,wasBalanced8,wasPartitioned9,length10,(YDf .i64 ((YDf .i64 (b2-1))-(YDf .i64 (y125.1-a1)))),(1:Int),y126)) fun y148=>alt2 y148 (fun y149=>some (.inl y149)) (fun y150=>alt2 y150 (fun y151=>some (.inr (.inl (y151.1,y151.2.1,y151.2.2.1,y151.2.2.2.1,y151.2.2.2.2.1,y151.2.2.2.2.2)))) (fun y152=>some (.inr (.inr (y152.1,y152.2.1,y152.2.2.1,y152.2.2.2.1,y152.2.2.2.2.1,y152.2.2.2.2.2)))))))else(YCV (YgY lo rec (a1,b2,limit3,wasBalanced8,wasPartitioned9,length10,y125.1,y125.2,data0)) fun y153=>alt2 y153 (fun y154=>some (.inl y154)) (fun y155=>alt2 y155 (fun y156=>some (.inr (.inl (y156.1,y156.2.1,y156.2.2.1,y156.2.2.2.1,y156.2.2.2.2.1,y156.2.2.2.2.2)))) (fun y157=>some (.inr (.inr (y157.1,y157.2.1,y157.2.2.1,y157.2.2.2.1,y157.2.2.2.2.1,y157.2.2.2.2.2))))))
def Yvm(lo:Lo)(rec:Int×Int×Int× (List Int)->Option ((List Int))):LpE:=⟨30,[],(Zsg [0,1,2,3,8,9,10] [.ref 0,.j,.j,.j,.b,.b,.j] [.sq (cs [I])]),[⟨.ret,(Zsg [] [] [.sq (cs [I])])⟩,⟨.exit 1,(Zsg [0,1,2,3,8,9] [.ref 0,.j,.j,.j,.b,.b] [.sq (cs [I])])⟩,⟨.nor,(Zsg [0,1,2,3,8,9] [.ref 0,.j,.j,.j,.b,.b] [.sq (cs [I])])⟩],YgZ lo rec⟩
def Ymy(lo:Lo)(rec:Int×Int×Int× (List Int)->Option ((List Int))):LL:=(Yvm lo rec,q49_J30_b.er)::Ymx lo rec
theorem Yvn(lo:Lo)(rec:Int×Int×Int× (List Int)->Option ((List Int))):Lk lo pf (Ydb rec::fs49 lo) 1 (Ymy lo rec):=.j (Yvl lo rec)
def q49_L1_b:VCode:=
 (.blk 1 (Rg [oM 19 2,oM 20 1,oR 21 .sub 19 20,oM 10 21]
 (.seq (Rg [oM 22 10,oR 23 .leq 22 (k 12)]
 (.cond 23 (Rg [oM 24 0,oM 25 1,oM 26 2,oC 27 378 [24,25,26]]
 .ret)
 .skip))
 (.seq (Rg [oM 28 3,oR 29 .eql 28 (k 0)]
 (.cond 29 (Rg [oM 30 0,oM 31 1,oM 32 2,oC 33 379 [30,31,32]]
 .ret)
 .skip))
 (.seq (Rg [oM 34 8,oX 35 34]
 (.cond 35 (Rg [oM 36 0,oM 37 1,oM 38 2,oC 39 380 [36,37,38]]
 (.reg [oM 40 3,oR 41 .sub 40 (k 1),oM 3 41]))
 .skip))
 (.jn 30 q49_J30_b))))))
def Ymz(lo:Lo)(rec:Int×Int×Int× (List Int)->Option ((List Int))):Zp31->Option (Zp31⊕ (((List Int)))):=fun x=>match x with
  | (a1,b2,limit3,wasBalanced8,wasPartitioned9,data0)=>bif(decide ((YDf .i64 (b2-a1))<=(12:Int)))then(YCV (q41 lo a1 b2 data0) fun y122=>chk (y122.length=data0.length) (some (.inr y122)))else(bif(decide (limit3=0))then(YCV (q42 lo a1 b2 data0) fun y123=>chk (y123.length=data0.length) (some (.inr y123)))else(bif(!wasBalanced8)then(YCV (q43 lo a1 b2 data0) fun y124=>chk (y124.length=data0.length) (YCV (YgZ lo rec (a1,b2,(YDf .i64 (limit3-1)),wasBalanced8,wasPartitioned9,(YDf .i64 (b2-a1)),y124)) fun y158=>alt2 y158 (fun y159=>some (.inr y159)) (fun y160=>alt2 y160 (fun y161=>some (.inl (y161.1,y161.2.1,y161.2.2.1,y161.2.2.2.1,y161.2.2.2.2.1,y161.2.2.2.2.2))) (fun y162=>some (.inl (y162.1,y162.2.1,y162.2.2.1,y162.2.2.2.1,y162.2.2.2.2.1,y162.2.2.2.2.2))))))else(YCV (YgZ lo rec (a1,b2,limit3,wasBalanced8,wasPartitioned9,(YDf .i64 (b2-a1)),data0)) fun y163=>alt2 y163 (fun y164=>some (.inr y164)) (fun y165=>alt2 y165 (fun y166=>some (.inl (y166.1,y166.2.1,y166.2.2.1,y166.2.2.2.1,y166.2.2.2.2.1,y166.2.2.2.2.2))) (fun y167=>some (.inl (y167.1,y167.2.1,y167.2.2.1,y167.2.2.2.1,y167.2.2.2.2.1,y167.2.2.2.2.2)))))))
def YmA(lo:Lo)(rec:Int×Int×Int× (List Int)->Option ((List Int))):Zp31->Option (((List Int))):=lo.run (Ymz lo rec)
def Yvo(lo:Lo)(rec:Int×Int×Int× (List Int)->Option ((List Int))):LpE:=⟨1,[],(Zsg [0,1,2,3,8,9] [.ref 0,.j,.j,.j,.b,.b] [.sq (cs [I])]),[⟨.ret,(Zsg [] [] [.sq (cs [I])])⟩],YmA lo rec⟩
def YmB(lo:Lo)(rec:Int×Int×Int× (List Int)->Option ((List Int))):LL:=(Yvo lo rec,.loop q49_L1_b.er)::Ymy lo rec
theorem Yvp(lo:Lo)(rec:Int×Int×Int× (List Int)->Option ((List Int))):Lk lo pf (Ydb rec::fs49 lo) 1 (YmB lo rec):=.l (Yvn lo rec) (Ymz lo rec)
def Yvq(lo:Lo)(rec:Int×Int×Int× (List Int)->Option ((List Int)))(a1:Int)(b2:Int)(limit3:Int)(data0:List Int):Option ((List Int)):=
  YCV (YmA lo rec (a1,b2,limit3,true,true,data0)) fun y168=>some y168
def Yg0(lo:Lo):Nat->Int×Int×Int× (List Int)->Option ((List Int))
  |0,_=>none
  |n+1,x=>Yvq lo (Yg0 lo n) x.1 x.2.1 x.2.2.1 x.2.2.2
def q49(lo:Lo)(a1:Int)(b2:Int)(limit3:Int)(data0:List Int):Option ((List Int)):=lo.run (fixS (Yg0 lo)) (0,(a1,b2,limit3,data0))
def Yvr:VFn:=⟨true,134,[],
 (Rg [oB 8 true]
 (Rg [oB 9 true]
 (.blk 0 (.loop 1 q49_L1_b))))⟩
def YmC(lo:Lo):FnE:=Ydb (fun x=>q49 lo x.1 x.2.1 x.2.2.1 x.2.2.2)
noncomputable def fs50(lo:Lo):List FnE:=YmC lo::fs49 lo
theorem Yvs(h:GZ P fm fs49 lo)(t:Ti P fm 375 Yvr):GZ P fm fs50 lo:=
  h.ir (YmC lo) (Yg0 lo) (ls:=fun rec=>YmB lo rec) (fun rec=>(Yvp lo rec)) t (by kernel_rfl) (fun _=>rfl) rfl (fun _=>by kernel_rfl) fun n x=>by kernel_rfl
def q50(lo:Lo)(x0:List Int):Option ((List Int)):=
  YCV (q23 lo (YDf .u64 (x0.length:Int))) fun y118=>YCV (q49 lo (0:Int) (x0.length:Int) y118 x0) fun y169=>chk (y169.length=x0.length) (some y169)
def Yvt:VFn:=⟨true,11,[],
 (Rg [oM 3 0,oN 4 3,oM 2 4]
 (.reg [oM 5 0,oM 6 2,oM 7 2,o 8 (.conv .u64 7),oC 9 163 [8],oC 10 375 [5,(k 0),6,9]]))⟩
def YmD(lo:Lo):FnE:=Zfe 367 false (Zsg [0] [.ref 0] [.sq (cs [I])]) (.tp []) [.sq (cs [I])] (fun x=>q50 lo x:(List Int)->Option ((List Int)))
noncomputable def fs51(lo:Lo):List FnE:=YmD lo::fs50 lo
theorem Yvu(h:GZ P fm fs50 lo)(t:Ti P fm 367 Yvt):GZ P fm fs51 lo:=
  h.i (YmD lo) .n t
def q51(lo:Lo)(l:List Int):Option (List Int):=YBf (q50 lo) l
def Yvv(lo:Lo):FnE:=vsortE 367 (.cons (.i .i64) .nil) (q51 lo)
noncomputable def fs52(lo:Lo):List FnE:=Yvv lo::fs51 lo
theorem Yvw(h:GZ P fm fs51 lo)(hG: ∀f,fm f=367->Yyw P f=true/\ ∃ρ:Go.Shelf.Ren,Go.Proofs.SlLaysN.n53 P ρ/\ρ.f 53=f):GZ P fm fs52 lo:=
  ⟨h.1,h.2,Ys4 h.S rfl (F0:=q50 lo) (YCl ..) hG⟩
def q52_L7_b:VCode:=
 (Rg [oR 35 .lss 34 33]
 (.seq (Ce 35 2)
 (.seq (.blk 3 (Rg [oM 36 34,oI 37 3 32 34,oT 38 3 37,o 12 (.alloc [.i .i64 0,.i .i64 0,.s (⟨#[]⟩)]),oM 11 36,oS 3 12 38]
 (Rg [oT 39 3 12,oF 40 1 4,oL 41 40,oM 42 11,oI 43 3 41 42,oT 44 3 43,o 45 (.eqa true [1,1,2] 39 44)]
 (.cond 45 (.reg [oM 46 10,oM 47 11,oR 48 .shl (ki .u32 1) 47,oR 49 .or 46 48,oM 10 49])
 .skip))))
 (.reg [oR 50 .add 34 (k 1),oM 34 50]))))
def YeI(lo:Lo):Zp13->Option (Zp13⊕ ((Int×Int×Int×Int×Int×Int×Zt2×Bool×Bool×Int×Zt1×Int×Zt0× (List Int)×Int×Int× (List Int)×Bool))):=fun x=>match x with
  | (rhs2,id8,differ10,v32,v33,v34,x0_0,x0_1,h1_0,h1_1,h1_2,h1_3,h2_0,h2_1,r4_0,r4_1,out7,h5_0,h5_1,h5_2,h5_3)=>bif(decide (v34<v33))then(chk (0<=v34/\v34< (v32.length:Int)) (chk (0<=v34/\v34< (r4_1.length:Int)) (bif(!((decide ((v32.getD v34.toNat Zd1).1=(r4_1.getD v34.toNat Zd1).1))&& ((decide ((v32.getD v34.toNat Zd1).2.1=(r4_1.getD v34.toNat Zd1).2.1))&& ((decide ((v32.getD v34.toNat Zd1).2.2=(r4_1.getD v34.toNat Zd1).2.2))&&true))))then(chk (0<=v34) (some (.inl (rhs2,id8,(bits .or .u32 differ10 (YDf .u32 ((1:Int)*2^(min v34.toNat (IntKind.bits .u32))))),v32,v33,(YDf .i64 (v34+1)),x0_0,x0_1,h1_0,h1_1,h1_2,h1_3,h2_0,h2_1,r4_0,r4_1,out7,h5_0,h5_1,h5_2,h5_3))))else(some (.inl (rhs2,id8,differ10,v32,v33,(YDf .i64 (v34+1)),x0_0,x0_1,h1_0,h1_1,h1_2,h1_3,h2_0,h2_1,r4_0,r4_1,out7,h5_0,h5_1,h5_2,h5_3))))))else(some (.inr (rhs2,id8,differ10,x0_0,x0_1,h1_0,h1_1,h1_2,h1_3,h2_0,h2_1,r4_0,r4_1,out7,h5_0,h5_1,h5_2,h5_3)))
def Yg1(lo:Lo):Zp13->Option ((Int×Int×Int×Int×Int×Int×Zt2×Bool×Bool×Int×Zt1×Int×Zt0× (List Int)×Int×Int× (List Int)×Bool)):=lo.run (YeI lo)
def Yvx(lo:Lo):LpE:=⟨7,[],(Zsg [0,2,4,7,8,10,25,32,33,34] [.ptr 0 0 0,.i .u32,.ptr 3 0 0,.ref 4,.j,.i .u32,.np 5,.l Zc3,.j,.j] [.st [.j,.i .u32,.np 1,.np 2],.st [.j,.l Zc6,.b,.b],.fp none (cs [I]),.st [.j,.l Zc3],.sq (cs [I]),.st [.np 1,.j,.j,.l (cs [I]),.b]]),[⟨.exit 2,(Zsg [0,2,4,7,8,10,25] [.ptr 0 0 0,.i .u32,.ptr 3 0 0,.ref 4,.j,.i .u32,.np 5] [.st [.j,.i .u32,.np 1,.np 2],.st [.j,.l Zc6,.b,.b],.fp none (cs [I]),.st [.j,.l Zc3],.sq (cs [I]),.st [.np 1,.j,.j,.l (cs [I]),.b]])⟩],Yg1 lo⟩
def YmE(lo:Lo):LL:=(Yvx lo,.loop q52_L7_b.er)::[]
theorem Yvy(lo:Lo):Lk lo pf (fs52 lo) 3 (YmE lo):=.l .n (YeI lo)
def YmF:VCode:=
 (.reg [oM 21 0,o 22 (.nilc 21),oF 23 2 22,oL 24 23,o 25 (.mrng 24)])
def YmG:VCode:=
 (.blk 1 (Rg [o 28 (.ment (some .i64) I Zc10 true 25),oE 29 28 0,oE 30 28 1,o 9 (.alloc [.i .i64 0,.e Zc3]),oM 8 29,oS 2 9 30]
 (Rg [o 10 (.mv (ki .u32 0))]
 (.seq (Rg [oF 31 1 9,oL 32 31,oN 33 32,oK 34 0]
 (.blk 2 (.loop 7 q52_L7_b)))
 (Rg [oM 51 8,oF 52 0 4,oL 53 52,oR 54 .neq 51 53,oM 55 54,gT 56 55 (.mv 10),gT 57 55 (.mv 0),gT 58 55 (.nilc 57),gT 59 55 (.fad 1 58),gT 60 55 (.load false 1 59),gT 61 55 (.bin .and 56 60),gT 62 55 (.bin .eql 61 (ki .u32 0)),oP 63 55 62 (kb false),oM 64 63,gT 65 64 (.mv 10),gT 66 64 (.mv 2),gT 67 64 (.bin .and 65 66),gT 68 64 (.bin .neq 67 (ki .u32 0)),oP 69 64 68 (kb false)]
 (.cond 69 (.reg [oM 70 7,oM 71 8,o 72 (.bsl (cs [I]) 1 [(0,71)]),o 73 (.app (cs [I]) 0 70 72),oM 7 73])
 .skip))))))
def YmH:VCode:=
 (Rg [oM 74 7,oC 75 367 [74]]
 (Rg [oM 76 7,oM 6 76]
 (Fr 6)))
def q52_J20_b:VCode:=.seq (.seq YmF (.blk 0 (.loop 4 (Rg [o 26 (.mnxt 25),oE 27 26 0] (YzK 27 0 YmG))))) YmH
def Yvz:Sg:=(Zsg [0,2,4,7,25] [.ptr 0 0 0,.i .u32,.ptr 3 0 0,.ref 4,.np 5] [.st [.j,.i .u32,.np 1,.np 2],.st [.j,.l Zc6,.b,.b],.fp none (cs [I]),.st [.j,.l Zc3],.sq (cs [I]),.st [.np 1,.j,.j,.l (cs [I]),.b]])
def YmI(lo:Lo):Zp20->Option (Int×Int×Int×Int×Zt2×Bool×Bool×Int×Zt1×Int×Zt0× (List Int)×Int×Int× (List Int)×Bool):=fun x=>match x with
  | (rhs2,x0_0,x0_1,h1_0,h1_1,h1_2,h1_3,h2_0,h2_1,r4_0,r4_1,out7)=>some (rhs2,x0_0,x0_1,h1_0,h1_1,h1_2,h1_3,h2_0,h2_1,r4_0,r4_1,out7,h1_0,h1_0,([]:List Int),false)
def YeJ:Zp14->ItP:=fun x=>match x with
  | (rhs2,x0_0,x0_1,h1_0,h1_1,h1_2,h1_3,h2_0,h2_1,r4_0,r4_1,out7,v25_0,v25_1,v25_2,v25_3)=>(h1_1.map (fun e=>e.1),v25_2,h1_0,v25_0,v25_1)
def Ydd(lo:Lo):Zp14->Int->Option (Int×Int×Int×Int×Zt2×Bool×Bool×Int×Zt1×Int×Zt0× (List Int)×Int×Int× (List Int)×Bool):=fun x b=>match x with
  | (rhs2,x0_0,x0_1,h1_0,h1_1,h1_2,h1_3,h2_0,h2_1,r4_0,r4_1,out7,v25_0,v25_1,v25_2,v25_3)=>chk (v25_1=h1_0) (YCV (addI v25_2 b).getLast? fun y173=>YCV (mbf y173 h1_1) fun y174=>YCV (Yg1 lo (rhs2,y174.1,(0:Int),y174.2.2,(y174.2.2.length:Int),(0:Int),x0_0,x0_1,h1_0,h1_1,h1_2,h1_3,h2_0,h2_1,r4_0,r4_1,out7,v25_0,v25_1,(addI v25_2 b),v25_3)) fun y175=>bif(!decide (y175.2.1=y175.2.2.2.2.2.2.2.2.2.2.2.1))then(bif(decide ((bits .and .u32 y175.2.2.1 y175.2.2.2.2.1)=(0:Int)))then(bif(!decide ((bits .and .u32 y175.2.2.1 y175.1)=(0:Int)))then(chk (y175.2.2.2.2.2.2.2.2.2.2.2.2.2.1.length+[y175.2.1].length<=maxEl) (some (y175.1,y175.2.2.2.1,y175.2.2.2.2.1,y175.2.2.2.2.2.1,y175.2.2.2.2.2.2.1,y175.2.2.2.2.2.2.2.1,y175.2.2.2.2.2.2.2.2.1,y175.2.2.2.2.2.2.2.2.2.1,y175.2.2.2.2.2.2.2.2.2.2.1,y175.2.2.2.2.2.2.2.2.2.2.2.1,y175.2.2.2.2.2.2.2.2.2.2.2.2.1,(y175.2.2.2.2.2.2.2.2.2.2.2.2.2.1++[y175.2.1]),y175.2.2.2.2.2.2.2.2.2.2.2.2.2.2.1,y175.2.2.2.2.2.2.2.2.2.2.2.2.2.2.2.1,y175.2.2.2.2.2.2.2.2.2.2.2.2.2.2.2.2.1,y175.2.2.2.2.2.2.2.2.2.2.2.2.2.2.2.2.2)))else(some (y175.1,y175.2.2.2.1,y175.2.2.2.2.1,y175.2.2.2.2.2.1,y175.2.2.2.2.2.2.1,y175.2.2.2.2.2.2.2.1,y175.2.2.2.2.2.2.2.2.1,y175.2.2.2.2.2.2.2.2.2.1,y175.2.2.2.2.2.2.2.2.2.2.1,y175.2.2.2.2.2.2.2.2.2.2.2.1,y175.2.2.2.2.2.2.2.2.2.2.2.2.1,y175.2.2.2.2.2.2.2.2.2.2.2.2.2.1,y175.2.2.2.2.2.2.2.2.2.2.2.2.2.2.1,y175.2.2.2.2.2.2.2.2.2.2.2.2.2.2.2.1,y175.2.2.2.2.2.2.2.2.2.2.2.2.2.2.2.2.1,y175.2.2.2.2.2.2.2.2.2.2.2.2.2.2.2.2.2)))else(some (y175.1,y175.2.2.2.1,y175.2.2.2.2.1,y175.2.2.2.2.2.1,y175.2.2.2.2.2.2.1,y175.2.2.2.2.2.2.2.1,y175.2.2.2.2.2.2.2.2.1,y175.2.2.2.2.2.2.2.2.2.1,y175.2.2.2.2.2.2.2.2.2.2.1,y175.2.2.2.2.2.2.2.2.2.2.2.1,y175.2.2.2.2.2.2.2.2.2.2.2.2.1,y175.2.2.2.2.2.2.2.2.2.2.2.2.2.1,y175.2.2.2.2.2.2.2.2.2.2.2.2.2.2.1,y175.2.2.2.2.2.2.2.2.2.2.2.2.2.2.2.1,y175.2.2.2.2.2.2.2.2.2.2.2.2.2.2.2.2.1,y175.2.2.2.2.2.2.2.2.2.2.2.2.2.2.2.2.2)))else(some (y175.1,y175.2.2.2.1,y175.2.2.2.2.1,y175.2.2.2.2.2.1,y175.2.2.2.2.2.2.1,y175.2.2.2.2.2.2.2.1,y175.2.2.2.2.2.2.2.2.1,y175.2.2.2.2.2.2.2.2.2.1,y175.2.2.2.2.2.2.2.2.2.2.1,y175.2.2.2.2.2.2.2.2.2.2.2.1,y175.2.2.2.2.2.2.2.2.2.2.2.2.1,y175.2.2.2.2.2.2.2.2.2.2.2.2.2.1,y175.2.2.2.2.2.2.2.2.2.2.2.2.2.2.1,y175.2.2.2.2.2.2.2.2.2.2.2.2.2.2.2.1,y175.2.2.2.2.2.2.2.2.2.2.2.2.2.2.2.2.1,y175.2.2.2.2.2.2.2.2.2.2.2.2.2.2.2.2.2)))
def Yde(lo:Lo):Zp14->Option (((List Int)×Int×Int×Int×Zt2×Bool×Bool×Int×Zt1)):=fun x=>match x with
  | (rhs2,x0_0,x0_1,h1_0,h1_1,h1_2,h1_3,h2_0,h2_1,r4_0,r4_1,out7,v25_0,v25_1,v25_2,v25_3)=>YCV (q51 lo out7) fun y176=>chk (y176.length=out7.length) (some (y176,x0_0,x0_1,h1_0,h1_1,h1_2,h1_3,h2_0,h2_1))
noncomputable def Yg2(lo:Lo):Zp20->Option (((List Int)×Int×Int×Int×Zt2×Bool×Bool×Int×Zt1)):=fun x=>YCV (YmI lo x) (rngF YeJ (Ydd lo) (Yde lo))
noncomputable def YeK(lo:Lo):LpE:=⟨20,[(7,none,false)],(Zsg [0,2,4,7] [.ptr 0 0 0,.i .u32,.ptr 3 0 0,.ref 4] [.st [.j,.i .u32,.np 1,.np 2],.st [.j,.l Zc6,.b,.b],.fp none (cs [I]),.st [.j,.l Zc3],.sq (cs [I])]),[⟨.ret,(Zsg [6,0] [.l (cs [I]),.ptr 0 0 0] [.st [.j,.i .u32,.np 1,.np 2],.st [.j,.l Zc6,.b,.b],.fp none (cs [I])])⟩],Yg2 lo⟩
noncomputable def YvA(lo:Lo):LL:=(YeK lo,q52_J20_b.er)::YmE lo
theorem YvB(lo:Lo):Lk lo pf (fs52 lo) 3 (YvA lo):=
  .m (Yvy lo) (it:=25) (nx:=26) (mo:=27) (out:=0) (own:=(YeK lo).own) (g0:=(YeK lo).g) (outs:=(YeK lo).outs) (g:=Yvz) (pre:=YmF) (bb:=YmG) (rest:=YmH) (p:=YeJ) (t:=Ydd lo) (r:=Yde lo) (u:=YmI lo) (by kernel_rfl) (fun x=>by kernel_rfl) (fun x b=>by kernel_rfl) (fun x=>by kernel_rfl) (fun x=>by kernel_rfl) rfl
noncomputable def q52(lo:Lo)(r1_0:Int)(r1_1:List (Int×Int×ByteArray))(rhs2:Int)(x0_0:Int)(x0_1:Int)(h1_0:Int)(h1_1:List (Int×Int×Int×Zt0))(h1_2:Bool)(h1_3:Bool)(h2_0:Int)(h2_1:List (Int×ByteArray× (List Int))):Option ((List Int)×Int×Int×Int×Zt2×Bool×Bool×Int×Zt1):=
  bif(!decide ((r1_1.length:Int)=x0_0))then(some (([]:List Int),x0_0,x0_1,h1_0,h1_1,h1_2,h1_3,h2_0,h2_1))else(YCV (Yg2 lo (rhs2,x0_0,x0_1,h1_0,h1_1,h1_2,h1_3,h2_0,h2_1,r1_0,r1_1,[])) fun y177=>some (y177.1,y177.2.1,y177.2.2.1,y177.2.2.2.1,y177.2.2.2.2.1,y177.2.2.2.2.2.1,y177.2.2.2.2.2.2.1,y177.2.2.2.2.2.2.2.1,y177.2.2.2.2.2.2.2.2))
def YvC:VFn:=⟨true,77,[.t 6],
 (Rg [oG 4 1,o 6 (.mv (ke (cs [I])))]
 (.seq (Rg [oF 13 1 4,oL 14 13,oN 15 14,oM 16 0,o 17 (.nilc 16),oF 18 0 17,oL 19 18,oR 20 .neq 15 19]
 (.cond 20 (Rg [o 6 (.mv (ke (cs [I])))]
 (Fr 6))
 .skip))
 (Rg [o 7 (.mv (ke (cs [I])))]
 (.jn 20 q52_J20_b))))⟩
noncomputable def YmJ(lo:Lo):FnE:=Zfe 347 false (Zsg [0,1,2] [.ptr 0 0 0,.ag [.j,.l Zc3],.i .u32] [.st [.j,.i .u32,.np 1,.np 2],.st [.j,.l Zc6,.b,.b],.fp none (cs [I])]) (.l (cs [I])) [.st [.j,.i .u32,.np 1,.np 2],.st [.j,.l Zc6,.b,.b],.fp none (cs [I])] (fun x=>q52 lo x.1 x.2.1 x.2.2.1 x.2.2.2.1 x.2.2.2.2.1 x.2.2.2.2.2.1 x.2.2.2.2.2.2.1 x.2.2.2.2.2.2.2.1 x.2.2.2.2.2.2.2.2.1 x.2.2.2.2.2.2.2.2.2.1 x.2.2.2.2.2.2.2.2.2.2:Int×Zt0×Int×Int×Int×Int×Zt2×Bool×Bool×Int×Zt1->Option ((List Int)×Int×Int×Int×Zt2×Bool×Bool×Int×Zt1))
noncomputable def fs53(lo:Lo):List FnE:=YmJ lo::fs52 lo
theorem YvD(h:GZ P fm fs52 lo)(t:Ti P fm 347 YvC):GZ P fm fs53 lo:=
  h.i (YmJ lo) (YvB lo) t
def q53(lo:Lo)(l:List Int)(n:Int):Option (Int×List Int):=delF (l,n)
def YvE(lo:Lo):FnE:=delE 365 366
noncomputable def fs54(lo:Lo):List FnE:=YvE lo::fs53 lo
theorem YvF(h:GZ P fm fs53 lo)(hG: ∀f,fm f=365->Yyw P f=true/\ ∃ρ:Go.Shelf.Ren,Go.Proofs.SlLaysH.n10 P ρ/\ (∀w,(zeroValue (ρ.t 23)).run P w= .ok (.int .i64 0) w)/\ (∀f,fm f=366->EqClo P f)/\ρ.f 10=f):GZ P fm fs54 lo:=
  ⟨h.1,h.2,Ys2 h.S 366 rfl hG⟩
def q54(lo:Lo)(id1:Int)(x0_0:Int)(x0_1:Int)(h1_0:Int)(h1_1:List (Int×Int×Int×Zt0))(h1_2:Bool)(h1_3:Bool)(h2_0:Int)(h2_1:List (Int×ByteArray× (List Int))):Option Zp27:=
  bif(!(mhs eqI id1 h1_1))then(some ((4:Int),x0_0,x0_1,h1_0,h1_1,h1_2,h1_3,h2_0,h2_1))else(YCV (q8 lo ((mgt eqI id1 h1_1 ((0:Int),[])).1) ((mgt eqI id1 h1_1 ((0:Int),[])).2) x0_0 x0_1 h1_0 (mdl eqI id1 h1_1) h1_2 h1_3 h2_0 h2_1) fun y180=>YCV (q14 lo y180.2.2.2.2.2.2.2.2) fun y181=>bif YCK (mix eqS y181 y180.2.2.2.2.2.2.2.1) y180.2.2.2.2.2.2.2.1.length then(YCV (q53 lo ((y180.2.2.2.2.2.2.2.1.getD (mix eqS y181 y180.2.2.2.2.2.2.2.1) ((0:Int),(YDe #[]),[])).2.2) id1) fun y182=>chk ((y182.2.length:Int)=(y182.2.length:Int)) (chk (mix eqS y181 y180.2.2.2.2.2.2.2.1=(mix eqS y181 y180.2.2.2.2.2.2.2.1)) (bif(decide ((y182.2.length:Int)=0))then(some ((0:Int),y180.1,y180.2.1,y180.2.2.1,y180.2.2.2.1,y180.2.2.2.2.1,y180.2.2.2.2.2.1,(mck eqS y180.2.2.2.2.2.2.1 y181 y180.2.2.2.2.2.2.2.1),(mdl eqS y181 (mpt eqS y180.2.2.2.2.2.2.1 y181 y182.2 y180.2.2.2.2.2.2.2.1))))else(some ((0:Int),y180.1,y180.2.1,y180.2.2.1,y180.2.2.2.1,y180.2.2.2.2.1,y180.2.2.2.2.2.1,(mck eqS y180.2.2.2.2.2.2.1 y181 y180.2.2.2.2.2.2.2.1),(mpt eqS y180.2.2.2.2.2.2.1 y181 y182.2 y180.2.2.2.2.2.2.2.1))))))else(none))
def YvG:VFn:=⟨true,51,[.t 4],
 (Rg [oG 3 1,oK 4 0]
 (Rg [oM 10 0,o 11 (.nilc 10),oF 12 2 11,⟨some 13,.load false 1 12,none,true,false⟩,⟨some 14,.load false 1 3,none,true,false⟩,⟨some 15,.mget (some .i64) I Zc10 true true 13 14,none,true,false⟩,oM 9 15,oE 16 9 0,oE 17 9 1,o 5 (.alloc [.i .i64 0,.e Zc3]),oS 2 5 16,oM 6 17]
 (.seq (Rg [oM 18 6,oX 19 18]
 (.cond 19 (Rg [oK 4 4]
 .ret)
 .skip))
 (Rg [oM 20 0,o 21 (.nilc 20),oF 22 2 21,oL 23 22,oL 24 3,on (.mdel (some .i64) I Zc10 23 24)]
 (Rg [oM 25 0,oT 26 2 5,oC 27 362 [25,26],oC 28 361 [27],oM 7 28]
 (Rg [oM 29 0,o 30 (.nilc 29),oF 31 3 30,oL 32 31,oM 33 7,o 34 (.mget none (.l (cs [I])) (cs []) false false 32 33),o 35 (.mkf 366 [3]),o 36 (.callF 365 [34,35]),o 8 (.mvp 36)]
 (Rg [oM 37 0,o 38 (.nilc 37),oF 39 3 38,oL 40 39,oM 41 7,oM 42 8,on (.mput none (.l (cs [I])) (cs []) false 40 41 42)]
 (.seq (Rg [oM 43 8,oN 44 43,oR 45 .eql 44 (k 0)]
 (.cond 45 (.reg [oM 46 0,o 47 (.nilc 46),oF 48 3 47,oL 49 48,oM 50 7,on (.mdel none (.l (cs [I])) (cs []) 49 50)])
 .skip))
 (Rg [oK 4 0]
 .ret)))))))))⟩
def YmK(lo:Lo):FnE:=Zfe 345 false (Zsg [0,1] [.ptr 0 0 0,.j] [.st [.j,.i .u32,.np 1,.np 2],.st [.j,.l Zc6,.b,.b],.fp none (cs [I])]) (.i .i64) [.st [.j,.i .u32,.np 1,.np 2],.st [.j,.l Zc6,.b,.b],.fp none (cs [I])] (fun x=>q54 lo x.1 x.2.1 x.2.2.1 x.2.2.2.1 x.2.2.2.2.1 x.2.2.2.2.2.1 x.2.2.2.2.2.2.1 x.2.2.2.2.2.2.2.1 x.2.2.2.2.2.2.2.2:Zp27->Option Zp27)
noncomputable def fs55(lo:Lo):List FnE:=YmK lo::fs54 lo
theorem YvH(h:GZ P fm fs54 lo)(t:Ti P fm 345 YvG):GZ P fm fs55 lo:=
  h.i (YmK lo) .n t
def q55(lo:Lo)(x0_0:Int)(x0_1:Int)(h1_0:Int)(h1_1:List (Int×Int×Int×Zt0))(h1_2:Bool)(h1_3:Bool)(h2_0:Int)(h2_1:List (Int×ByteArray× (List Int))):Option Zp27:=
  some ((h1_1.length:Int),x0_0,x0_1,h1_0,h1_1,h1_2,h1_3,h2_0,h2_1)
def YvI:VFn:=⟨true,8,[.t 2],
 (Rg [oK 2 0]
 (Rg [oM 3 0,o 4 (.nilc 3),oF 5 2 4,oL 6 5,o 7 (.mlen 6),oM 2 7]
 .ret))⟩
def YmL(lo:Lo):FnE:=Zfe 339 false (Zsg [0] [.ptr 0 0 0] [.st [.j,.i .u32,.np 1,.np 2],.st [.j,.l Zc6,.b,.b],.fp none (cs [I])]) (.i .i64) [.st [.j,.i .u32,.np 1,.np 2],.st [.j,.l Zc6,.b,.b],.fp none (cs [I])] (fun x=>q55 lo x.1 x.2.1 x.2.2.1 x.2.2.2.1 x.2.2.2.2.1 x.2.2.2.2.2.1 x.2.2.2.2.2.2.1 x.2.2.2.2.2.2.2:Zp28->Option Zp27)
noncomputable def fs56(lo:Lo):List FnE:=YmL lo::fs55 lo
theorem YvJ(h:GZ P fm fs55 lo)(t:Ti P fm 339 YvI):GZ P fm fs56 lo:=
  h.i (YmL lo) .n t
noncomputable def q56(lo:Lo):Option Bool:=
  altO (q1 lo (2:Int) (1:Int)) (fun y0=>bif(!decide (y0.1=(0:Int)))then(some false)else(YCV (q2 lo (1:Int) (5:Int) (YDe #[120])) fun y1=>YCV (q21 lo y1.1 y1.2 y0.2.1 y0.2.2.1 y0.2.2.2.1 y0.2.2.2.2.1 y0.2.2.2.2.2.1 y0.2.2.2.2.2.2.1 y0.2.2.2.2.2.2.2.1 y0.2.2.2.2.2.2.2.2) fun y33=>bif(!decide (y33.1=(0:Int)))then(some false)else(YCV (q2 lo (2:Int) (7:Int) (YDe #[121])) fun y34=>YCV (q21 lo y34.1 y34.2 y33.2.1 y33.2.2.1 y33.2.2.2.1 y33.2.2.2.2.1 y33.2.2.2.2.2.1 y33.2.2.2.2.2.2.1 y33.2.2.2.2.2.2.2.1 y33.2.2.2.2.2.2.2.2) fun y35=>bif(!decide (y35.1=(0:Int)))then(some false)else(YCV (q2 lo (3:Int) (5:Int) (YDe #[122])) fun y36=>YCV (q21 lo y36.1 y36.2 y35.2.1 y35.2.2.1 y35.2.2.2.1 y35.2.2.2.2.1 y35.2.2.2.2.2.1 y35.2.2.2.2.2.2.1 y35.2.2.2.2.2.2.2.1 y35.2.2.2.2.2.2.2.2) fun y37=>bif(!decide (y37.1=(0:Int)))then(some false)else(YCV (q38 lo y37.2.1 y37.2.2.1 y37.2.2.2.1 y37.2.2.2.2.1 y37.2.2.2.2.2.1 y37.2.2.2.2.2.2.1 y37.2.2.2.2.2.2.2.1 y37.2.2.2.2.2.2.2.2) fun y104=>YCV (q40 lo y104.1 ([[(1:Int),(3:Int)],[(2:Int)]])) fun y112=>bif y112 then(YCV (q2 lo (9:Int) (5:Int) (YDe #[120])) fun y113=>YCV (q52 lo y113.1 y113.2 (2:Int) y104.2.1 y104.2.2.1 y104.2.2.2.1 y104.2.2.2.2.1 y104.2.2.2.2.2.1 y104.2.2.2.2.2.2.1 y104.2.2.2.2.2.2.2.1 y104.2.2.2.2.2.2.2.2) fun y178=>YCV (q39 lo y178.1 ([(3:Int)])) fun y179=>bif y179 then(YCV (q54 lo (1:Int) y178.2.1 y178.2.2.1 y178.2.2.2.1 y178.2.2.2.2.1 y178.2.2.2.2.2.1 y178.2.2.2.2.2.2.1 y178.2.2.2.2.2.2.2.1 y178.2.2.2.2.2.2.2.2) fun y183=>bif(decide (y183.1=(0:Int)))then(YCV (q38 lo y183.2.1 y183.2.2.1 y183.2.2.2.1 y183.2.2.2.2.1 y183.2.2.2.2.2.1 y183.2.2.2.2.2.2.1 y183.2.2.2.2.2.2.2.1 y183.2.2.2.2.2.2.2.2) fun y184=>YCV (q40 lo y184.1 ([[(3:Int)],[(2:Int)]])) fun y185=>bif y185 then(YCV (q55 lo y184.2.1 y184.2.2.1 y184.2.2.2.1 y184.2.2.2.2.1 y184.2.2.2.2.2.1 y184.2.2.2.2.2.2.1 y184.2.2.2.2.2.2.2.1 y184.2.2.2.2.2.2.2.2) fun y186=>some (decide (y186.1=(2:Int))))else(some false))else(some false))else(some false))else(some false)))))) (YCV (q0 lo (2:Int) (1:Int)) fun y187=>bif(!decide (y187=0))then(some false)else(some false))
def YvK:VFn:=⟨true,69,[.t 0],
 (Rg [oB 0 false]
 (Rg [o 1 (.mv (.c (.f 358)))]
 (Rg [oC 6 337 [(k 2),(ki .u32 1)],oM 5 6,oE 7 5 0,oE 8 5 1,oM 2 7,oM 3 8]
 (.seq (Rg [oM 9 3,oR 10 .neq 9 (k 0),oM 11 10,gF 12 11 (.mv 2),gF 13 11 (.isp false 12),oP 14 11 (kb true) 13,oM 15 14,gF 16 15 (.mv 2),gF 17 15 (.mv 1),gF 18 15 (.dyn 17 [(k 1),(k 5),(ks (⟨#[120]⟩))]),gF 19 15 (.call 343 [16,18]),gF 20 15 (.bin .neq 19 (k 0)),oP 21 15 (kb true) 20,oM 22 21,gF 23 22 (.mv 2),gF 24 22 (.mv 1),gF 25 22 (.dyn 24 [(k 2),(k 7),(ks (⟨#[121]⟩))]),gF 26 22 (.call 343 [23,25]),gF 27 22 (.bin .neq 26 (k 0)),oP 28 22 (kb true) 27,oM 29 28,gF 30 29 (.mv 2),gF 31 29 (.mv 1),gF 32 29 (.dyn 31 [(k 3),(k 5),(ks (⟨#[122]⟩))]),gF 33 29 (.call 343 [30,32]),gF 34 29 (.bin .neq 33 (k 0)),oP 35 29 (kb true) 34]
 (.cond 35 (Rg [oB 0 false]
 (Fr 0))
 .skip))
 (Rg [oM 36 2,oC 37 340 [36],o 38 (.bsl (cs [I]) 2 [(0,(k 1)),(1,(k 3))]),o 39 (.bsl (cs [I]) 1 [(0,(k 2))]),o 40 (.bsl Zc9 2 [(0,38),(1,39)]),oC 41 346 [37,40],oM 42 41,gT 43 42 (.mv 2),gT 44 42 (.mv 1),gT 45 42 (.dyn 44 [(k 9),(k 5),(ks (⟨#[120]⟩))]),gT 46 42 (.call 347 [43,45,(ki .u32 2)]),gT 47 42 (.bsl (cs [I]) 1 [(0,(k 3))]),gT 48 42 (.call 351 [46,47]),oP 49 42 48 (kb false),oM 4 49]
 (Rg [oM 50 4,oM 51 50,gT 52 51 (.mv 2),gT 53 51 (.call 345 [52,(k 1)]),gT 54 51 (.bin .eql 53 (k 0)),oP 55 51 54 (kb false),oM 56 55,gT 57 56 (.mv 2),gT 58 56 (.call 340 [57]),gT 59 56 (.bsl (cs [I]) 1 [(0,(k 3))]),gT 60 56 (.bsl (cs [I]) 1 [(0,(k 2))]),gT 61 56 (.bsl Zc9 2 [(0,59),(1,60)]),gT 62 56 (.call 346 [58,61]),oP 63 56 62 (kb false),oM 64 63,gT 65 64 (.mv 2),gT 66 64 (.call 339 [65]),gT 67 64 (.bin .eql 66 (k 2)),oP 68 64 67 (kb false),oM 0 68]
 (Fr 0)))))))⟩
noncomputable def YmM(lo:Lo):FnE:=Zfe 336 true (Zsg [] [] []) .b [] (fun x=>q56 lo:Unit->Option Bool)
noncomputable def fs57(lo:Lo):List FnE:=YmM lo::fs56 lo
theorem YvL(h:GZ P fm fs56 lo)(t:Ti P fm 336 YvK):GZ P fm fs57 lo:=
  h.p (YmM lo) .n t
def q57_L3_b:VCode:=
 (.seq (Rg [oM 5 4,oM 6 0,oR 7 .lss 5 6,oM 8 7,gT 9 8 (.mv 4),gT 10 8 (.bin .lss 9 (k 32)),oP 11 8 10 (kb false)]
 (Ce 11 0))
 (.seq (.blk 1 (.reg [oM 14 3,oM 15 4,oR 16 .shl (ki .u32 1) 15,oR 17 .or 14 16,oM 3 17]))
 (.reg [oM 12 4,oR 13 .add 12 (k 1),oM 4 13])))
def YeL(lo:Lo):Int×Int×Int->Option ((Int×Int×Int)⊕Int):=fun x=>match x with
  | (n0,s3,i4)=>bif(decide (i4<n0))then(bif(decide (i4<32))then(chk (0<=i4) (some (.inl (n0,(bits .or .u32 s3 (YDf .u32 ((1:Int)*2^(min i4.toNat (IntKind.bits .u32))))),(YDf .i64 (i4+1))))))else(some (.inr s3)))else(some (.inr s3))
def Yg3(lo:Lo):Int×Int×Int->Option Int:=lo.run (YeL lo)
def YvM(lo:Lo):LpE:=⟨3,[],(Zsg [0,3,4] [.j,.i .u32,.j] []),[⟨.exit 0,(Zsg [3] [.i .u32] [])⟩],Yg3 lo⟩
def YvN(lo:Lo):LL:=(YvM lo,.loop q57_L3_b.er)::[]
theorem YvO(lo:Lo):Lk lo pf (fs57 lo) 0 (YvN lo):=.l .n (YeL lo)
def q57(lo:Lo)(n0:Int):Option Int:=
  YCV (Yg3 lo (n0,(0:Int),(0:Int))) fun y190=>some y190
def YvP:VFn:=⟨true,19,[.t 2],
 (Rg [o 2 (.mv (ki .u32 0))]
 (Rg [o 3 (.mv (ki .u32 0))]
 (.seq (Rg [oK 4 0]
 (.blk 0 (.loop 3 q57_L3_b)))
 (Rg [oM 18 3,oM 2 18]
 (Fr 2)))))⟩
def YmN(lo:Lo):FnE:=Zfe 118 true (Zsg [0] [.j] []) (.i .u32) [] (fun x=>q57 lo x:Int->Option Int)
noncomputable def fs58(lo:Lo):List FnE:=YmN lo::fs57 lo
theorem YvQ(h:GZ P fm fs57 lo)(t:Ti P fm 118 YvP):GZ P fm fs58 lo:=
  h.p (YmN lo) (YvO lo) t
end Go.Abs.G3m
namespace Go.Abs.G3m
open Go Go.Abs
set_option maxRecDepth 100000
set_option maxHeartbeats 1000000
variable{P:Program}{fm:FM}{lo:Lo}
noncomputable def fs59(lo:Lo):List FnE:=fs58 lo
noncomputable def fs60(lo:Lo):List FnE:=fs59 lo
def q60(lo:Lo)(z0_0:Int)(z0_1:Int):Option (Int×Int×Zt5):=
  chk ((6:Int)≠0) (YCV (q57 lo (YDf .i64 (z0_0.tmod (6:Int)))) fun y202=>altO (q1 lo (YDf .i64 (z0_0.tmod (6:Int))) (bits .and .u32 z0_1 y202)) (fun y203=>bif(!decide (y203.1=(0:Int)))then(some ((0:Int),(0:Int),([]:List (Int×Zt0))))else(none)) (YCV (q0 lo (YDf .i64 (z0_0.tmod (6:Int))) (bits .and .u32 z0_1 y202)) fun y204=>bif(!decide (y204=0))then(some ((0:Int),(0:Int),([]:List (Int×Zt0))))else(some ((YDf .i64 (z0_0.tmod (6:Int))),(bits .and .u32 z0_1 y202),([]:List (Int×Zt0))))))
def YvR:VFn:=⟨true,30,[.t 2,.c 3 true 3],
 (Rg [oG 1 0,o 2 (.mv (.c (.one .nl))),o 3 (.alloc [.i .i64 0,.i .u32 0,.e Zc7])]
 (Rg [oF 8 0 1,oL 9 8,oR 10 .rem 9 (ki .u8 6),o 11 (.conv .i64 10),oM 4 11]
 (Rg [oF 12 1 1,oL 13 12,oM 14 4,oC 15 118 [14],oR 16 .and 13 15,oM 5 16]
 (Rg [oM 18 4,oM 19 5,oC 20 337 [18,19],oM 17 20,oE 21 17 0,oE 22 17 1,oM 6 21,oM 7 22]
 (.seq (Rg [oM 23 7,oR 24 .neq 23 (k 0)]
 (.cond 24 (Rg [o 25 (.build [.i .i64 0,.i .u32 0,.e Zc7] []),o 2 (.mv (.c (.one .nl))),oS 3 3 25]
 (Fr 2))
 .skip))
 (Rg [oM 26 6,oM 27 4,oM 28 5,o 29 (.build [.i .i64 0,.i .u32 0,.e Zc7] [(0,1,27),(1,1,28)]),oM 2 26,oS 3 3 29]
 (Fr 2)))))))⟩
def YmO(lo:Lo):FnE:=Zfe 341 false (Zsg [0] [.ag [.i .u8,.i .u32]] []) (.tp [.nl,.ag [.j,.i .u32,.l Zc7]]) [] (fun x=>q60 lo x.1 x.2:Int×Int->Option (Int×Int×Zt5))
noncomputable def fs61(lo:Lo):List FnE:=YmO lo::fs60 lo
theorem YvS(h:GZ P fm fs60 lo)(t:Ti P fm 341 YvR):GZ P fm fs61 lo:=
  h.i (YmO lo) .n t
def q61(lo:Lo)(z0_0:Int)(z0_1:Int):Option Zp24:=
  chk ((6:Int)≠0) (YCV (q57 lo (YDf .i64 (z0_0.tmod (6:Int)))) fun y205=>altO (q1 lo (YDf .i64 (z0_0.tmod (6:Int))) (bits .and .u32 z0_1 y205)) (fun y206=>bif(!decide (y206.1=(0:Int)))then(none)else(some ((YDf .i64 (z0_0.tmod (6:Int))),(bits .and .u32 z0_1 y205),([]:List (Int×Zt0)),y206.2.1,y206.2.2.1,y206.2.2.2.1,y206.2.2.2.2.1,y206.2.2.2.2.2.1,y206.2.2.2.2.2.2.1,y206.2.2.2.2.2.2.2.1,y206.2.2.2.2.2.2.2.2))) (YCV (q0 lo (YDf .i64 (z0_0.tmod (6:Int))) (bits .and .u32 z0_1 y205)) fun y207=>bif(!decide (y207=0))then(none)else(none)))
def YvT:VFn:=⟨true,30,[.t 2,.c 3 true 3],
 (Rg [oG 1 0,o 2 (.mv (.c (.one .nl))),o 3 (.alloc [.i .i64 0,.i .u32 0,.e Zc7])]
 (Rg [oF 8 0 1,oL 9 8,oR 10 .rem 9 (ki .u8 6),o 11 (.conv .i64 10),oM 4 11]
 (Rg [oF 12 1 1,oL 13 12,oM 14 4,oC 15 118 [14],oR 16 .and 13 15,oM 5 16]
 (Rg [oM 18 4,oM 19 5,oC 20 337 [18,19],oM 17 20,oE 21 17 0,oE 22 17 1,oM 6 21,oM 7 22]
 (.seq (Rg [oM 23 7,oR 24 .neq 23 (k 0)]
 (.cond 24 (Rg [o 25 (.build [.i .i64 0,.i .u32 0,.e Zc7] []),o 2 (.mv (.c (.one .nl))),oS 3 3 25]
 .ret)
 .skip))
 (Rg [oM 26 6,oM 27 4,oM 28 5,o 29 (.build [.i .i64 0,.i .u32 0,.e Zc7] [(0,1,27),(1,1,28)]),oM 2 26,oS 3 3 29]
 .ret))))))⟩
def YmP(lo:Lo):FnE:=Zfe 341 false (Zsg [0] [.ag [.i .u8,.i .u32]] []) (.tp [.ptr 0 0 0,.ag [.j,.i .u32,.l Zc7]]) [.st [.j,.i .u32,.np 1,.np 2],.st [.j,.l Zc6,.b,.b],.fp none (cs [I])] (fun x=>q61 lo x.1 x.2:Int×Int->Option Zp24)
noncomputable def fs62(lo:Lo):List FnE:=YmP lo::fs61 lo
theorem YvU(h:GZ P fm fs61 lo)(t:Ti P fm 341 YvT):GZ P fm fs62 lo:=
  h.i (YmP lo) .n t
def q62_L3_b:VCode:=
 (.seq (Rg [oM 6 5,oF 7 2 2,oL 8 7,oN 9 8,oR 10 .lss 6 9]
 (Ce 10 0))
 (.seq (.blk 1 (Rg [oF 13 2 2,oL 14 13,oM 15 5,oI 16 2 14 15,oF 17 0 16,oL 18 17,oM 19 1,oR 20 .eql 18 19]
 (.cond 20 (Rg [oM 21 5,oM 4 21]
 (Fr 4))
 .skip)))
 (.reg [oM 11 5,oR 12 .add 11 (k 1),oM 5 12])))
def YeM(lo:Lo):Int×Int×Int×Int×Zt5->Option ((Int×Int×Int×Int×Zt5)⊕ (Int⊕Unit)):=fun x=>match x with
  | (id1,i5,m2_0,m2_1,m2_2)=>bif(decide (i5< (m2_2.length:Int)))then(chk (0<=i5/\i5< (m2_2.length:Int)) (bif(decide ((m2_2.getD i5.toNat ((0:Int),[])).1=id1))then(some (.inr (.inl i5)))else(some (.inl (id1,(YDf .i64 (i5+1)),m2_0,m2_1,m2_2)))))else(some (.inr (.inr ())))
def Yg4(lo:Lo):Int×Int×Int×Int×Zt5->Option (Int⊕Unit):=lo.run (YeM lo)
def YvV(lo:Lo):LpE:=⟨3,[],(Zsg [1,2,5] [.j,.ptr 0 0 0,.j] [.st [.j,.i .u32,.l Zc7]]),[⟨.ret,(Zsg [4] [.j] [])⟩,⟨.exit 0,(Zsg [] [] [])⟩],Yg4 lo⟩
def YvW(lo:Lo):LL:=(YvV lo,.loop q62_L3_b.er)::[]
theorem YvX(lo:Lo):Lk lo pf (fs62 lo) 0 (YvW lo):=.l .n (YeM lo)
def q62(lo:Lo)(m0_0:Int)(m0_1:Int)(m0_2:List (Int×Zt0))(id1:Int):Option Int:=
  YCV (Yg4 lo (id1,(0:Int),m0_0,m0_1,m0_2)) fun y211=>alt2 y211 (fun y212=>some y212) (fun y213=>some (-1:Int))
def YvY:VFn:=⟨true,22,[.t 4],
 (Rg [oG 2 0,oK 4 0]
 (.seq (Rg [oK 5 0]
 (.blk 0 (.loop 3 q62_L3_b)))
 (Rg [oK 4 (-1)]
 (Fr 4))))⟩
def YmQ(lo:Lo):FnE:=Zfe 354 true (Zsg [0,1] [.ag [.j,.i .u32,.l Zc7],.j] []) (.i .i64) [] (fun x=>q62 lo x.1 x.2.1 x.2.2.1 x.2.2.2:Int×Int×Zt5×Int->Option Int)
noncomputable def fs63(lo:Lo):List FnE:=YmQ lo::fs62 lo
theorem YvZ(h:GZ P fm fs62 lo)(t:Ti P fm 354 YvY):GZ P fm fs63 lo:=
  h.p (YmQ lo) (YvX lo) t
def q63(lo:Lo)(m0_0:Int)(m0_1:Int)(m0_2:List (Int×Zt0))(id1:Int):Option (Int×Int×Zt5×Int):=
  YCV (q62 lo m0_0 m0_1 m0_2 id1) fun y214=>bif(decide (y214<0))then(some (m0_0,m0_1,m0_2,(4:Int)))else(chk (0<=(0:Int)/\0<=y214/\y214<=(m0_2.length:Int)) (chk (((m0_2.take y214.toNat).drop 0).length<=maxEl) (chk (0<=(YDf .i64 (y214+1))/\ (YDf .i64 (y214+1))<=(m0_2.length:Int)/\ (m0_2.length:Int)<=(m0_2.length:Int)) (chk (((m0_2.take y214.toNat).drop 0).length+((m0_2.take (m0_2.length:Int).toNat).drop (YDf .i64 (y214+1)).toNat).length<=maxEl) (some (m0_0,m0_1,(((m0_2.take y214.toNat).drop 0)++((m0_2.take (m0_2.length:Int).toNat).drop (YDf .i64 (y214+1)).toNat)),(0:Int)))))))
def Yv0:VFn:=⟨true,27,[.c 4 true 3,.t 5],
 (Rg [oG 2 0,o 4 (.alloc [.i .i64 0,.i .u32 0,.e Zc7]),oK 5 0]
 (Rg [oT 7 3 2,oM 8 1,oC 9 354 [7,8],oM 6 9]
 (.seq (Rg [oM 10 6,oR 11 .lss 10 (k 0)]
 (.cond 11 (Rg [oT 12 3 2,oS 3 4 12,oK 5 4]
 (.fz [4,5] .ret))
 .skip))
 (Rg [o 13 (.bsl Zc7 0 []),oF 14 2 2,oL 15 14,oM 16 6,o 17 (.slcR 2 15 none (some 16)),⟨some 18,.app Zc7 0 13 17,none,false,true⟩,oF 19 2 2,⟨some 20,.load false 1 19,none,true,false⟩,oM 21 6,oR 22 .add 21 (k 1),o 23 (.slcR 2 20 (some 22) none),o 24 (.app Zc7 0 18 23),oF 25 2 2,oS 1 25 24]
 (Rg [oT 26 3 2,oS 3 4 26,oK 5 0]
 (.fz [4,5] .ret))))))⟩
def YmR(lo:Lo):FnE:=Zfe 359 true (Zsg [0,1] [.ag [.j,.i .u32,.l Zc7],.j] []) (.tp [.ag [.j,.i .u32,.l Zc7],.j]) [] (fun x=>q63 lo x.1 x.2.1 x.2.2.1 x.2.2.2:Int×Int×Zt5×Int->Option (Int×Int×Zt5×Int))
noncomputable def fs64(lo:Lo):List FnE:=YmR lo::fs63 lo
theorem Yv1(h:GZ P fm fs63 lo)(t:Ti P fm 359 Yv0):GZ P fm fs64 lo:=
  h.p (YmR lo) .n t
def q64(lo:Lo)(code0:Int):Option (Int×Int×ByteArray):=
  chk ((12:Int)≠0) (bif(decide ((code0.tmod (12:Int))=(0:Int)))then(some ((1:Int),(0:Int),(YDe #[])))else(bif(decide ((code0.tmod (12:Int))=(1:Int)))then(some ((1:Int),(1:Int),(YDe #[])))else(bif(decide ((code0.tmod (12:Int))=(2:Int)))then(some ((1:Int),(2:Int),(YDe #[])))else(bif(decide ((code0.tmod (12:Int))=(3:Int)))then(some Zd1)else(bif(decide ((code0.tmod (12:Int))=(4:Int)))then(some ((2:Int),(0:Int),(YDe #[97])))else(bif(decide ((code0.tmod (12:Int))=(5:Int)))then(some ((2:Int),(0:Int),(YDe #[98])))else(bif(decide ((code0.tmod (12:Int))=(6:Int)))then(some ((2:Int),(0:Int),(YDe #[])))else(bif(decide ((code0.tmod (12:Int))=(7:Int)))then(some ((3:Int),(1:Int),(YDe #[])))else(bif(decide ((code0.tmod (12:Int))=(8:Int)))then(some ((1:Int),(-1:Int),(YDe #[])))else(bif(decide ((code0.tmod (12:Int))=(9:Int)))then(some ((2:Int),(0:Int),(YDe #[97,98])))else(bif(decide ((code0.tmod (12:Int))=(10:Int)))then(some ((3:Int),(2:Int),(YDe #[])))else(some ((1:Int),(7:Int),(YDe #[]))))))))))))))
def Yv2:VFn:=⟨true,39,[.c 2 true 3],
 (Rg [o 2 (.alloc [.i .i64 0,.i .i64 0,.s (⟨#[]⟩)])]
 (.seq (Rg [oM 3 0,oR 4 .rem 3 (ki .u8 12)]
 (.blk 0 (Rg [oR 6 .eql 4 (ki .u8 0),oM 5 6]
 (.cond 5 (Rg [o 7 (.build [.i .i64 0,.i .i64 0,.s (⟨#[]⟩)] [(0,1,(k 1))]),oS 3 2 7]
 (Fr 2))
 (Rg [oR 9 .eql 4 (ki .u8 1),oM 8 9]
 (.cond 8 (Rg [o 10 (.build [.i .i64 0,.i .i64 0,.s (⟨#[]⟩)] [(0,1,(k 1)),(1,1,(k 1))]),oS 3 2 10]
 (Fr 2))
 (Rg [oR 12 .eql 4 (ki .u8 2),oM 11 12]
 (.cond 11 (Rg [o 13 (.build [.i .i64 0,.i .i64 0,.s (⟨#[]⟩)] [(0,1,(k 1)),(1,1,(k 2))]),oS 3 2 13]
 (Fr 2))
 (Rg [oR 15 .eql 4 (ki .u8 3),oM 14 15]
 (.cond 14 (Rg [o 16 (.build [.i .i64 0,.i .i64 0,.s (⟨#[]⟩)] []),oS 3 2 16]
 (Fr 2))
 (Rg [oR 18 .eql 4 (ki .u8 4),oM 17 18]
 (.cond 17 (Rg [o 19 (.build [.i .i64 0,.i .i64 0,.s (⟨#[]⟩)] [(0,1,(k 2)),(2,1,(ks (⟨#[97]⟩)))]),oS 3 2 19]
 (Fr 2))
 (Rg [oR 21 .eql 4 (ki .u8 5),oM 20 21]
 (.cond 20 (Rg [o 22 (.build [.i .i64 0,.i .i64 0,.s (⟨#[]⟩)] [(0,1,(k 2)),(2,1,(ks (⟨#[98]⟩)))]),oS 3 2 22]
 (Fr 2))
 (Rg [oR 24 .eql 4 (ki .u8 6),oM 23 24]
 (.cond 23 (Rg [o 25 (.build [.i .i64 0,.i .i64 0,.s (⟨#[]⟩)] [(0,1,(k 2))]),oS 3 2 25]
 (Fr 2))
 (Rg [oR 27 .eql 4 (ki .u8 7),oM 26 27]
 (.cond 26 (Rg [o 28 (.build [.i .i64 0,.i .i64 0,.s (⟨#[]⟩)] [(0,1,(k 3)),(1,1,(k 1))]),oS 3 2 28]
 (Fr 2))
 (Rg [oR 30 .eql 4 (ki .u8 8),oM 29 30]
 (.cond 29 (Rg [o 31 (.build [.i .i64 0,.i .i64 0,.s (⟨#[]⟩)] [(0,1,(k 1)),(1,1,(k (-1)))]),oS 3 2 31]
 (Fr 2))
 (Rg [oR 33 .eql 4 (ki .u8 9),oM 32 33]
 (.cond 32 (Rg [o 34 (.build [.i .i64 0,.i .i64 0,.s (⟨#[]⟩)] [(0,1,(k 2)),(2,1,(ks (⟨#[97,98]⟩)))]),oS 3 2 34]
 (Fr 2))
 (Rg [oR 36 .eql 4 (ki .u8 10),oM 35 36]
 (.cond 35 (Rg [o 37 (.build [.i .i64 0,.i .i64 0,.s (⟨#[]⟩)] [(0,1,(k 3)),(1,1,(k 2))]),oS 3 2 37]
 (Fr 2))
 .skip))))))))))))))))))))))))
 (Rg [o 38 (.build [.i .i64 0,.i .i64 0,.s (⟨#[]⟩)] [(0,1,(k 1)),(1,1,(k 7))]),oS 3 2 38]
 (Fr 2))))⟩
def YmS(lo:Lo):FnE:=Zfe 251 true (Zsg [0] [.i .u8] []) (.ag [.j,.j,.s]) [] (fun x=>q64 lo x:Int->Option (Int×Int×ByteArray))
noncomputable def fs65(lo:Lo):List FnE:=YmS lo::fs64 lo
theorem Yv3(h:GZ P fm fs64 lo)(t:Ti P fm 251 Yv2):GZ P fm fs65 lo:=
  h.p (YmS lo) .n t
def q65_L3_b:VCode:=
 (.seq (Rg [oM 5 4,oM 6 0,oN 7 6,oR 8 .lss 5 7]
 (Ce 8 0))
 (.seq (.blk 1 (.reg [oM 11 3,oM 12 0,oM 13 4,oI 14 1 12 13,oL 15 14,oC 16 251 [15],o 17 (.bsl Zc3 1 [(0,16)]),o 18 (.app Zc3 0 11 17),oM 3 18]))
 (.reg [oM 9 4,oR 10 .add 9 (k 1),oM 4 10])))
def YeN(lo:Lo):(List Int)×Int×Zt0->Option (((List Int)×Int×Zt0)⊕ ((Zt0))):=fun x=>match x with
  | (codes0,i4,out3)=>bif(decide (i4< (codes0.length:Int)))then(chk (0<=i4/\i4< (codes0.length:Int)) (YCV (q64 lo (codes0.getD i4.toNat (0:Int))) fun y216=>chk (out3.length+[y216].length<=maxEl) (some (.inl (codes0,(YDf .i64 (i4+1)),(out3++[y216]))))))else(some (.inr out3))
def Yg5(lo:Lo):(List Int)×Int×Zt0->Option ((Zt0)):=lo.run (YeN lo)
def Yv4(lo:Lo):LpE:=⟨3,[(3,none,false)],(Zsg [0,3,4] [.l (cs [.i .u8]),.ref 0,.j] [.sq Zc3]),[⟨.exit 0,(Zsg [3] [.ref 0] [.sq Zc3])⟩],Yg5 lo⟩
def Yv5(lo:Lo):LL:=(Yv4 lo,.loop q65_L3_b.er)::[]
theorem Yv6(lo:Lo):Lk lo pf (fs65 lo) 0 (Yv5 lo):=.l .n (YeN lo)
def q65(lo:Lo)(codes0:List Int):Option (Zt0):=
  YCV (Yg5 lo (codes0,(0:Int),[])) fun y217=>some y217
def Yv7:VFn:=⟨true,20,[.t 2],
 (Rg [o 2 (.mv (ke Zc3))]
 (Rg [o 3 (.mv (ke Zc3))]
 (.seq (Rg [oK 4 0]
 (.blk 0 (.loop 3 q65_L3_b)))
 (Rg [oM 19 3,oM 2 19]
 (Fr 2)))))⟩
def YmT(lo:Lo):FnE:=Zfe 355 true (Zsg [0] [.l (cs [.i .u8])] []) (.l Zc3) [] (fun x=>q65 lo x:(List Int)->Option (Zt0))
noncomputable def fs66(lo:Lo):List FnE:=YmT lo::fs65 lo
theorem Yv8(h:GZ P fm fs65 lo)(t:Ti P fm 355 Yv7):GZ P fm fs66 lo:=
  h.p (YmT lo) (Yv6 lo) t
def q66(lo:Lo)(o0_0:Bool)(o0_1:Int)(o0_2:List Int):Option (Int×Zt0):=
  YCV (q65 lo o0_2) fun y218=>some ((YDf .i64 o0_1),y218)
def Yv9:VFn:=⟨true,10,[.c 2 true 2],
 (Rg [oG 1 0,o 2 (.alloc [.i .i64 0,.e Zc3])]
 (Rg [oF 3 1 1,oL 4 3,o 5 (.conv .i64 4),oF 6 2 1,oL 7 6,oC 8 355 [7],o 9 (.build [.i .i64 0,.e Zc3] [(0,1,5),(1,1,8)]),oS 2 2 9]
 (Fr 2)))⟩
def YmU(lo:Lo):FnE:=Zfe 344 true (Zsg [0] [.ag [.b,.i .i8,.l (cs [.i .u8])]] []) (.ag [.j,.l Zc3]) [] (fun x=>q66 lo x.1 x.2.1 x.2.2:Bool×Int× (List Int)->Option (Int×Zt0))
noncomputable def fs67(lo:Lo):List FnE:=YmU lo::fs66 lo
theorem Ywa(h:GZ P fm fs66 lo)(t:Ti P fm 344 Yv9):GZ P fm fs67 lo:=
  h.p (YmU lo) .n t
def q67(lo:Lo)(v0_0:Int)(v0_1:Int)(v0_2:ByteArray):Option Bool:=
  bif(decide (v0_0=0))then(bif(decide (v0_1=0))then(some (decide (v0_2=(YDe #[]))))else(some false))else(bif(decide (v0_0=1))then(some (decide (v0_2=(YDe #[]))))else(bif(decide (v0_0=2))then(bif(decide (v0_1=0))then(some (decide ((v0_2.size:Int)<=200)))else(some false))else(bif(decide (v0_0=3))then(bif(decide (1<=v0_1))then(some (decide (v0_2=(YDe #[]))))else(some false))else(some false))))
def Ywb:VFn:=⟨true,44,[.t 2],
 (Rg [oG 1 0,oB 2 false]
 (.seq (Rg [oF 3 0 1,oL 4 3]
 (.blk 0 (Rg [oR 6 .eql 4 (k 0),oM 5 6]
 (.cond 5 (Rg [oF 7 1 1,oL 8 7,oR 9 .eql 8 (k 0),oM 10 9,gT 11 10 (.fad 2 1),gT 12 10 (.load false 1 11),gT 13 10 (.bin .eql 12 (ks (⟨#[]⟩))),oP 14 10 13 (kb false),oM 2 14]
 (Fr 2))
 (Rg [oR 16 .eql 4 (k 1),oM 15 16]
 (.cond 15 (Rg [oF 17 2 1,oL 18 17,oR 19 .eql 18 (ks (⟨#[]⟩)),oM 2 19]
 (Fr 2))
 (Rg [oR 21 .eql 4 (k 2),oM 20 21]
 (.cond 20 (Rg [oF 22 1 1,oL 23 22,oR 24 .eql 23 (k 0),oM 25 24,gT 26 25 (.fad 2 1),gT 27 25 (.load false 1 26),gT 28 25 (.lenS 27),gT 29 25 (.bin .leq 28 (k 200)),oP 30 25 29 (kb false),oM 2 30]
 (Fr 2))
 .skip))))))))
 (Rg [oF 31 0 1,oL 32 31,oR 33 .eql 32 (k 3),oM 34 33,gT 35 34 (.fad 1 1),gT 36 34 (.load false 1 35),gT 37 34 (.bin .geq 36 (k 1)),oP 38 34 37 (kb false),oM 39 38,gT 40 39 (.fad 2 1),gT 41 39 (.load false 1 40),gT 42 39 (.bin .eql 41 (ks (⟨#[]⟩))),oP 43 39 42 (kb false),oM 2 43]
 (Fr 2))))⟩
def YmV(lo:Lo):FnE:=Zfe 284 true (Zsg [0] [.ag [.j,.j,.s]] []) .b [] (fun x=>q67 lo x.1 x.2.1 x.2.2:Int×Int×ByteArray->Option Bool)
noncomputable def fs68(lo:Lo):List FnE:=YmV lo::fs67 lo
theorem Ywc(h:GZ P fm fs67 lo)(t:Ti P fm 284 Ywb):GZ P fm fs68 lo:=
  h.p (YmV lo) .n t
def q68_L3_b:VCode:=
 (.seq (Rg [oM 4 3,oM 5 0,oN 6 5,oR 7 .lss 4 6]
 (Ce 7 0))
 (.seq (.blk 1 (Rg [oM 10 0,oM 11 3,oI 12 3 10 11,oT 13 3 12,oC 14 284 [13],oX 15 14]
 (.cond 15 (Rg [oB 2 false]
 (Fr 2))
 .skip)))
 (.reg [oM 8 3,oR 9 .add 8 (k 1),oM 3 9])))
def YeO(lo:Lo):Zt0×Int->Option ((Zt0×Int)⊕ (Bool⊕Unit)):=fun x=>match x with
  | (l0,i3)=>bif(decide (i3< (l0.length:Int)))then(chk (0<=i3/\i3< (l0.length:Int)) (YCV (q67 lo ((l0.getD i3.toNat Zd1).1) ((l0.getD i3.toNat Zd1).2.1) ((l0.getD i3.toNat Zd1).2.2)) fun y222=>bif(!y222)then(some (.inr (.inl false)))else(some (.inl (l0,(YDf .i64 (i3+1)))))))else(some (.inr (.inr ())))
def Yg6(lo:Lo):Zt0×Int->Option (Bool⊕Unit):=lo.run (YeO lo)
def Ywd(lo:Lo):LpE:=⟨3,[],(Zsg [0,3] [.l Zc3,.j] []),[⟨.ret,(Zsg [2] [.b] [])⟩,⟨.exit 0,(Zsg [] [] [])⟩],Yg6 lo⟩
def Ywe(lo:Lo):LL:=(Ywd lo,.loop q68_L3_b.er)::[]
theorem Ywf(lo:Lo):Lk lo pf (fs68 lo) 0 (Ywe lo):=.l .n (YeO lo)
def q68(lo:Lo)(l0:List (Int×Int×ByteArray)):Option Bool:=
  YCV (Yg6 lo (l0,(0:Int))) fun y223=>alt2 y223 (fun y224=>some y224) (fun y225=>some true)
def Ywg:VFn:=⟨true,16,[.t 2],
 (Rg [oB 2 false]
 (.seq (Rg [oK 3 0]
 (.blk 0 (.loop 3 q68_L3_b)))
 (Rg [oB 2 true]
 (Fr 2))))⟩
def YmW(lo:Lo):FnE:=Zfe 260 true (Zsg [0] [.l Zc3] []) .b [] (fun x=>q68 lo x:Zt0->Option Bool)
noncomputable def fs69(lo:Lo):List FnE:=YmW lo::fs68 lo
theorem Ywh(h:GZ P fm fs68 lo)(t:Ti P fm 260 Ywg):GZ P fm fs69 lo:=
  h.p (YmW lo) (Ywf lo) t
def q69_L3_b:VCode:=
 (.seq (Rg [oM 42 6,oR 43 .gtr 42 (k 0),oM 44 43,gT 45 44 (.fad 2 2),gT 46 44 (.load false 1 45),gT 47 44 (.mv 6),gT 48 44 (.iad 2 46 47),gT 49 44 (.fad 0 48),gT 50 44 (.load false 1 49),gT 51 44 (.fad 2 2),gT 52 44 (.load false 1 51),gT 53 44 (.mv 6),gT 54 44 (.bin .sub 53 (k 1)),gT 55 44 (.iad 2 52 54),gT 56 44 (.fad 0 55),gT 57 44 (.load false 1 56),gT 58 44 (.bin .lss 50 57),oP 59 44 58 (kb false)]
 (Ce 59 0))
 (.seq (.blk 1 (.regN [3000002] [oF 62 2 2,oL 63 62,oM 64 6,oF 65 2 2,⟨some 66,.load false 1 65,none,true,false⟩,oM 67 6,oR 68 .sub 67 (k 1),oF 69 2 2,oL 70 69,oM 71 6,oR 72 .sub 71 (k 1),oI 73 2 70 72,oT 74 2 73,oF 75 2 2,oL 76 75,oM 77 6,oI 78 2 76 77,oT 79 2 78,oI 80 2 63 64,⟨none,.store 2 80 74,none,false,true⟩,oI 81 2 66 68,oS 2 81 79]))
 (.reg [oM 60 6,oR 61 .sub 60 (k 1),oM 6 61])))
def YeP(lo:Lo):Zp33->Option (Zp33⊕ ((Int×Int×Int×Int×Zt5×Zt5))):=fun x=>match x with
  | (k6,m2_0,m2_1,v4_0,v4_1,v4_2,h2)=>bif(decide (0<k6))then(chk (0<=k6/\k6< (h2.length:Int)) (chk (0<=(YDf .i64 (k6-1))/\ (YDf .i64 (k6-1))< (h2.length:Int)) (bif(decide ((h2.getD k6.toNat ((0:Int),[])).1< (h2.getD ((YDf .i64 (k6-1)).toNat) ((0:Int),[])).1))then(chk (0<=(YDf .i64 (k6-1))/\ (YDf .i64 (k6-1))< (h2.length:Int)) (chk (0<=k6/\k6< (h2.length:Int)) (chk (0<=k6/\k6< (h2.length:Int)) (chk (0<=(YDf .i64 (k6-1))/\ (YDf .i64 (k6-1))< ((h2.set k6.toNat (h2.getD ((YDf .i64 (k6-1)).toNat) ((0:Int),[]))).length:Int)) (some (.inl ((YDf .i64 (k6-1)),m2_0,m2_1,v4_0,v4_1,v4_2,((h2.set k6.toNat (h2.getD ((YDf .i64 (k6-1)).toNat) ((0:Int),[]))).set ((YDf .i64 (k6-1)).toNat) (h2.getD k6.toNat ((0:Int),[]))))))))))else(some (.inr (m2_0,m2_1,v4_0,v4_1,v4_2,h2))))))else(some (.inr (m2_0,m2_1,v4_0,v4_1,v4_2,h2)))
def Yg7(lo:Lo):Zp33->Option ((Int×Int×Int×Int×Zt5×Zt5)):=lo.run (YeP lo)
def Ywi(lo:Lo):LpE:=⟨3,[(2,some 2,false)],(Zsg [2,4,6] [.ptr 0 0 0,.ptr 1 0 0,.j] [.st [.j,.i .u32,.ref 2],.st [.j,.i .u32,.l Zc7],.sq Zc7]),[⟨.exit 0,(Zsg [2,4] [.ptr 0 0 0,.ptr 1 0 0] [.st [.j,.i .u32,.ref 2],.st [.j,.i .u32,.l Zc7],.sq Zc7])⟩],Yg7 lo⟩
def Ywj(lo:Lo):LL:=(Ywi lo,.loop q69_L3_b.er)::[]
theorem Ywk(lo:Lo):Lk lo pf (fs69 lo) 0 (Ywj lo):=.l .n (YeP lo)
def q69(lo:Lo)(m0_0:Int)(m0_1:Int)(m0_2:List (Int×Zt0))(r1_0:Int)(r1_1:List (Int×Int×ByteArray)):Option (Int×Int×Zt5×Int):=
  bif(!decide ((r1_1.length:Int)=m0_0))then(some (m0_0,m0_1,m0_2,(6:Int)))else(bif(decide (r1_0<=0))then(some (m0_0,m0_1,m0_2,(1:Int)))else(YCV (q68 lo r1_1) fun y226=>bif(!y226)then(some (m0_0,m0_1,m0_2,(1:Int)))else(YCV (q62 lo m0_0 m0_1 m0_2 r1_0) fun y227=>bif(decide (0<=y227))then(some (m0_0,m0_1,m0_2,(5:Int)))else(chk (m0_2.length<=maxEl) (chk (m0_2.length+([(r1_0,r1_1)]).length<=maxEl) (YCV (Yg7 lo ((YDf .i64 (((m0_2++([(r1_0,r1_1)])).length:Int)-(1:Int))),m0_0,m0_1,(0:Int),(0:Int),([]:List (Int×Zt0)),(m0_2++([(r1_0,r1_1)])))) fun y228=>some (y228.1,y228.2.1,y228.2.2.2.2.2,(0:Int))))))))
def Ywl:VFn:=⟨true,83,[.c 4 true 3,.t 5],
 (Rg [oG 2 0,oG 3 1,o 4 (.alloc [.i .i64 0,.i .u32 0,.e Zc7]),oK 5 0]
 (.seq (Rg [oF 7 1 3,oL 8 7,oN 9 8,oF 10 0 2,oL 11 10,oR 12 .neq 9 11]
 (.cond 12 (Rg [oT 13 3 2,oS 3 4 13,oK 5 6]
 (.fz [4,5] .ret))
 .skip))
 (.seq (Rg [oF 14 0 3,oL 15 14,oR 16 .leq 15 (k 0),oM 17 16,gF 18 17 (.fad 1 3),gF 19 17 (.load false 1 18),gF 20 17 (.call 260 [19]),gF 21 17 (.not 20),oP 22 17 (kb true) 21]
 (.cond 22 (Rg [oT 23 3 2,oS 3 4 23,oK 5 1]
 (.fz [4,5] .ret))
 .skip))
 (.seq (Rg [oT 24 3 2,oF 25 0 3,oL 26 25,oC 27 354 [24,26],oR 28 .geq 27 (k 0)]
 (.cond 28 (Rg [oT 29 3 2,oS 3 4 29,oK 5 5]
 (.fz [4,5] .ret))
 .skip))
 (Rg [o 30 (.bsl Zc7 0 []),oF 31 2 2,oL 32 31,⟨some 33,.app Zc7 0 30 32,none,false,true⟩,⟨some 34,.load true 2 3,none,true,false⟩,o 35 (.bsl Zc7 1 [(0,34)]),o 36 (.app Zc7 0 33 35),oF 37 2 2,oS 1 37 36]
 (.seq (Rg [oF 38 2 2,oL 39 38,oN 40 39,oR 41 .sub 40 (k 1),oM 6 41]
 (.blk 0 (.loop 3 q69_L3_b)))
 (Rg [oT 82 3 2,oS 3 4 82,oK 5 0]
 (.fz [4,5] .ret))))))))⟩
def YmX(lo:Lo):FnE:=Zfe 350 true (Zsg [0,1] [.ag [.j,.i .u32,.l Zc7],.ag [.j,.l Zc3]] []) (.tp [.ag [.j,.i .u32,.l Zc7],.j]) [] (fun x=>q69 lo x.1 x.2.1 x.2.2.1 x.2.2.2.1 x.2.2.2.2:Int×Int×Zt5×Int×Zt0->Option (Int×Int×Zt5×Int))
noncomputable def fs70(lo:Lo):List FnE:=YmX lo::fs69 lo
theorem Ywm(h:GZ P fm fs69 lo)(t:Ti P fm 350 Ywl):GZ P fm fs70 lo:=
  h.p (YmX lo) (Ywk lo) t
def q70_L3_b:VCode:=
 (Rg [oR 14 .lss 13 12]
 (.seq (Ce 14 0)
 (.seq (.blk 1 (Rg [oI 15 3 11 13,oT 16 3 15,o 8 (.alloc [.b false,.i .i8 0,.e (cs [.i .u8])]),oS 3 8 16]
 (Rg [oK 9 0,oK 10 0]
 (.seq (Rg [oF 17 0 8,oL 18 17]
 (.cond 18 (Rg [oM 19 0,oF 20 1 8,oL 21 20,o 22 (.conv .i64 21),oC 23 345 [19,22],oM 9 23]
 (.reg [oM 25 1,oM 26 1,o 27 (.nilc 26),oT 28 3 27,oF 29 1 8,oL 30 29,o 31 (.conv .i64 30),oC 32 359 [28,31],oM 24 32,oE 33 24 0,oE 34 24 1,o 35 (.nilc 25),oS 3 35 33,oM 10 34]))
 (Rg [oM 36 0,oT 37 3 8,oC 38 344 [37],oC 39 343 [36,38],oM 9 39]
 (.reg [oM 41 1,oM 42 1,o 43 (.nilc 42),oT 44 3 43,oT 45 3 8,oC 46 344 [45],oC 47 350 [44,46],oM 40 47,oE 48 40 0,oE 49 40 1,o 50 (.nilc 41),oS 3 50 48,oM 10 49]))))
 (Rg [oM 51 9,oM 52 10,oR 53 .neq 51 52]
 (.cond 53 (Rg [oB 6 false]
 .ret)
 .skip))))))
 (.reg [oR 54 .add 13 (k 1),oM 13 54]))))
def YbX(lo:Lo):Zp18->Option (Zp18⊕ ((Bool×Int×Int×Int×Int×Zt5×Int×Zt2×Bool×Bool×Int×Zt1)⊕ (Int×Int×Int×Int×Zt5×Int×Zt2×Bool×Bool×Int×Zt1))):=fun x=>match x with
  | (v11,v12,v13,x0_0,x0_1,m1_0,m1_1,m1_2,h2_0,h2_1,h2_2,h2_3,h3_0,h3_1)=>bif(decide (v13<v12))then(chk (0<=v13/\v13< (v11.length:Int)) (bif(v11.getD v13.toNat (false,(0:Int),[])).1 then(YCV (q54 lo (YDf .i64 ((v11.getD v13.toNat (false,(0:Int),[])).2.1)) x0_0 x0_1 h2_0 h2_1 h2_2 h2_3 h3_0 h3_1) fun y210=>YCV (q63 lo m1_0 m1_1 m1_2 (YDf .i64 ((v11.getD v13.toNat (false,(0:Int),[])).2.1))) fun y215=>bif(!decide (y210.1=y215.2.2.2))then(some (.inr (.inl (false,y210.2.1,y210.2.2.1,y215.1,y215.2.1,y215.2.2.1,y210.2.2.2.1,y210.2.2.2.2.1,y210.2.2.2.2.2.1,y210.2.2.2.2.2.2.1,y210.2.2.2.2.2.2.2.1,y210.2.2.2.2.2.2.2.2))))else(some (.inl (v11,v12,(YDf .i64 (v13+1)),y210.2.1,y210.2.2.1,y215.1,y215.2.1,y215.2.2.1,y210.2.2.2.1,y210.2.2.2.2.1,y210.2.2.2.2.2.1,y210.2.2.2.2.2.2.1,y210.2.2.2.2.2.2.2.1,y210.2.2.2.2.2.2.2.2))))else(YCV (q66 lo ((v11.getD v13.toNat (false,(0:Int),[])).1) ((v11.getD v13.toNat (false,(0:Int),[])).2.1) ((v11.getD v13.toNat (false,(0:Int),[])).2.2)) fun y219=>YCV (q21 lo y219.1 y219.2 x0_0 x0_1 h2_0 h2_1 h2_2 h2_3 h3_0 h3_1) fun y220=>YCV (q66 lo ((v11.getD v13.toNat (false,(0:Int),[])).1) ((v11.getD v13.toNat (false,(0:Int),[])).2.1) ((v11.getD v13.toNat (false,(0:Int),[])).2.2)) fun y221=>YCV (q69 lo m1_0 m1_1 m1_2 y221.1 y221.2) fun y229=>bif(!decide (y220.1=y229.2.2.2))then(some (.inr (.inl (false,y220.2.1,y220.2.2.1,y229.1,y229.2.1,y229.2.2.1,y220.2.2.2.1,y220.2.2.2.2.1,y220.2.2.2.2.2.1,y220.2.2.2.2.2.2.1,y220.2.2.2.2.2.2.2.1,y220.2.2.2.2.2.2.2.2))))else(some (.inl (v11,v12,(YDf .i64 (v13+1)),y220.2.1,y220.2.2.1,y229.1,y229.2.1,y229.2.2.1,y220.2.2.2.1,y220.2.2.2.2.1,y220.2.2.2.2.2.1,y220.2.2.2.2.2.2.1,y220.2.2.2.2.2.2.2.1,y220.2.2.2.2.2.2.2.2))))))else(some (.inr (.inr (x0_0,x0_1,m1_0,m1_1,m1_2,h2_0,h2_1,h2_2,h2_3,h3_0,h3_1))))
def YeQ(lo:Lo):Zp18->Option ((Bool×Int×Int×Int×Int×Zt5×Int×Zt2×Bool×Bool×Int×Zt1)⊕ (Int×Int×Int×Int×Zt5×Int×Zt2×Bool×Bool×Int×Zt1)):=lo.run (YbX lo)
def Ywn(lo:Lo):LpE:=⟨3,[],(Zsg [0,1,11,12,13] [.ptr 0 0 0,.ptr 1 0 0,.l (cs [.b,.i .i8,.l (cs [.i .u8])]),.j,.j] [.st [.j,.i .u32,.np 2,.np 3],.st [.j,.i .u32,.l Zc7],.st [.j,.l Zc6,.b,.b],.fp none (cs [I])]),[⟨.ret,(Zsg [6,0,1] [.b,.ptr 0 0 0,.ptr 1 0 0] [.st [.j,.i .u32,.np 2,.np 3],.st [.j,.i .u32,.l Zc7],.st [.j,.l Zc6,.b,.b],.fp none (cs [I])])⟩,⟨.exit 0,(Zsg [0,1] [.ptr 0 0 0,.ptr 1 0 0] [.st [.j,.i .u32,.np 2,.np 3],.st [.j,.i .u32,.l Zc7],.st [.j,.l Zc6,.b,.b],.fp none (cs [I])])⟩],YeQ lo⟩
def Ywo(lo:Lo):LL:=(Ywn lo,.loop q70_L3_b.er)::[]
theorem Ywp(lo:Lo):Lk lo pf (fs70 lo) 4 (Ywo lo):=.l .n (YbX lo)
def q70(lo:Lo)(l2:List (Bool×Int× (List Int)))(x0_0:Int)(x0_1:Int)(m1_0:Int)(m1_1:Int)(m1_2:List (Int×Zt0))(h2_0:Int)(h2_1:List (Int×Int×Int×Zt0))(h2_2:Bool)(h2_3:Bool)(h3_0:Int)(h3_1:List (Int×ByteArray× (List Int))):Option (Bool×Int×Int×Int×Int×Zt5×Int×Zt2×Bool×Bool×Int×Zt1):=
  YCV (YeQ lo (l2,(l2.length:Int),(0:Int),x0_0,x0_1,m1_0,m1_1,m1_2,h2_0,h2_1,h2_2,h2_3,h3_0,h3_1)) fun y230=>alt2 y230 (fun y231=>some (y231.1,y231.2.1,y231.2.2.1,y231.2.2.2.1,y231.2.2.2.2.1,y231.2.2.2.2.2.1,y231.2.2.2.2.2.2.1,y231.2.2.2.2.2.2.2.1,y231.2.2.2.2.2.2.2.2.1,y231.2.2.2.2.2.2.2.2.2.1,y231.2.2.2.2.2.2.2.2.2.2.1,y231.2.2.2.2.2.2.2.2.2.2.2)) (fun y232=>some (true,y232.1,y232.2.1,y232.2.2.1,y232.2.2.2.1,y232.2.2.2.2.1,y232.2.2.2.2.2.1,y232.2.2.2.2.2.2.1,y232.2.2.2.2.2.2.2.1,y232.2.2.2.2.2.2.2.2.1,y232.2.2.2.2.2.2.2.2.2.1,y232.2.2.2.2.2.2.2.2.2.2))
def Ywq:VFn:=⟨true,55,[.t 6],
 (Rg [oB 6 false]
 (.seq (Rg [oM 11 2,oN 12 11,oK 13 0]
 (.blk 0 (.loop 3 q70_L3_b)))
 (Rg [oB 6 true]
 .ret)))⟩
def YmY(lo:Lo):FnE:=Zfe 342 false (Zsg [0,1,2] [.ptr 0 0 0,.ptr 1 0 0,.l (cs [.b,.i .i8,.l (cs [.i .u8])])] [.st [.j,.i .u32,.np 2,.np 3],.st [.j,.i .u32,.l Zc7],.st [.j,.l Zc6,.b,.b],.fp none (cs [I])]) .b [.st [.j,.i .u32,.np 2,.np 3],.st [.j,.i .u32,.l Zc7],.st [.j,.l Zc6,.b,.b],.fp none (cs [I])] (fun x=>q70 lo x.1 x.2.1 x.2.2.1 x.2.2.2.1 x.2.2.2.2.1 x.2.2.2.2.2.1 x.2.2.2.2.2.2.1 x.2.2.2.2.2.2.2.1 x.2.2.2.2.2.2.2.2.1 x.2.2.2.2.2.2.2.2.2.1 x.2.2.2.2.2.2.2.2.2.2.1 x.2.2.2.2.2.2.2.2.2.2.2:Zt12×Int×Int×Int×Int×Zt5×Int×Zt2×Bool×Bool×Int×Zt1->Option (Bool×Int×Int×Int×Int×Zt5×Int×Zt2×Bool×Bool×Int×Zt1))
noncomputable def fs71(lo:Lo):List FnE:=YmY lo::fs70 lo
theorem Ywr(h:GZ P fm fs70 lo)(t:Ti P fm 342 Ywq):GZ P fm fs71 lo:=
  h.i (YmY lo) (Ywp lo) t
end Go.Abs.G3m
namespace Go.Abs.G3m
open Go Go.Abs
set_option maxRecDepth 100000
set_option maxHeartbeats 1000000
variable{P:Program}{fm:FM}{lo:Lo}
noncomputable def fs72(lo:Lo):List FnE:=fs71 lo
def q72(lo:Lo)(s0:Int)(i1:Int):Option Bool:=
  bif(decide (0<=i1))then(bif(decide (i1<32))then(chk (0<=i1) (some (decide ((bits .and .u32 (s0.fdiv (2^(min i1.toNat (IntKind.bits .u32)))) (1:Int))=(1:Int)))))else(some false))else(some false)
def Yws:VFn:=⟨true,18,[.t 4],
 (Rg [oB 4 false]
 (Rg [oM 5 1,oR 6 .geq 5 (k 0),oM 7 6,gT 8 7 (.mv 1),gT 9 7 (.bin .lss 8 (k 32)),oP 10 7 9 (kb false),oM 11 10,gT 12 11 (.mv 0),gT 13 11 (.mv 1),gT 14 11 (.bin .shr 12 13),gT 15 11 (.bin .and 14 (ki .u32 1)),gT 16 11 (.bin .eql 15 (ki .u32 1)),oP 17 11 16 (kb false),oM 4 17]
 (Fr 4)))⟩
def YmZ(lo:Lo):FnE:=Zfe 262 true (Zsg [0,1] [.i .u32,.j] []) .b [] (fun x=>q72 lo x.1 x.2:Int×Int->Option Bool)
noncomputable def fs73(lo:Lo):List FnE:=YmZ lo::fs72 lo
theorem Ywt(h:GZ P fm fs72 lo)(t:Ti P fm 262 Yws):GZ P fm fs73 lo:=
  h.p (YmZ lo) .n t
def q73_L3_b:VCode:=
 (.seq (Rg [oM 7 6,oF 8 1 2,oL 9 8,oN 10 9,oR 11 .lss 7 10]
 (Ce 11 0))
 (.seq (.blk 1 (Rg [oM 14 1,oM 15 6,oC 16 262 [14,15]]
 (.cond 16 (.reg [oM 17 5,oF 18 1 2,oL 19 18,oM 20 6,oI 21 3 19 20,oT 22 3 21,o 23 (.bsl Zc3 1 [(0,22)]),o 24 (.app Zc3 0 17 23),oM 5 24])
 .skip)))
 (.reg [oM 12 6,oR 13 .add 12 (k 1),oM 6 13])))
def YeR(lo:Lo):Int×Int×Int×Zt0×Zt0->Option ((Int×Int×Int×Zt0×Zt0)⊕ ((Zt0))):=fun x=>match x with
  | (s1,i6,r2_0,r2_1,out5)=>bif(decide (i6< (r2_1.length:Int)))then(YCV (q72 lo s1 i6) fun y266=>bif y266 then(chk (0<=i6/\i6< (r2_1.length:Int)) (chk (out5.length+([(r2_1.getD i6.toNat Zd1)]).length<=maxEl) (some (.inl (s1,(YDf .i64 (i6+1)),r2_0,r2_1,(out5++([(r2_1.getD i6.toNat Zd1)])))))))else(some (.inl (s1,(YDf .i64 (i6+1)),r2_0,r2_1,out5))))else(some (.inr out5))
def Yg8(lo:Lo):Int×Int×Int×Zt0×Zt0->Option ((Zt0)):=lo.run (YeR lo)
def Ywu(lo:Lo):LpE:=⟨3,[(5,none,false)],(Zsg [1,2,5,6] [.i .u32,.ptr 0 0 0,.ref 1,.j] [.st [.j,.l Zc3],.sq Zc3]),[⟨.exit 0,(Zsg [5] [.ref 0] [.sq Zc3])⟩],Yg8 lo⟩
def Ywv(lo:Lo):LL:=(Ywu lo,.loop q73_L3_b.er)::[]
theorem Yww(lo:Lo):Lk lo pf (fs73 lo) 0 (Ywv lo):=.l .n (YeR lo)
def q73(lo:Lo)(r0_0:Int)(r0_1:List (Int×Int×ByteArray))(s1:Int):Option (Zt0):=
  YCV (Yg8 lo (s1,(0:Int),r0_0,r0_1,[])) fun y267=>some y267
def Ywx:VFn:=⟨true,26,[.t 4],
 (Rg [oG 2 0,o 4 (.mv (ke Zc3))]
 (Rg [o 5 (.mv (ke Zc3))]
 (.seq (Rg [oK 6 0]
 (.blk 0 (.loop 3 q73_L3_b)))
 (Rg [oM 25 5,oM 4 25]
 (Fr 4)))))⟩
def Ym0(lo:Lo):FnE:=Zfe 263 true (Zsg [0,1] [.ag [.j,.l Zc3],.i .u32] []) (.l Zc3) [] (fun x=>q73 lo x.1 x.2.1 x.2.2:Int×Zt0×Int->Option (Zt0))
noncomputable def fs74(lo:Lo):List FnE:=Ym0 lo::fs73 lo
theorem Ywy(h:GZ P fm fs73 lo)(t:Ti P fm 263 Ywx):GZ P fm fs74 lo:=
  h.p (Ym0 lo) (Yww lo) t
def q74(lo:Lo)(a0:Int)(b1:Int):Option Int:=
  bif(decide (a0<b1))then(some (-1:Int))else(bif(decide (b1<a0))then(some (1:Int))else(some (0:Int)))
def Ywz:VFn:=⟨true,11,[.t 4],
 (Rg [oK 4 0]
 (.seq (Rg [oM 5 0,oM 6 1,oR 7 .lss 5 6]
 (.cond 7 (Rg [oK 4 (-1)]
 (Fr 4))
 .skip))
 (.seq (Rg [oM 8 0,oM 9 1,oR 10 .gtr 8 9]
 (.cond 10 (Rg [oK 4 1]
 (Fr 4))
 .skip))
 (Rg [oK 4 0]
 (Fr 4)))))⟩
def Ym1(lo:Lo):FnE:=Zfe 303 true (Zsg [0,1] [.j,.j] []) (.i .i64) [] (fun x=>q74 lo x.1 x.2:Int×Int->Option Int)
noncomputable def fs75(lo:Lo):List FnE:=Ym1 lo::fs74 lo
theorem YwA(h:GZ P fm fs74 lo)(t:Ti P fm 303 Ywz):GZ P fm fs75 lo:=
  h.p (Ym1 lo) .n t
def q75_L3_b:VCode:=
 (.seq (Rg [oM 6 5,oM 7 0,o 8 (.lenS 7),oR 9 .lss 6 8,oM 10 9,gT 11 10 (.mv 5),gT 12 10 (.mv 1),gT 13 10 (.lenS 12),gT 14 10 (.bin .lss 11 13),oP 15 10 14 (kb false)]
 (Ce 15 0))
 (.seq (.blk 1 (Rg [oM 18 0,oM 19 5,o 20 (.idx 18 19),oM 21 1,oM 22 5,o 23 (.idx 21 22),oR 24 .neq 20 23]
 (.cond 24 (Rg [oM 25 0,oM 26 5,o 27 (.idx 25 26),o 28 (.conv .i64 27),oM 29 1,oM 30 5,o 31 (.idx 29 30),o 32 (.conv .i64 31),oC 33 303 [28,32],oM 4 33]
 (Fr 4))
 .skip)))
 (.reg [oM 16 5,oR 17 .add 16 (k 1),oM 5 17])))
def Ydf(lo:Lo):ByteArray×ByteArray×Int->Option ((ByteArray×ByteArray×Int)⊕ (Int⊕ (ByteArray×ByteArray))):=fun x=>match x with
  | (a0,b1,i5)=>bif(decide (i5< (a0.size:Int)))then(bif(decide (i5< (b1.size:Int)))then(chk (0<=i5/\i5< (a0.size:Int)) (chk (0<=i5/\i5< (b1.size:Int)) (bif(!decide ((YyF a0 i5)=(YyF b1 i5)))then(chk (0<=i5/\i5< (a0.size:Int)) (chk (0<=i5/\i5< (b1.size:Int)) (YCV (q74 lo (YDf .i64 (YyF a0 i5)) (YDf .i64 (YyF b1 i5))) fun y272=>some (.inr (.inl y272)))))else(some (.inl (a0,b1,(YDf .i64 (i5+1))))))))else(some (.inr (.inr (a0,b1)))))else(some (.inr (.inr (a0,b1))))
def Yg9(lo:Lo):ByteArray×ByteArray×Int->Option (Int⊕ (ByteArray×ByteArray)):=lo.run (Ydf lo)
def YwB(lo:Lo):LpE:=⟨3,[],(Zsg [0,1,5] [.s,.s,.j] []),[⟨.ret,(Zsg [4] [.j] [])⟩,⟨.exit 0,(Zsg [0,1] [.s,.s] [])⟩],Yg9 lo⟩
def YwC(lo:Lo):LL:=(YwB lo,.loop q75_L3_b.er)::[]
theorem YwD(lo:Lo):Lk lo pf (fs75 lo) 0 (YwC lo):=.l .n (Ydf lo)
def q75(lo:Lo)(a0:ByteArray)(b1:ByteArray):Option Int:=
  YCV (Yg9 lo (a0,b1,(0:Int))) fun y273=>alt2 y273 (fun y274=>some y274) (fun y275=>YCV (q74 lo (y275.1.size:Int) (y275.2.size:Int)) fun y276=>some y276)
def YwE:VFn:=⟨true,39,[.t 4],
 (Rg [oK 4 0]
 (.seq (Rg [oK 5 0]
 (.blk 0 (.loop 3 q75_L3_b)))
 (Rg [oM 34 0,o 35 (.lenS 34),oM 36 1,o 37 (.lenS 36),oC 38 303 [35,37],oM 4 38]
 (Fr 4))))⟩
def Ym2(lo:Lo):FnE:=Zfe 320 true (Zsg [0,1] [.s,.s] []) (.i .i64) [] (fun x=>q75 lo x.1 x.2:ByteArray×ByteArray->Option Int)
noncomputable def fs76(lo:Lo):List FnE:=Ym2 lo::fs75 lo
theorem YwF(h:GZ P fm fs75 lo)(t:Ti P fm 320 YwE):GZ P fm fs76 lo:=
  h.p (Ym2 lo) (YwD lo) t
def q76(lo:Lo)(a0_0:Int)(a0_1:Int)(a0_2:ByteArray)(b1_0:Int)(b1_1:Int)(b1_2:ByteArray):Option Int:=
  YCV (q74 lo a0_0 b1_0) fun y270=>bif(!decide (y270=0))then(some y270)else(YCV (q74 lo a0_1 b1_1) fun y271=>bif(!decide (y271=0))then(some y271)else(YCV (q75 lo a0_2 b1_2) fun y277=>some y277))
def YwG:VFn:=⟨true,28,[.t 4],
 (Rg [oG 2 0,oG 3 1,oK 4 0]
 (.seq (Rg [oF 7 0 2,oL 8 7,oF 9 0 3,oL 10 9,oC 11 303 [8,10],oM 5 11]
 (Rg [oM 12 5,oR 13 .neq 12 (k 0)]
 (.cond 13 (Rg [oM 14 5,oM 4 14]
 (Fr 4))
 .skip)))
 (.seq (Rg [oF 15 1 2,oL 16 15,oF 17 1 3,oL 18 17,oC 19 303 [16,18],oM 6 19]
 (Rg [oM 20 6,oR 21 .neq 20 (k 0)]
 (.cond 21 (Rg [oM 22 6,oM 4 22]
 (Fr 4))
 .skip)))
 (Rg [oF 23 2 2,oL 24 23,oF 25 2 3,oL 26 25,oC 27 320 [24,26],oM 4 27]
 (Fr 4)))))⟩
def Ym3(lo:Lo):FnE:=Zfe 302 true (Zsg [0,1] [.ag [.j,.j,.s],.ag [.j,.j,.s]] []) (.i .i64) [] (fun x=>q76 lo x.1 x.2.1 x.2.2.1 x.2.2.2.1 x.2.2.2.2.1 x.2.2.2.2.2:Int×Int×ByteArray×Int×Int×ByteArray->Option Int)
noncomputable def fs77(lo:Lo):List FnE:=Ym3 lo::fs76 lo
theorem YwH(h:GZ P fm fs76 lo)(t:Ti P fm 302 YwG):GZ P fm fs77 lo:=
  h.p (Ym3 lo) .n t
def q77_L3_b:VCode:=
 (.seq (Rg [oM 7 5,oM 8 0,oN 9 8,oR 10 .lss 7 9,oM 11 10,gT 12 11 (.mv 5),gT 13 11 (.mv 1),gT 14 11 (.len 13),gT 15 11 (.bin .lss 12 14),oP 16 11 15 (kb false)]
 (Ce 16 0))
 (.seq (.blk 1 (Rg [oM 19 0,oM 20 5,oI 21 3 19 20,oT 22 3 21,oM 23 1,oM 24 5,oI 25 3 23 24,oT 26 3 25,oC 27 302 [22,26],oM 6 27]
 (Rg [oM 28 6,oR 29 .neq 28 (k 0)]
 (.cond 29 (Rg [oM 30 6,oM 4 30]
 (Fr 4))
 .skip))))
 (.reg [oM 17 5,oR 18 .add 17 (k 1),oM 5 18])))
def Ydg(lo:Lo):Zt0×Zt0×Int->Option ((Zt0×Zt0×Int)⊕ (Int⊕ (Zt0×Zt0))):=fun x=>match x with
  | (a0,b1,i5)=>bif(decide (i5< (a0.length:Int)))then(bif(decide (i5< (b1.length:Int)))then(chk (0<=i5/\i5< (a0.length:Int)) (chk (0<=i5/\i5< (b1.length:Int)) (YCV (q76 lo ((a0.getD i5.toNat Zd1).1) ((a0.getD i5.toNat Zd1).2.1) ((a0.getD i5.toNat Zd1).2.2) ((b1.getD i5.toNat Zd1).1) ((b1.getD i5.toNat Zd1).2.1) ((b1.getD i5.toNat Zd1).2.2)) fun y278=>bif(!decide (y278=0))then(some (.inr (.inl y278)))else(some (.inl (a0,b1,(YDf .i64 (i5+1))))))))else(some (.inr (.inr (a0,b1)))))else(some (.inr (.inr (a0,b1))))
def Yha(lo:Lo):Zt0×Zt0×Int->Option (Int⊕ (Zt0×Zt0)):=lo.run (Ydg lo)
def YwI(lo:Lo):LpE:=⟨3,[],(Zsg [0,1,5] [.l Zc3,.l Zc3,.j] []),[⟨.ret,(Zsg [4] [.j] [])⟩,⟨.exit 0,(Zsg [0,1] [.l Zc3,.l Zc3] [])⟩],Yha lo⟩
def YwJ(lo:Lo):LL:=(YwI lo,.loop q77_L3_b.er)::[]
theorem YwK(lo:Lo):Lk lo pf (fs77 lo) 0 (YwJ lo):=.l .n (Ydg lo)
def q77(lo:Lo)(a0:List (Int×Int×ByteArray))(b1:List (Int×Int×ByteArray)):Option Int:=
  YCV (Yha lo (a0,b1,(0:Int))) fun y279=>alt2 y279 (fun y280=>some y280) (fun y281=>YCV (q74 lo (y281.1.length:Int) (y281.2.length:Int)) fun y282=>some y282)
def YwL:VFn:=⟨true,36,[.t 4],
 (Rg [oK 4 0]
 (.seq (Rg [oK 5 0]
 (.blk 0 (.loop 3 q77_L3_b)))
 (Rg [oM 31 0,oN 32 31,oM 33 1,oN 34 33,oC 35 303 [32,34],oM 4 35]
 (Fr 4))))⟩
def Ym4(lo:Lo):FnE:=Zfe 274 true (Zsg [0,1] [.l Zc3,.l Zc3] []) (.i .i64) [] (fun x=>q77 lo x.1 x.2:Zt0×Zt0->Option Int)
noncomputable def fs78(lo:Lo):List FnE:=Ym4 lo::fs77 lo
theorem YwM(h:GZ P fm fs77 lo)(t:Ti P fm 274 YwL):GZ P fm fs78 lo:=
  h.p (Ym4 lo) (YwK lo) t
def q78(lo:Lo)(a0:List (Int×Int×ByteArray))(b1:List (Int×Int×ByteArray)):Option Bool:=
  YCV (q77 lo a0 b1) fun y283=>some (decide (y283=0))
def YwN:VFn:=⟨true,9,[.t 4],
 (Rg [oB 4 false]
 (Rg [oM 5 0,oM 6 1,oC 7 274 [5,6],oR 8 .eql 7 (k 0),oM 4 8]
 (Fr 4)))⟩
def Ym5(lo:Lo):FnE:=Zfe 297 true (Zsg [0,1] [.l Zc3,.l Zc3] []) .b [] (fun x=>q78 lo x.1 x.2:Zt0×Zt0->Option Bool)
noncomputable def fs79(lo:Lo):List FnE:=Ym5 lo::fs78 lo
theorem YwO(h:GZ P fm fs78 lo)(t:Ti P fm 297 YwN):GZ P fm fs79 lo:=
  h.p (Ym5 lo) .n t
noncomputable def fs80(lo:Lo):List FnE:=fs79 lo
noncomputable def fs81(lo:Lo):List FnE:=fs80 lo
def q81_L3_b:VCode:=
 (.seq (Rg [oM 7 6,oF 8 2 2,oL 9 8,oN 10 9,oR 11 .lss 7 10]
 (Ce 11 0))
 (.seq (.blk 1 (Rg [oF 14 2 2,oL 15 14,oM 16 6,oI 17 2 15 16,oT 18 2 17,oF 19 1 2,oL 20 19,oC 21 263 [18,20],oM 22 1,oC 23 297 [21,22]]
 (.cond 23 (.reg [oM 24 5,oF 25 2 2,oL 26 25,oM 27 6,oI 28 2 26 27,oF 29 0 28,oL 30 29,o 31 (.bsl (cs [I]) 1 [(0,30)]),o 32 (.app (cs [I]) 0 24 31),oM 5 32])
 .skip)))
 (.reg [oM 12 6,oR 13 .add 12 (k 1),oM 6 13])))
def YeS(lo:Lo):Zp32->Option (Zp32⊕ (((List Int)))):=fun x=>match x with
  | (values1,i6,m2_0,m2_1,m2_2,out5)=>bif(decide (i6< (m2_2.length:Int)))then(chk (0<=i6/\i6< (m2_2.length:Int)) (YCV (q73 lo ((m2_2.getD i6.toNat ((0:Int),[])).1) ((m2_2.getD i6.toNat ((0:Int),[])).2) m2_1) fun y304=>YCV (q78 lo y304 values1) fun y305=>bif y305 then(chk (0<=i6/\i6< (m2_2.length:Int)) (chk (out5.length+([(m2_2.getD i6.toNat ((0:Int),[])).1]).length<=maxEl) (some (.inl (values1,(YDf .i64 (i6+1)),m2_0,m2_1,m2_2,(out5++([(m2_2.getD i6.toNat ((0:Int),[])).1])))))))else(some (.inl (values1,(YDf .i64 (i6+1)),m2_0,m2_1,m2_2,out5)))))else(some (.inr out5))
def Yhb(lo:Lo):Zp32->Option (((List Int))):=lo.run (YeS lo)
def YwP(lo:Lo):LpE:=⟨3,[(5,none,false)],(Zsg [1,2,5,6] [.l Zc3,.ptr 0 0 0,.ref 1,.j] [.st [.j,.i .u32,.l Zc7],.sq (cs [I])]),[⟨.exit 0,(Zsg [5] [.ref 0] [.sq (cs [I])])⟩],Yhb lo⟩
def YwQ(lo:Lo):LL:=(YwP lo,.loop q81_L3_b.er)::[]
theorem YwR(lo:Lo):Lk lo pf (fs81 lo) 0 (YwQ lo):=.l .n (YeS lo)
def q81(lo:Lo)(m0_0:Int)(m0_1:Int)(m0_2:List (Int×Zt0))(values1:List (Int×Int×ByteArray)):Option ((List Int)):=
  YCV (Yhb lo (values1,(0:Int),m0_0,m0_1,m0_2,[])) fun y306=>some y306
def YwS:VFn:=⟨true,34,[.t 4],
 (Rg [oG 2 0,o 4 (.mv (ke (cs [I])))]
 (Rg [o 5 (.mv (ke (cs [I])))]
 (.seq (Rg [oK 6 0]
 (.blk 0 (.loop 3 q81_L3_b)))
 (Rg [oM 33 5,oM 4 33]
 (Fr 4)))))⟩
def Ym6(lo:Lo):FnE:=Zfe 357 true (Zsg [0,1] [.ag [.j,.i .u32,.l Zc7],.l Zc3] []) (.l (cs [I])) [] (fun x=>q81 lo x.1 x.2.1 x.2.2.1 x.2.2.2:Int×Int×Zt5×Zt0->Option ((List Int)))
noncomputable def fs82(lo:Lo):List FnE:=Ym6 lo::fs81 lo
theorem YwT(h:GZ P fm fs81 lo)(t:Ti P fm 357 YwS):GZ P fm fs82 lo:=
  h.p (Ym6 lo) (YwR lo) t
end Go.Abs.G3m
namespace Go.Abs.G3m
open Go Go.Abs
set_option maxRecDepth 100000
set_option maxHeartbeats 1000000
variable{P:Program}{fm:FM}{lo:Lo}
def q82_L21_b:VCode:=
 (.seq (Rg [oM 26 7,oM 27 3,oN 28 27,oR 29 .lss 26 28]
 (Ce 29 2))
 (.seq (.blk 3 (.reg [oM 32 6,oM 33 32,gF 34 33 (.mv 3),gF 35 33 (.mv 7),gF 36 33 (.iad 1 34 35),gF 37 33 (.load false 1 36),gF 38 33 (.mv 5),gF 39 33 (.call 297 [37,38]),oP 40 33 (kb true) 39,oM 6 40]))
 (.reg [oM 30 7,oR 31 .add 30 (k 1),oM 7 31])))
def YeT(lo:Lo):Zp29->Option (Zp29⊕ ((Int×Zt0×Bool×Int×Int×Zt5×Zt11))):=fun x=>match x with
  | (i4,l5,found6,k7,m1_0,m1_1,m1_2,lists3)=>bif(decide (k7< (lists3.length:Int)))then(bif found6 then(some (.inl (i4,l5,true,(YDf .i64 (k7+1)),m1_0,m1_1,m1_2,lists3)))else(chk (0<=k7/\k7< (lists3.length:Int)) (YCV (q78 lo (lists3.getD k7.toNat []) l5) fun y299=>some (.inl (i4,l5,y299,(YDf .i64 (k7+1)),m1_0,m1_1,m1_2,lists3)))))else(some (.inr (i4,l5,found6,m1_0,m1_1,m1_2,lists3)))
def Yhc(lo:Lo):Zp29->Option ((Int×Zt0×Bool×Int×Int×Zt5×Zt11)):=lo.run (YeT lo)
def YwU(lo:Lo):LpE:=⟨21,[],(Zsg [1,3,4,5,6,7] [.ptr 0 0 0,.ref 1,.j,.l Zc3,.b,.j] [.st [.j,.i .u32,.l Zc7],.sq Zc10]),[⟨.exit 2,(Zsg [1,3,4,5,6] [.ptr 0 0 0,.ref 1,.j,.l Zc3,.b] [.st [.j,.i .u32,.l Zc7],.sq Zc10])⟩],Yhc lo⟩
def Ym7(lo:Lo):LL:=(YwU lo,.loop q82_L21_b.er)::[]
theorem YwV(lo:Lo):Lk lo pf (fs82 lo) 0 (Ym7 lo):=.l .n (YeT lo)
def q82_L12_b:VCode:=
 (.seq (Rg [oM 49 8,oR 50 .gtr 49 (k 0),oM 51 50,gT 52 51 (.mv 3),gT 53 51 (.mv 8),gT 54 51 (.iad 1 52 53),gT 55 51 (.load false 1 54),gT 56 51 (.mv 3),gT 57 51 (.mv 8),gT 58 51 (.bin .sub 57 (k 1)),gT 59 51 (.iad 1 56 58),gT 60 51 (.load false 1 59),gT 61 51 (.call 274 [55,60]),gT 62 51 (.bin .lss 61 (k 0)),oP 63 51 62 (kb false)]
 (Ce 63 4))
 (.seq (.blk 5 (.reg [oM 66 3,oM 67 8,oM 68 3,oM 69 8,oR 70 .sub 69 (k 1),oM 71 3,oM 72 8,oR 73 .sub 72 (k 1),oI 74 1 71 73,oL 75 74,oM 76 3,oM 77 8,oI 78 1 76 77,oL 79 78,oI 80 1 66 67,oS 1 80 75,oI 81 1 68 70,oS 1 81 79]))
 (.reg [oM 64 8,oR 65 .sub 64 (k 1),oM 8 65])))
def YeU(lo:Lo):Int×Int×Int×Int×Zt5×Zt11->Option ((Int×Int×Int×Int×Zt5×Zt11)⊕ ((Int×Int×Int×Zt5×Zt11))):=fun x=>match x with
  | (i4,k8,m1_0,m1_1,m1_2,lists3)=>bif(decide (0<k8))then(chk (0<=k8/\k8< (lists3.length:Int)) (chk (0<=(YDf .i64 (k8-1))/\ (YDf .i64 (k8-1))< (lists3.length:Int)) (YCV (q77 lo (lists3.getD k8.toNat []) (lists3.getD ((YDf .i64 (k8-1)).toNat) [])) fun y301=>bif(decide (y301<0))then(chk (0<=(YDf .i64 (k8-1))/\ (YDf .i64 (k8-1))< (lists3.length:Int)) (chk (0<=k8/\k8< (lists3.length:Int)) (chk (0<=k8/\k8< (lists3.length:Int)) (chk (0<=(YDf .i64 (k8-1))/\ (YDf .i64 (k8-1))< ((lists3.set k8.toNat (lists3.getD ((YDf .i64 (k8-1)).toNat) [])).length:Int)) (some (.inl (i4,(YDf .i64 (k8-1)),m1_0,m1_1,m1_2,((lists3.set k8.toNat (lists3.getD ((YDf .i64 (k8-1)).toNat) [])).set ((YDf .i64 (k8-1)).toNat) (lists3.getD k8.toNat [])))))))))else(some (.inr (i4,m1_0,m1_1,m1_2,lists3))))))else(some (.inr (i4,m1_0,m1_1,m1_2,lists3)))
def Yhd(lo:Lo):Int×Int×Int×Int×Zt5×Zt11->Option ((Int×Int×Int×Zt5×Zt11)):=lo.run (YeU lo)
def YwW(lo:Lo):LpE:=⟨12,[],(Zsg [1,3,4,8] [.ptr 0 0 0,.ref 1,.j,.j] [.st [.j,.i .u32,.l Zc7],.sq Zc10]),[⟨.exit 4,(Zsg [1,3,4] [.ptr 0 0 0,.ref 1,.j] [.st [.j,.i .u32,.l Zc7],.sq Zc10])⟩],Yhd lo⟩
def Ym8(lo:Lo):LL:=(YwW lo,.loop q82_L12_b.er)::Ym7 lo
theorem YwX(lo:Lo):Lk lo pf (fs82 lo) 0 (Ym8 lo):=.l (YwV lo) (YeU lo)
def q82_L10_b:VCode:=
 (.seq (Rg [oM 11 4,oF 12 2 1,oL 13 12,oN 14 13,oR 15 .lss 11 14]
 (Ce 15 0))
 (.seq (.blk 1 (Rg [oF 18 2 1,oL 19 18,oM 20 4,oI 21 2 19 20,oT 22 2 21,oF 23 1 1,oL 24 23,oC 25 263 [22,24],oM 5 25]
 (Rg [oB 6 false]
 (.seq (Rg [oK 7 0]
 (.blk 2 (.loop 21 q82_L21_b)))
 (.seq (Rg [oM 41 6]
 (.cond 41 (.exit 1)
 .skip))
 (Rg [oM 42 3,oM 43 5,o 44 (.bsl Zc10 1 [(0,43)]),o 45 (.app Zc10 0 42 44),oM 3 45]
 (Rg [oM 46 3,oN 47 46,oR 48 .sub 47 (k 1),oM 8 48]
 (.blk 4 (.loop 12 q82_L12_b)))))))))
 (.reg [oM 16 4,oR 17 .add 16 (k 1),oM 4 17])))
def YeV(lo:Lo):Int×Int×Int×Zt5×Zt11->Option ((Int×Int×Int×Zt5×Zt11)⊕ ((Int×Int×Zt5×Zt11))):=fun x=>match x with
  | (i4,m1_0,m1_1,m1_2,lists3)=>bif(decide (i4< (m1_2.length:Int)))then(chk (0<=i4/\i4< (m1_2.length:Int)) (YCV (q73 lo ((m1_2.getD i4.toNat ((0:Int),[])).1) ((m1_2.getD i4.toNat ((0:Int),[])).2) m1_1) fun y298=>YCV (Yhc lo (i4,y298,false,(0:Int),m1_0,m1_1,m1_2,lists3)) fun y300=>bif y300.2.2.1 then(some (.inl ((YDf .i64 (y300.1+(1:Int))),y300.2.2.2.1,y300.2.2.2.2.1,y300.2.2.2.2.2.1,y300.2.2.2.2.2.2)))else(chk (y300.2.2.2.2.2.2.length+[y300.2.1].length<=maxEl) (YCV (Yhd lo (y300.1,(YDf .i64 (((y300.2.2.2.2.2.2++[y300.2.1]).length:Int)-(1:Int))),y300.2.2.2.1,y300.2.2.2.2.1,y300.2.2.2.2.2.1,(y300.2.2.2.2.2.2++[y300.2.1]))) fun y302=>some (.inl ((YDf .i64 (y302.1+(1:Int))),y302.2.1,y302.2.2.1,y302.2.2.2.1,y302.2.2.2.2))))))else(some (.inr (m1_0,m1_1,m1_2,lists3)))
def Yhe(lo:Lo):Int×Int×Int×Zt5×Zt11->Option ((Int×Int×Zt5×Zt11)):=lo.run (YeV lo)
def YwY(lo:Lo):LpE:=⟨10,[(3,none,false)],(Zsg [1,3,4] [.ptr 0 0 0,.ref 1,.j] [.st [.j,.i .u32,.l Zc7],.sq Zc10]),[⟨.exit 0,(Zsg [1,3] [.ptr 0 0 0,.ref 1] [.st [.j,.i .u32,.l Zc7],.sq Zc10])⟩],Yhe lo⟩
def Ym9(lo:Lo):LL:=(YwY lo,.loop q82_L10_b.er)::Ym8 lo
theorem YwZ(lo:Lo):Lk lo pf (fs82 lo) 0 (Ym9 lo):=.l (YwX lo) (YeV lo)
def q82_L3_b:VCode:=
 (.seq (Rg [oM 82 10,oM 83 3,oN 84 83,oR 85 .lss 82 84]
 (Ce 85 6))
 (.seq (.blk 7 (.reg [oM 88 9,oT 89 3 1,oM 90 3,oM 91 10,oI 92 1 90 91,oL 93 92,oC 94 357 [89,93],o 95 (.bsl Zc9 1 [(0,94)]),o 96 (.app Zc9 0 88 95),oM 9 96]))
 (.reg [oM 86 10,oR 87 .add 86 (k 1),oM 10 87])))
def YeW(lo:Lo):Int×Int×Int×Zt5×Zt11×Zt8->Option ((Int×Int×Int×Zt5×Zt11×Zt8)⊕ ((Zt8))):=fun x=>match x with
  | (i10,m1_0,m1_1,m1_2,lists3,out9)=>bif(decide (i10< (lists3.length:Int)))then(chk (0<=i10/\i10< (lists3.length:Int)) (YCV (q81 lo m1_0 m1_1 m1_2 (lists3.getD i10.toNat [])) fun y307=>chk (out9.length+[y307].length<=maxEl) (some (.inl ((YDf .i64 (i10+1)),m1_0,m1_1,m1_2,lists3,(out9++[y307]))))))else(some (.inr out9))
def Yhf(lo:Lo):Int×Int×Int×Zt5×Zt11×Zt8->Option ((Zt8)):=lo.run (YeW lo)
def Yw0(lo:Lo):LpE:=⟨3,[(9,none,false)],(Zsg [1,3,9,10] [.ptr 0 0 0,.ref 1,.ref 2,.j] [.st [.j,.i .u32,.l Zc7],.sq Zc10,.sq Zc9]),[⟨.exit 6,(Zsg [9] [.ref 0] [.sq Zc9])⟩],Yhf lo⟩
def Yw1(lo:Lo):LL:=(Yw0 lo,.loop q82_L3_b.er)::Ym9 lo
theorem Yw2(lo:Lo):Lk lo pf (fs82 lo) 0 (Yw1 lo):=.l (YwZ lo) (YeW lo)
def q82(lo:Lo)(m0_0:Int)(m0_1:Int)(m0_2:List (Int×Zt0)):Option (Zt8):=
  YCV (Yhe lo ((0:Int),m0_0,m0_1,m0_2,[])) fun y303=>YCV (Yhf lo ((0:Int),y303.1,y303.2.1,y303.2.2.1,y303.2.2.2,[])) fun y308=>some y308
def Yw3:VFn:=⟨true,98,[.t 2],
 (Rg [oG 1 0,o 2 (.mv (ke Zc9))]
 (Rg [o 3 (.mv (ke Zc10))]
 (.seq (Rg [oK 4 0]
 (.blk 0 (.loop 10 q82_L10_b)))
 (Rg [o 9 (.mv (ke Zc9))]
 (.seq (Rg [oK 10 0]
 (.blk 6 (.loop 3 q82_L3_b)))
 (Rg [oM 97 9,oM 2 97]
 (Fr 2)))))))⟩
def Yna(lo:Lo):FnE:=Zfe 368 true (Zsg [0] [.ag [.j,.i .u32,.l Zc7]] []) (.l Zc9) [] (fun x=>q82 lo x.1 x.2.1 x.2.2:Int×Int×Zt5->Option (Zt8))
noncomputable def fs83(lo:Lo):List FnE:=Yna lo::fs82 lo
theorem Yw4(h:GZ P fm fs82 lo)(t:Ti P fm 368 Yw3):GZ P fm fs83 lo:=
  h.p (Yna lo) (Yw2 lo) t
def q83(lo:Lo)(id1:Int)(x0_0:Int)(x0_1:Int)(h1_0:Int)(h1_1:List (Int×Int×Int×Zt0))(h1_2:Bool)(h1_3:Bool)(h2_0:Int)(h2_1:List (Int×ByteArray× (List Int))):Option (Int×Bool×Int×Int×Int×Zt2×Bool×Bool×Int×Zt1×Zt0):=
  YCV (q7 lo ((mgt eqI id1 h1_1 ((0:Int),[])).2)) fun y311=>some ((mgt eqI id1 h1_1 ((0:Int),[])).1,(mhs eqI id1 h1_1),x0_0,x0_1,h1_0,h1_1,h1_2,h1_3,h2_0,h2_1,y311)
def Yw5:VFn:=⟨true,24,[.c 4 true 2,.t 5],
 (Rg [o 4 (.alloc [.i .i64 0,.e Zc3]),oB 5 false]
 (Rg [oM 9 0,o 10 (.nilc 9),oF 11 2 10,oL 12 11,oM 13 1,o 14 (.mget (some .i64) I Zc10 true true 12 13),oM 8 14,oE 15 8 0,oE 16 8 1,o 6 (.alloc [.i .i64 0,.e Zc3]),oS 2 6 15,oM 7 16]
 (Rg [oF 17 0 6,⟨some 18,.load false 1 17,none,true,false⟩,oF 19 1 6,oL 20 19,o 21 (.callN 308 [20] false),o 22 (.build [.i .i64 0,.e Zc3] [(0,1,18),(1,1,21)]),oM 23 7,oS 2 4 22,oM 5 23]
 .ret)))⟩
def Ynb(lo:Lo):FnE:=Zfe 353 false (Zsg [0,1] [.ptr 0 0 0,.j] [.st [.j,.i .u32,.np 1,.np 2],.st [.j,.l Zc6,.b,.b],.fp none (cs [I])]) (.tp [.ag [.j,.ref 3],.b]) [.st [.j,.i .u32,.np 1,.np 2],.st [.j,.l Zc6,.b,.b],.fp none (cs [I]),.sq Zc3] (fun x=>q83 lo x.1 x.2.1 x.2.2.1 x.2.2.2.1 x.2.2.2.2.1 x.2.2.2.2.2.1 x.2.2.2.2.2.2.1 x.2.2.2.2.2.2.2.1 x.2.2.2.2.2.2.2.2:Zp27->Option (Int×Bool×Int×Int×Int×Zt2×Bool×Bool×Int×Zt1×Zt0))
noncomputable def fs84(lo:Lo):List FnE:=Ynb lo::fs83 lo
theorem Yw6(h:GZ P fm fs83 lo)(t:Ti P fm 353 Yw5):GZ P fm fs84 lo:=
  h.i (Ynb lo) .n t
def q84(lo:Lo)(a0_0:Int)(a0_1:List (Int×Int×ByteArray))(b1_0:Int)(b1_1:List (Int×Int×ByteArray)):Option Bool:=
  bif(decide (a0_0=b1_0))then(YCV (q78 lo a0_1 b1_1) fun y313=>some y313)else(some false)
def Yw7:VFn:=⟨true,17,[.t 4],
 (Rg [oG 2 0,oG 3 1,oB 4 false]
 (Rg [oF 5 0 2,oL 6 5,oF 7 0 3,oL 8 7,oR 9 .eql 6 8,oM 10 9,gT 11 10 (.fad 1 2),gT 12 10 (.load false 1 11),gT 13 10 (.fad 1 3),gT 14 10 (.load false 1 13),gT 15 10 (.call 297 [12,14]),oP 16 10 15 (kb false),oM 4 16]
 (Fr 4)))⟩
def Ync(lo:Lo):FnE:=Zfe 266 true (Zsg [0,1] [.ag [.j,.l Zc3],.ag [.j,.l Zc3]] []) .b [] (fun x=>q84 lo x.1 x.2.1 x.2.2.1 x.2.2.2:Int×Zt0×Int×Zt0->Option Bool)
noncomputable def fs85(lo:Lo):List FnE:=Ync lo::fs84 lo
theorem Yw8(h:GZ P fm fs84 lo)(t:Ti P fm 266 Yw7):GZ P fm fs85 lo:=
  h.p (Ync lo) .n t
def q85_L3_b:VCode:=
 (Rg [oR 27 .lss 26 25]
 (.seq (Ce 27 0)
 (.seq (.blk 1 (Rg [oI 28 2 24 26,oT 29 2 28,o 6 (.alloc [.i .i64 0,.e Zc3]),oS 2 6 29]
 (Rg [oM 31 0,oF 32 0 6,oL 33 32,oC 34 353 [31,33],oM 30 34,oE 35 30 0,oE 36 30 1,o 7 (.alloc [.i .i64 0,.e Zc3]),oS 2 7 35,oM 8 36]
 (Rg [oM 37 8,oX 38 37,oM 39 38,gF 40 39 (.load true 2 7),gF 41 39 (.load true 2 6),gF 42 39 (.call 266 [40,41]),gF 43 39 (.not 42),oP 44 39 (kb true) 43]
 (.cond 44 (Rg [oB 4 false]
 .ret)
 .skip)))))
 (.reg [oR 45 .add 26 (k 1),oM 26 45]))))
def YeX(lo:Lo):Zp23->Option (Zp23⊕ ((Bool×Int×Int×Int×Zt2×Bool×Bool×Int×Zt1)⊕Zp28)):=fun x=>match x with
  | (v24,v25,v26,x0_0,x0_1,h1_0,h1_1,h1_2,h1_3,h2_0,h2_1)=>bif(decide (v26<v25))then(chk (0<=v26/\v26< (v24.length:Int)) (YCV (q83 lo ((v24.getD v26.toNat ((0:Int),[])).1) x0_0 x0_1 h1_0 h1_1 h1_2 h1_3 h2_0 h2_1) fun y312=>bif(!y312.2.1)then(some (.inr (.inl (false,y312.2.2.1,y312.2.2.2.1,y312.2.2.2.2.1,y312.2.2.2.2.2.1,y312.2.2.2.2.2.2.1,y312.2.2.2.2.2.2.2.1,y312.2.2.2.2.2.2.2.2.1,y312.2.2.2.2.2.2.2.2.2.1))))else(YCV (q84 lo y312.1 y312.2.2.2.2.2.2.2.2.2.2 ((v24.getD v26.toNat ((0:Int),[])).1) ((v24.getD v26.toNat ((0:Int),[])).2)) fun y314=>bif(!y314)then(some (.inr (.inl (false,y312.2.2.1,y312.2.2.2.1,y312.2.2.2.2.1,y312.2.2.2.2.2.1,y312.2.2.2.2.2.2.1,y312.2.2.2.2.2.2.2.1,y312.2.2.2.2.2.2.2.2.1,y312.2.2.2.2.2.2.2.2.2.1))))else(some (.inl (v24,v25,(YDf .i64 (v26+1)),y312.2.2.1,y312.2.2.2.1,y312.2.2.2.2.1,y312.2.2.2.2.2.1,y312.2.2.2.2.2.2.1,y312.2.2.2.2.2.2.2.1,y312.2.2.2.2.2.2.2.2.1,y312.2.2.2.2.2.2.2.2.2.1))))))else(some (.inr (.inr (x0_0,x0_1,h1_0,h1_1,h1_2,h1_3,h2_0,h2_1))))
def Yhg(lo:Lo):Zp23->Option ((Bool×Int×Int×Int×Zt2×Bool×Bool×Int×Zt1)⊕Zp28):=lo.run (YeX lo)
def Yw9(lo:Lo):LpE:=⟨3,[],(Zsg [0,24,25,26] [.ptr 0 0 0,.l Zc7,.j,.j] [.st [.j,.i .u32,.np 1,.np 2],.st [.j,.l Zc6,.b,.b],.fp none (cs [I])]),[⟨.ret,(Zsg [4,0] [.b,.ptr 0 0 0] [.st [.j,.i .u32,.np 1,.np 2],.st [.j,.l Zc6,.b,.b],.fp none (cs [I])])⟩,⟨.exit 0,(Zsg [0] [.ptr 0 0 0] [.st [.j,.i .u32,.np 1,.np 2],.st [.j,.l Zc6,.b,.b],.fp none (cs [I])])⟩],Yhg lo⟩
def Yxa(lo:Lo):LL:=(Yw9 lo,.loop q85_L3_b.er)::[]
theorem Yxb(lo:Lo):Lk lo pf (fs85 lo) 3 (Yxa lo):=.l .n (YeX lo)
noncomputable def q85(lo:Lo)(m1_0:Int)(m1_1:Int)(m1_2:List (Int×Zt0))(x0_0:Int)(x0_1:Int)(h1_0:Int)(h1_1:List (Int×Int×Int×Zt0))(h1_2:Bool)(h1_3:Bool)(h2_0:Int)(h2_1:List (Int×ByteArray× (List Int))):Option (Bool×Int×Int×Int×Zt2×Bool×Bool×Int×Zt1):=
  YCV (q55 lo x0_0 x0_1 h1_0 h1_1 h1_2 h1_3 h2_0 h2_1) fun y296=>bif(!decide (y296.1=(m1_2.length:Int)))then(some (false,y296.2.1,y296.2.2.1,y296.2.2.2.1,y296.2.2.2.2.1,y296.2.2.2.2.2.1,y296.2.2.2.2.2.2.1,y296.2.2.2.2.2.2.2.1,y296.2.2.2.2.2.2.2.2))else(YCV (q38 lo y296.2.1 y296.2.2.1 y296.2.2.2.1 y296.2.2.2.2.1 y296.2.2.2.2.2.1 y296.2.2.2.2.2.2.1 y296.2.2.2.2.2.2.2.1 y296.2.2.2.2.2.2.2.2) fun y297=>YCV (q82 lo m1_0 m1_1 m1_2) fun y309=>YCV (q40 lo y297.1 y309) fun y310=>bif(!y310)then(some (false,y297.2.1,y297.2.2.1,y297.2.2.2.1,y297.2.2.2.2.1,y297.2.2.2.2.2.1,y297.2.2.2.2.2.2.1,y297.2.2.2.2.2.2.2.1,y297.2.2.2.2.2.2.2.2))else(YCV (Yhg lo (m1_2,(m1_2.length:Int),(0:Int),y297.2.1,y297.2.2.1,y297.2.2.2.1,y297.2.2.2.2.1,y297.2.2.2.2.2.1,y297.2.2.2.2.2.2.1,y297.2.2.2.2.2.2.2.1,y297.2.2.2.2.2.2.2.2)) fun y315=>alt2 y315 (fun y316=>some (y316.1,y316.2.1,y316.2.2.1,y316.2.2.2.1,y316.2.2.2.2.1,y316.2.2.2.2.2.1,y316.2.2.2.2.2.2.1,y316.2.2.2.2.2.2.2.1,y316.2.2.2.2.2.2.2.2)) (fun y317=>some (true,y317.1,y317.2.1,y317.2.2.1,y317.2.2.2.1,y317.2.2.2.2.1,y317.2.2.2.2.2.1,y317.2.2.2.2.2.2.1,y317.2.2.2.2.2.2.2))))
def Yxc:VFn:=⟨true,46,[.t 4],
 (Rg [oG 3 1,oB 4 false]
 (.seq (.seq (.regN [1000000000000] [oM 9 0,⟨some 10,.call 339 [9],none,false,true⟩,oF 11 2 3,⟨some 12,.load false 1 11,none,true,false⟩,oN 13 12,oR 14 .neq 10 13,oM 15 14,gF 16 15 (.mv 0),⟨some 17,.call 340 [16],some (15,false),false,true⟩,⟨some 18,.load true 3 3,some (15,false),true,false⟩,gF 19 15 (.call 368 [18]),gF 20 15 (.call 346 [17,19]),gF 21 15 (.not 20),oP 22 15 (kb true) 21])
 (.cond 22 (Rg [oB 4 false]
 .ret)
 .skip))
 (.seq (Rg [oF 23 2 3,oL 24 23,oN 25 24,oK 26 0]
 (.blk 0 (.loop 3 q85_L3_b)))
 (Rg [oB 4 true]
 .ret))))⟩
noncomputable def Ynd(lo:Lo):FnE:=Zfe 349 false (Zsg [0,1] [.ptr 0 0 0,.ag [.j,.i .u32,.l Zc7]] [.st [.j,.i .u32,.np 1,.np 2],.st [.j,.l Zc6,.b,.b],.fp none (cs [I])]) .b [.st [.j,.i .u32,.np 1,.np 2],.st [.j,.l Zc6,.b,.b],.fp none (cs [I])] (fun x=>q85 lo x.1 x.2.1 x.2.2.1 x.2.2.2.1 x.2.2.2.2.1 x.2.2.2.2.2.1 x.2.2.2.2.2.2.1 x.2.2.2.2.2.2.2.1 x.2.2.2.2.2.2.2.2.1 x.2.2.2.2.2.2.2.2.2.1 x.2.2.2.2.2.2.2.2.2.2:Zp24->Option (Bool×Int×Int×Int×Zt2×Bool×Bool×Int×Zt1))
noncomputable def fs86(lo:Lo):List FnE:=Ynd lo::fs85 lo
theorem Yxd(h:GZ P fm fs85 lo)(t:Ti P fm 349 Yxc):GZ P fm fs86 lo:=
  h.i (Ynd lo) (Yxb lo) t
noncomputable def fs87(lo:Lo):List FnE:=fs86 lo
noncomputable def fs88(lo:Lo):List FnE:=fs87 lo
noncomputable def fs89(lo:Lo):List FnE:=fs88 lo
noncomputable def fs90(lo:Lo):List FnE:=fs89 lo
noncomputable def fs91(lo:Lo):List FnE:=fs90 lo
noncomputable def fs92(lo:Lo):List FnE:=fs91 lo
noncomputable def fs93(lo:Lo):List FnE:=fs92 lo
end Go.Abs.G3m
namespace Go.Abs.G3m
open Go Go.Abs
set_option maxRecDepth 100000
set_option maxHeartbeats 1000000
variable{P:Program}{fm:FM}{lo:Lo}
noncomputable def fs94(lo:Lo):List FnE:=fs93 lo
noncomputable def fs95(lo:Lo):List FnE:=fs94 lo
def q95_L3_b:VCode:=
 (Rg [oR 26 .lss 25 24]
 (.seq (Ce 26 2)
 (.seq (.blk 3 (Rg [oI 27 1 23 25,oL 28 27,oM 7 28]
 (.reg [oM 29 5,oM 30 0,o 31 (.nilc 30),oF 32 3 31,oL 33 32,oM 34 7,o 35 (.mget none (.l (cs [I])) (cs []) false false 33 34),o 36 (.callN 245 [35] false),o 37 (.bsl Zc9 1 [(0,36)]),o 38 (.app Zc9 2 29 37),oM 5 38])))
 (.reg [oR 39 .add 25 (k 1),oM 25 39]))))
def YeY(lo:Lo):Zp22->Option (Zp22⊕ ((Int×Int×Int×Zt2×Bool×Bool×Int×Zt1×Zt8))):=fun x=>match x with
  | (v24,v25,x0_0,x0_1,h1_0,h1_1,h1_2,h1_3,h2_0,h2_1,out5,v23)=>bif(decide (v25<v24))then(chk (0<=v25/\v25< (v23.length:Int)) (YCV (q37 lo ((h2_1.getD (mix eqS (v23.getD v25.toNat (YDe #[])) h2_1) ((0:Int),(YDe #[]),[])).2.2)) fun y398=>chk (out5.length+1<=maxEl) (some (.inl (v24,(YDf .i64 (v25+1)),x0_0,x0_1,h1_0,h1_1,h1_2,h1_3,h2_0,h2_1,(out5++[y398]),v23)))))else(some (.inr (x0_0,x0_1,h1_0,h1_1,h1_2,h1_3,h2_0,h2_1,out5)))
def Yhh(lo:Lo):Zp22->Option ((Int×Int×Int×Zt2×Bool×Bool×Int×Zt1×Zt8)):=lo.run (YeY lo)
def Yxe(lo:Lo):LpE:=⟨3,[(5,none,true)],(Zsg [0,5,23,24,25] [.ptr 0 0 0,.ref 3,.ref 4,.j,.j] [.st [.j,.i .u32,.np 1,.np 2],.st [.j,.l Zc6,.b,.b],.fp none (cs [I]),.fm .nil true (cs [I]),.sq (cs [.s])]),[⟨.exit 2,(Zsg [0,5] [.ptr 0 0 0,.ref 3] [.st [.j,.i .u32,.np 1,.np 2],.st [.j,.l Zc6,.b,.b],.fp none (cs [I]),.fm .nil true (cs [I])])⟩],Yhh lo⟩
def Yne(lo:Lo):LL:=(Yxe lo,.loop q95_L3_b.er)::[]
theorem Yxf(lo:Lo):Lk lo pf (fs95 lo) 3 (Yne lo):=.l .n (YeY lo)
def Ynf:VCode:=
 (.reg [oM 8 0,o 9 (.nilc 8),oF 10 3 9,oL 11 10,o 12 (.mrng 11)])
def Yng:VCode:=
 (.blk 1 (Rg [o 15 (.ment none (.l (cs [I])) (cs []) false 12),oE 16 15 0,oM 4 16]
 (.reg [oM 17 3,oM 18 4,o 19 (.bsl (cs [.s]) 1 [(0,18)]),o 20 (.app (cs [.s]) 0 17 19),oM 3 20])))
def Ynh:VCode:=
 (Rg [oM 21 3,oC 22 271 [21]]
 (Rg [o 5 (.mv (ke Zc9))]
 (.seq (Rg [oM 23 3,oN 24 23,oK 25 0]
 (.blk 2 (.loop 3 q95_L3_b)))
 (Rg [oM 40 5,oM 2 40]
 .ret))))
def q95_J18_b:VCode:=.seq (.seq Ynf (.blk 0 (.loop 12 (Rg [o 13 (.mnxt 12),oE 14 13 0] (YzK 14 0 Yng))))) Ynh
def Yxg:Sg:=(Zsg [0,3,12] [.ptr 0 0 0,.ref 3,.np 4] [.st [.j,.i .u32,.np 1,.np 2],.st [.j,.l Zc6,.b,.b],.fp none (cs [I]),.sq (cs [.s]),.st [.np 2,.j,.j,.l (cs [I]),.b]])
def Yni(lo:Lo):Zp26->Option (Int×Int×Int×Zt2×Bool×Bool×Int×Zt1×Zt4×Int×Int× (List Int)×Bool):=fun x=>match x with
  | (x0_0,x0_1,h1_0,h1_1,h1_2,h1_3,h2_0,h2_1,keys3)=>some (x0_0,x0_1,h1_0,h1_1,h1_2,h1_3,h2_0,h2_1,keys3,h2_0,h2_0,([]:List Int),false)
def YeZ:Zp17->ItP:=fun x=>match x with
  | (x0_0,x0_1,h1_0,h1_1,h1_2,h1_3,h2_0,h2_1,keys3,v12_0,v12_1,v12_2,v12_3)=>(h2_1.map (fun e=>e.1),v12_2,h2_0,v12_0,v12_1)
def Ydh(lo:Lo):Zp17->Int->Option (Int×Int×Int×Zt2×Bool×Bool×Int×Zt1×Zt4×Int×Int× (List Int)×Bool):=fun x b=>match x with
  | (x0_0,x0_1,h1_0,h1_1,h1_2,h1_3,h2_0,h2_1,keys3,v12_0,v12_1,v12_2,v12_3)=>chk (v12_1=h2_0) (YCV (addI v12_2 b).getLast? fun y395=>YCV (mbf y395 h2_1) fun y396=>chk (keys3.length+[y396.1].length<=maxEl) (some (x0_0,x0_1,h1_0,h1_1,h1_2,h1_3,h2_0,h2_1,(keys3++[y396.1]),v12_0,v12_1,(addI v12_2 b),v12_3)))
def Ye0(lo:Lo):Zp17->Option ((Int×Int×Int×Zt2×Bool×Bool×Int×Zt1×Zt8)):=fun x=>match x with
  | (x0_0,x0_1,h1_0,h1_1,h1_2,h1_3,h2_0,h2_1,keys3,v12_0,v12_1,v12_2,v12_3)=>YCV (q36 lo keys3) fun y397=>chk (y397.length=keys3.length) (YCV (Yhh lo ((y397.length:Int),(0:Int),x0_0,x0_1,h1_0,h1_1,h1_2,h1_3,h2_0,h2_1,[],y397)) fun y399=>some (y399.1,y399.2.1,y399.2.2.1,y399.2.2.2.1,y399.2.2.2.2.1,y399.2.2.2.2.2.1,y399.2.2.2.2.2.2.1,y399.2.2.2.2.2.2.2.1,y399.2.2.2.2.2.2.2.2))
noncomputable def Yhi(lo:Lo):Zp26->Option ((Int×Int×Int×Zt2×Bool×Bool×Int×Zt1×Zt8)):=fun x=>YCV (Yni lo x) (rngF YeZ (Ydh lo) (Ye0 lo))
noncomputable def Ye1(lo:Lo):LpE:=⟨18,[(3,none,false)],(Zsg [0,3] [.ptr 0 0 0,.ref 3] [.st [.j,.i .u32,.np 1,.np 2],.st [.j,.l Zc6,.b,.b],.fp none (cs [I]),.sq (cs [.s])]),[⟨.ret,(Zsg [2,0] [.ref 3,.ptr 0 0 0] [.st [.j,.i .u32,.np 1,.np 2],.st [.j,.l Zc6,.b,.b],.fp none (cs [I]),.fm .nil true (cs [I])])⟩],Yhi lo⟩
noncomputable def Yxh(lo:Lo):LL:=(Ye1 lo,q95_J18_b.er)::Yne lo
theorem Yxi(lo:Lo):Lk lo pf (fs95 lo) 3 (Yxh lo):=
  .m (Yxf lo) (it:=12) (nx:=13) (mo:=14) (out:=0) (own:=(Ye1 lo).own) (g0:=(Ye1 lo).g) (outs:=(Ye1 lo).outs) (g:=Yxg) (pre:=Ynf) (bb:=Yng) (rest:=Ynh) (p:=YeZ) (t:=Ydh lo) (r:=Ye0 lo) (u:=Yni lo) (by kernel_rfl) (fun x=>by kernel_rfl) (fun x b=>by kernel_rfl) (fun x=>by kernel_rfl) (fun x=>by kernel_rfl) rfl
noncomputable def q95(lo:Lo)(x0_0:Int)(x0_1:Int)(h1_0:Int)(h1_1:List (Int×Int×Int×Zt0))(h1_2:Bool)(h1_3:Bool)(h2_0:Int)(h2_1:List (Int×ByteArray× (List Int))):Option (Int×Int×Int×Zt2×Bool×Bool×Int×Zt1×Zt8):=
  YCV (Yhi lo (x0_0,x0_1,h1_0,h1_1,h1_2,h1_3,h2_0,h2_1,[])) fun y400=>some (y400.1,y400.2.1,y400.2.2.1,y400.2.2.2.1,y400.2.2.2.2.1,y400.2.2.2.2.2.1,y400.2.2.2.2.2.2.1,y400.2.2.2.2.2.2.2.1,y400.2.2.2.2.2.2.2.2)
def Yxj:VFn:=⟨true,41,[.t 2],
 (Rg [o 2 (.mv (ke Zc9))]
 (Rg [o 3 (.mv (ke (cs [.s])))]
 (.jn 18 q95_J18_b)))⟩
noncomputable def Ynj(lo:Lo):FnE:=Zfe 340 false (Zsg [0] [.ptr 0 0 0] [.st [.j,.i .u32,.np 1,.np 2],.st [.j,.l Zc6,.b,.b],.fp none (cs [I])]) (.ref 3) [.st [.j,.i .u32,.np 1,.np 2],.st [.j,.l Zc6,.b,.b],.fp none (cs [I]),.fm .nil true (cs [I])] (fun x=>q95 lo x.1 x.2.1 x.2.2.1 x.2.2.2.1 x.2.2.2.2.1 x.2.2.2.2.2.1 x.2.2.2.2.2.2.1 x.2.2.2.2.2.2.2:Zp28->Option (Int×Int×Int×Zt2×Bool×Bool×Int×Zt1×Zt8))
noncomputable def fs96(lo:Lo):List FnE:=Ynj lo::fs95 lo
theorem Yxk(h:GZ P fm fs95 lo)(t:Ti P fm 340 Yxj):GZ P fm fs96 lo:=
  h.i (Ynj lo) (Yxi lo) t
def q96_L3_b:VCode:=
 (Rg [oR 9 .lss 8 7]
 (.seq (Ce 9 0)
 (.seq (.blk 1 (Rg [oM 10 8,oM 5 10]
 (Rg [oM 11 1,oM 12 0,oM 13 5,oI 14 3 12 13,oT 15 3 14,o 16 (.dyn 11 [15])]
 (.cond 16 (Rg [oM 17 5,oM 4 17]
 .ret)
 .skip))))
 (.reg [oR 18 .add 8 (k 1),oM 8 18]))))
def Ye2(lo:Lo):Int×Int×Zt0×Int×Int->Option ((Int×Int×Zt0×Int×Int)⊕ ((Int×Zt0×Int×Int)⊕ (Zt0×Int×Int))):=fun x=>match x with
  | (v7,v8,s0,h1,h2)=>bif(decide (v8<v7))then(chk (0<=v8/\v8< (s0.length:Int)) (YCV (q4 lo ((s0.getD v8.toNat Zd1).1) ((s0.getD v8.toNat Zd1).2.1) ((s0.getD v8.toNat Zd1).2.2)) fun y404=>bif y404 then(some (.inr (.inl (v8,s0,h1,h2))))else(some (.inl (v7,(YDf .i64 (v8+1)),s0,h1,h2)))))else(some (.inr (.inr (s0,h1,h2))))
def Yhj(lo:Lo):Int×Int×Zt0×Int×Int->Option ((Int×Zt0×Int×Int)⊕ (Zt0×Int×Int)):=lo.run (Ye2 lo)
def Yxl(lo:Lo):LpE:=⟨3,[],(Zsg [0,1,7,8] [.ref 0,.clo 360 [],.j,.j] [.sq Zc3,.st [.j,.ref 0],.st [.j,.ref 0]]),[⟨.ret,(Zsg [4] [.j] [.sq Zc3,.st [.j,.ref 0],.st [.j,.ref 0]])⟩,⟨.exit 0,(Zsg [] [] [.sq Zc3,.st [.j,.ref 0],.st [.j,.ref 0]])⟩],Yhj lo⟩
def Yxm(lo:Lo):LL:=(Yxl lo,.loop q96_L3_b.er)::[]
theorem Yxn(lo:Lo):Lk lo pf (fs96 lo) 3 (Yxm lo):=.l .n (Ye2 lo)
def q96(lo:Lo)(s0:List (Int×Int×ByteArray))(h1:Int)(h2:Int):Option (Int×Zt0×Int×Int):=
  YCV (Yhj lo ((s0.length:Int),(0:Int),s0,h1,h2)) fun y405=>alt2 y405 (fun y406=>some (y406.1,y406.2.1,y406.2.2.1,y406.2.2.2)) (fun y407=>some ((-1:Int),y407.1,y407.2.1,y407.2.2))
def Yxo:VFn:=⟨true,19,[.t 4],
 (Rg [oK 4 0]
 (.seq (Rg [oM 6 0,oN 7 6,oK 8 0]
 (.blk 0 (.loop 3 q96_L3_b)))
 (Rg [oK 4 (-1)]
 .ret)))⟩
def Ynk(lo:Lo):FnE:=Zfe 309 false (Zsg [0,1] [.ref 0,.clo 360 []] [.sq Zc3,.st [.j,.ref 0],.st [.j,.ref 0]]) (.i .i64) [.sq Zc3,.st [.j,.ref 0],.st [.j,.ref 0]] (fun x=>q96 lo x.1 x.2.1 x.2.2:Zt0×Int×Int->Option (Int×Zt0×Int×Int))
noncomputable def fs97(lo:Lo):List FnE:=Ynk lo::fs96 lo
theorem Yxp(h:GZ P fm fs96 lo)(t:Ti P fm 309 Yxo):GZ P fm fs97 lo:=
  h.i (Ynk lo) (Yxn lo) t
def q97(lo:Lo)(s0:List (Int×Int×ByteArray))(h1:Int)(h2:Int):Option (Bool×Zt0×Int×Int):=
  YCV (q96 lo s0 h1 h2) fun y408=>chk (y408.2.1.length=s0.length) (some ((decide ((0:Int)<=y408.1)),y408.2.1,y408.2.2.1,y408.2.2.2))
def Yxq:VFn:=⟨true,9,[.t 4],
 (Rg [oB 4 false]
 (Rg [oM 5 0,oM 6 1,oC 7 309 [5,6],oR 8 .geq 7 (k 0),oM 4 8]
 .ret))⟩
def Ynl(lo:Lo):FnE:=Zfe 293 false (Zsg [0,1] [.ref 0,.clo 360 []] [.sq Zc3,.st [.j,.ref 0],.st [.j,.ref 0]]) .b [.sq Zc3,.st [.j,.ref 0],.st [.j,.ref 0]] (fun x=>q97 lo x.1 x.2.1 x.2.2:Zt0×Int×Int->Option (Bool×Zt0×Int×Int))
noncomputable def fs98(lo:Lo):List FnE:=Ynl lo::fs97 lo
theorem Yxr(h:GZ P fm fs97 lo)(t:Ti P fm 293 Yxq):GZ P fm fs98 lo:=
  h.i (Ynl lo) .n t
def q98_L3_b:VCode:=
 (Rg [oR 12 .lss 11 10]
 (.seq (Ce 12 0)
 (.seq (.blk 1 (Rg [oM 13 11,oI 14 3 9 11,oT 15 3 14,o 7 (.alloc [.i .i64 0,.i .i64 0,.s (⟨#[]⟩)]),oM 6 13,oS 3 7 15]
 (Rg [oM 16 0,o 17 (.nilc 16),oF 18 1 17,oL 19 18,oM 20 6,oR 21 .shr 19 20,oR 22 .and 21 (ki .u32 1),oR 23 .eql 22 (ki .u32 1)]
 (.cond 23 (.reg [oM 24 5,oT 25 3 7,o 26 (.bsl Zc3 1 [(0,25)]),o 27 (.app Zc3 0 24 26),oM 5 27])
 .skip))))
 (.reg [oR 28 .add 11 (k 1),oM 11 28]))))
def Ye3(lo:Lo):Zp19->Option (Zp19⊕ ((Int×Int×Zt0×Int×Zt2×Bool×Bool×Int×Zt1×Int×Int×Zt0))):=fun x=>match x with
  | (v10,v11,x0_0,x0_1,v9,h2_0,h2_1,h2_2,h2_3,h3_0,h3_1,h4,h5,out5)=>bif(decide (v11<v10))then(chk (0<=v11/\v11< (v9.length:Int)) (chk (0<=v11) (bif(decide ((bits .and .u32 (x0_1.fdiv (2^(min v11.toNat (IntKind.bits .u32)))) (1:Int))=(1:Int)))then(chk (out5.length+([(v9.getD v11.toNat Zd1)]).length<=maxEl) (some (.inl (v10,(YDf .i64 (v11+1)),x0_0,x0_1,v9,h2_0,h2_1,h2_2,h2_3,h3_0,h3_1,h4,h5,(out5++([(v9.getD v11.toNat Zd1)]))))))else(some (.inl (v10,(YDf .i64 (v11+1)),x0_0,x0_1,v9,h2_0,h2_1,h2_2,h2_3,h3_0,h3_1,h4,h5,out5))))))else(some (.inr (x0_0,x0_1,v9,h2_0,h2_1,h2_2,h2_3,h3_0,h3_1,h4,h5,out5)))
def Yhk(lo:Lo):Zp19->Option ((Int×Int×Zt0×Int×Zt2×Bool×Bool×Int×Zt1×Int×Int×Zt0)):=lo.run (Ye3 lo)
def Yxs(lo:Lo):LpE:=⟨3,[(5,none,false)],(Zsg [0,5,9,10,11] [.ptr 0 0 0,.ref 6,.ref 1,.j,.j] [.st [.j,.i .u32,.np 2,.np 3],.sq Zc3,.st [.j,.l Zc6,.b,.b],.fp none (cs [I]),.st [.j,.ref 1],.st [.j,.ref 1],.sq Zc3]),[⟨.exit 0,(Zsg [0,5] [.ptr 0 0 0,.ref 6] [.st [.j,.i .u32,.np 2,.np 3],.sq Zc3,.st [.j,.l Zc6,.b,.b],.fp none (cs [I]),.st [.j,.ref 1],.st [.j,.ref 1],.sq Zc3])⟩],Yhk lo⟩
def Yxt(lo:Lo):LL:=(Yxs lo,.loop q98_L3_b.er)::[]
theorem Yxu(lo:Lo):Lk lo pf (fs98 lo) 6 (Yxt lo):=.l .n (Ye3 lo)
def q98(lo:Lo)(r1:Int)(x0_0:Int)(x0_1:Int)(h1:List (Int×Int×ByteArray))(h2_0:Int)(h2_1:List (Int×Int×Int×Zt0))(h2_2:Bool)(h2_3:Bool)(h3_0:Int)(h3_1:List (Int×ByteArray× (List Int)))(h4:Int)(h5:Int):Option (Int×Int×Zt0×Int×Zt2×Bool×Bool×Int×Zt1×Int×Int×Zt0):=
  YCV (Yhk lo ((h1.length:Int),(0:Int),x0_0,x0_1,h1,h2_0,h2_1,h2_2,h2_3,h3_0,h3_1,h4,h5,[])) fun y411=>some (y411.1,y411.2.1,y411.2.2.1,y411.2.2.2.1,y411.2.2.2.2.1,y411.2.2.2.2.2.1,y411.2.2.2.2.2.2.1,y411.2.2.2.2.2.2.2.1,y411.2.2.2.2.2.2.2.2.1,y411.2.2.2.2.2.2.2.2.2.1,y411.2.2.2.2.2.2.2.2.2.2.1,y411.2.2.2.2.2.2.2.2.2.2.2)
def Yxv:VFn:=⟨true,30,[.t 4],
 (Rg [oG 3 1,o 4 (.mv (ke Zc3))]
 (Rg [o 5 (.mv (ke Zc3))]
 (.seq (Rg [oF 8 1 3,oL 9 8,oN 10 9,oK 11 0]
 (.blk 0 (.loop 3 q98_L3_b)))
 (Rg [oM 29 5,oM 4 29]
 .ret))))⟩
def Ynm(lo:Lo):FnE:=Zfe 362 false (Zsg [0,1] [.ptr 0 0 0,.ag [.j,.ref 1]] [.st [.j,.i .u32,.np 2,.np 3],.sq Zc3,.st [.j,.l Zc6,.b,.b],.fp none (cs [I]),.st [.j,.ref 1],.st [.j,.ref 1]]) (.ref 6) [.st [.j,.i .u32,.np 2,.np 3],.sq Zc3,.st [.j,.l Zc6,.b,.b],.fp none (cs [I]),.st [.j,.ref 1],.st [.j,.ref 1],.sq Zc3] (fun x=>q98 lo x.1 x.2.1 x.2.2.1 x.2.2.2.1 x.2.2.2.2.1 x.2.2.2.2.2.1 x.2.2.2.2.2.2.1 x.2.2.2.2.2.2.2.1 x.2.2.2.2.2.2.2.2.1 x.2.2.2.2.2.2.2.2.2.1 x.2.2.2.2.2.2.2.2.2.2.1 x.2.2.2.2.2.2.2.2.2.2.2:Int×Int×Int×Zt0×Int×Zt2×Bool×Bool×Int×Zt1×Int×Int->Option (Int×Int×Zt0×Int×Zt2×Bool×Bool×Int×Zt1×Int×Int×Zt0))
noncomputable def fs99(lo:Lo):List FnE:=Ynm lo::fs98 lo
theorem Yxw(h:GZ P fm fs98 lo)(t:Ti P fm 362 Yxv):GZ P fm fs99 lo:=
  h.i (Ynm lo) (Yxu lo) t
def q99(lo:Lo)(r1:Int)(x0_0:Int)(x0_1:Int)(h1:List (Int×Int×ByteArray))(h2_0:Int)(h2_1:List (Int×Int×Int×Zt0))(h2_2:Bool)(h2_3:Bool)(h3_0:Int)(h3_1:List (Int×ByteArray× (List Int)))(h4:Int):Option Zp25:=
  bif(!decide ((h1.length:Int)=x0_0))then(some ((6:Int),x0_0,x0_1,h1,h2_0,h2_1,h2_2,h2_3,h3_0,h3_1,h4))else(bif(decide (r1<=0))then(some ((1:Int),x0_0,x0_1,h1,h2_0,h2_1,h2_2,h2_3,h3_0,h3_1,h4))else(YCV (q97 lo h1 h4 r1) fun y409=>chk (y409.2.1.length=h1.length) (bif y409.1 then(some ((1:Int),x0_0,x0_1,y409.2.1,h2_0,h2_1,h2_2,h2_3,h3_0,h3_1,y409.2.2.1))else(bif(mhs eqI y409.2.2.2 h2_1)then(some ((5:Int),x0_0,x0_1,y409.2.1,h2_0,h2_1,h2_2,h2_3,h3_0,h3_1,y409.2.2.1))else(YCV (q7 lo y409.2.1) fun y410=>YCV (q98 lo y409.2.2.2 x0_0 x0_1 y409.2.1 (mck eqI h2_0 y409.2.2.2 h2_1) (mpt eqI h2_0 y409.2.2.2 (y409.2.2.2,y410) h2_1) h2_2 h2_3 h3_0 h3_1 y409.2.2.1 y409.2.2.2) fun y412=>chk (y412.2.2.1.length=y409.2.1.length) (YCV (q14 lo y412.2.2.2.2.2.2.2.2.2.2.2) fun y413=>YCV (q18 lo ((y412.2.2.2.2.2.2.2.2.1.getD (mix eqS y413 y412.2.2.2.2.2.2.2.2.1) ((0:Int),(YDe #[]),[])).2.2) y412.2.2.2.2.2.2.2.2.2.2.1) fun y414=>bif YCK (mix eqS y413 y412.2.2.2.2.2.2.2.2.1) y412.2.2.2.2.2.2.2.2.1.length then(YCV (q19 lo y414.1 [y412.2.2.2.2.2.2.2.2.2.2.1] ((y412.2.2.2.2.2.2.2.2.1.getD (mix eqS y413 y412.2.2.2.2.2.2.2.2.1) ((0:Int),(YDe #[]),[])).2.2)) fun y415=>chk (mix eqS y413 y412.2.2.2.2.2.2.2.2.1=(mix eqS y413 y412.2.2.2.2.2.2.2.2.1)) (some ((0:Int),y412.1,y412.2.1,y412.2.2.1,y412.2.2.2.1,y412.2.2.2.2.1,y412.2.2.2.2.2.1,y412.2.2.2.2.2.2.1,(mck eqS y412.2.2.2.2.2.2.2.1 y413 y412.2.2.2.2.2.2.2.2.1),(mpt eqS y412.2.2.2.2.2.2.2.1 y413 y415 y412.2.2.2.2.2.2.2.2.1),y412.2.2.2.2.2.2.2.2.2.1)))else(YCV (q20 lo y414.1 [y412.2.2.2.2.2.2.2.2.2.2.1]) fun y416=>some ((0:Int),y412.1,y412.2.1,y412.2.2.1,y412.2.2.2.1,y412.2.2.2.2.1,y412.2.2.2.2.2.1,y412.2.2.2.2.2.2.1,(mck eqS y412.2.2.2.2.2.2.2.1 y413 y412.2.2.2.2.2.2.2.2.1),(mpt eqS y412.2.2.2.2.2.2.2.1 y413 y416 y412.2.2.2.2.2.2.2.2.1),y412.2.2.2.2.2.2.2.2.2.1))))))))
def Yxx:VFn:=⟨true,81,[.t 4],
 (Rg [oG 3 1,oK 4 0]
 (.seq (Rg [oF 10 1 3,oL 11 10,oN 12 11,oM 13 0,o 14 (.nilc 13),oF 15 0 14,oL 16 15,oR 17 .neq 12 16]
 (.cond 17 (Rg [oK 4 6]
 .ret)
 .skip))
 (.seq (Rg [oF 18 0 3,oL 19 18,oR 20 .leq 19 (k 0),oM 21 20,gF 22 21 (.fad 1 3),gF 23 21 (.load false 1 22),gF 24 21 (.call 293 [23,(.c (.f 360))]),oP 25 21 (kb true) 24]
 (.cond 25 (Rg [oK 4 1]
 .ret)
 .skip))
 (.seq (Rg [oM 27 0,o 28 (.nilc 27),oF 29 2 28,⟨some 30,.load false 1 29,none,true,false⟩,oF 31 0 3,⟨some 32,.load false 1 31,none,true,false⟩,⟨some 33,.mget (some .i64) I Zc10 true true 30 32,none,true,false⟩,oM 26 33,oE 34 26 0,oE 35 26 1,o 5 (.alloc [.i .i64 0,.e Zc3]),oS 2 5 34,oM 6 35]
 (Rg [oM 36 6]
 (.cond 36 (Rg [oK 4 5]
 .ret)
 .skip)))
 (Rg [oM 37 0,o 38 (.nilc 37),oF 39 2 38,⟨some 40,.load false 1 39,none,true,false⟩,oF 41 0 3,⟨some 42,.load false 1 41,none,true,false⟩,oF 43 0 3,⟨some 44,.load false 1 43,none,true,false⟩,oF 45 1 3,oL 46 45,o 47 (.callN 308 [46] true),o 48 (.build [.i .i64 0,.e Zc3] [(0,1,44),(1,1,47)]),on (.mput (some .i64) I Zc10 true 40 42 48)]
 (Rg [oM 49 0,oT 50 2 3,oC 51 362 [49,50],oC 52 361 [51],oM 7 52]
 (Rg [oM 54 0,o 55 (.nilc 54),oF 56 3 55,oL 57 56,oM 58 7,o 59 (.mget none (.l (cs [I])) (cs []) false false 57 58),oF 60 0 3,oL 61 60,oC 62 363 [59,61],oM 53 62,oE 63 53 0,oE 64 53 1,oM 8 63,oM 9 64]
 (.seq (.regN [4000000,1000000000008] [oM 65 0,o 66 (.nilc 65),oF 67 3 66,⟨some 68,.load false 1 67,none,true,false⟩,oM 69 7,oM 70 0,o 71 (.nilc 70),oF 72 3 71,oL 73 72,oM 74 7,o 75 (.mget none (.l (cs [I])) (cs []) false false 73 74),oM 76 8,oF 77 0 3,oL 78 77,o 79 (.bsl (cs [I]) 1 [(0,78)]),⟨some 80,.callF 364 [75,76,79],none,false,true⟩,on (.mput none (.l (cs [I])) (cs []) false 68 69 80)])
 (Rg [oK 4 0]
 .ret)))))))))⟩
def Ynn(lo:Lo):FnE:=Zfe 343 false (Zsg [0,1] [.ptr 0 0 0,.ag [.j,.ref 1]] [.st [.j,.i .u32,.np 2,.np 3],.sq Zc3,.st [.j,.l Zc6,.b,.b],.fp none (cs [I]),.st [.j,.ref 1]]) (.i .i64) [.st [.j,.i .u32,.np 2,.np 3],.sq Zc3,.st [.j,.l Zc6,.b,.b],.fp none (cs [I]),.st [.j,.ref 1]] (fun x=>q99 lo x.1 x.2.1 x.2.2.1 x.2.2.2.1 x.2.2.2.2.1 x.2.2.2.2.2.1 x.2.2.2.2.2.2.1 x.2.2.2.2.2.2.2.1 x.2.2.2.2.2.2.2.2.1 x.2.2.2.2.2.2.2.2.2.1 x.2.2.2.2.2.2.2.2.2.2:Zp25->Option Zp25)
noncomputable def YAs(lo:Lo):List FnE:=Ynn lo::fs99 lo
theorem Yxy(h:GZ P fm fs99 lo)(t:Ti P fm 343 Yxx):GZ P fm YAs lo:=
  h.i (Ynn lo) .n t
end Go.Abs.G3m
namespace Go.Abs.G3m
open Go Go.Abs
set_option maxRecDepth 100000
set_option maxHeartbeats 1000000
variable{P:Program}{fm:FM}{lo:Lo}
def q100_L16_b:VCode:=
 (Rg [oR 72 .lss 71 70]
 (.seq (Ce 72 0)
 (.seq (.blk 1 (Rg [oM 73 71,oM 12 73]
 (.reg [oF 74 1 10,oL 75 74,oM 76 12,o 77 (.build [.i .i64 0,.i .i64 0,.s (⟨#[]⟩)] [(0,1,(k 1)),(1,1,(k 99))]),oI 78 3 75 76,oS 3 78 77])))
 (.reg [oR 79 .add 71 (k 1),oM 71 79]))))
def Ye4(lo:Lo):Zp15->Option (Zp15⊕ ((Int×Int×Int×Int×Int×Zt5×Int×Zt2×Bool×Bool×Int×Zt1))):=fun x=>match x with
  | (i9,v70,v71,x7_0,x7_1,m8_0,m8_1,m8_2,r10,h3_0,h3_1,h3_2,h3_3,h4_0,h4_1,h5)=>bif(decide (v71<v70))then(chk (0<=v71/\v71< (h5.length:Int)) (some (.inl (i9,v70,(YDf .i64 (v71+1)),x7_0,x7_1,m8_0,m8_1,m8_2,r10,h3_0,h3_1,h3_2,h3_3,h4_0,h4_1,(h5.set v71.toNat ((1:Int),(99:Int),(YDe #[])))))))else(some (.inr (i9,x7_0,x7_1,m8_0,m8_1,m8_2,h3_0,h3_1,h3_2,h3_3,h4_0,h4_1)))
def Ye5(lo:Lo):Zp15->Option ((Int×Int×Int×Int×Int×Zt5×Int×Zt2×Bool×Bool×Int×Zt1)):=lo.run (Ye4 lo)
def Yxz(lo:Lo):LpE:=⟨16,[],(Zsg [7,8,9,10,70,71] [.ptr 0 0 0,.ptr 1 0 0,.j,.ptr 2 0 0,.j,.j] [.st [.j,.i .u32,.np 3,.np 4],.st [.j,.i .u32,.l Zc7],.st [.j,.ref 5],.st [.j,.l Zc6,.b,.b],.fp none (cs [I]),.sq Zc3]),[⟨.exit 0,(Zsg [7,8,9] [.ptr 0 0 0,.ptr 1 0 0,.j] [.st [.j,.i .u32,.np 2,.np 3],.st [.j,.i .u32,.l Zc7],.st [.j,.l Zc6,.b,.b],.fp none (cs [I])])⟩],Ye5 lo⟩
def Yno(lo:Lo):LL:=(Yxz lo,.loop q100_L16_b.er)::[]
theorem YxA(lo:Lo):Lk lo pf (YAs lo) 0 (Yno lo):=.l .n (Ye4 lo)
def q100_L9_b:VCode:=
 (Rg [oR 84 .lss 83 82]
 (.seq (Ce 84 2)
 (.seq (.blk 3 (Rg [oI 85 1 81 83,oL 86 85,oM 14 86]
 (.reg [oM 87 14,o 88 (.iad 1 87 (k 0)),on (.store 1 88 (k (-1)))])))
 (.reg [oR 89 .add 83 (k 1),oM 83 89]))))
def Ye6(lo:Lo):Zp16->Option (Zp16⊕ ((Int×Int×Int×Int×Int×Zt5×Int×Zt2×Bool×Bool×Int×Zt1))):=fun x=>match x with
  | (i9,v82,v83,x7_0,x7_1,m8_0,m8_1,m8_2,v81,h3_0,h3_1,h3_2,h3_3,h4_0,h4_1)=>bif(decide (v83<v82))then(chk (0<=v83/\v83< (v81.length:Int)) (chk (0<=(0:Int)/\ (0:Int)< (((v81.getD v83.toNat []).length:Nat):Int)) (some (.inl (i9,v82,(YDf .i64 (v83+1)),x7_0,x7_1,m8_0,m8_1,m8_2,(v81.set v83.toNat ((v81.getD v83.toNat []).set 0 (-1:Int))),h3_0,h3_1,h3_2,h3_3,h4_0,h4_1)))))else(some (.inr (i9,x7_0,x7_1,m8_0,m8_1,m8_2,h3_0,h3_1,h3_2,h3_3,h4_0,h4_1)))
def Ye7(lo:Lo):Zp16->Option ((Int×Int×Int×Int×Int×Zt5×Int×Zt2×Bool×Bool×Int×Zt1)):=lo.run (Ye6 lo)
def YxB(lo:Lo):LpE:=⟨9,[],(Zsg [7,8,9,81,82,83] [.ptr 0 0 0,.ptr 1 0 0,.j,.ref 2,.j,.j] [.st [.j,.i .u32,.np 3,.np 4],.st [.j,.i .u32,.l Zc7],.fm .nil true (cs [I]),.st [.j,.l Zc6,.b,.b],.fp none (cs [I])]),[⟨.exit 2,(Zsg [7,8,9] [.ptr 0 0 0,.ptr 1 0 0,.j] [.st [.j,.i .u32,.np 2,.np 3],.st [.j,.i .u32,.l Zc7],.st [.j,.l Zc6,.b,.b],.fp none (cs [I])])⟩],Ye7 lo⟩
def YxC(lo:Lo):LL:=(YxB lo,.loop q100_L9_b.er)::Yno lo
theorem YxD(lo:Lo):Lk lo pf (YAs lo) 0 (YxC lo):=.l (YxA lo) (Ye6 lo)
noncomputable def q100(lo:Lo)(z0_0:Int)(z0_1:Int)(l1:List (Bool×Int× (List Int)))(k2:Int):Option Bool:=
  YCV (q56 lo) fun y385=>bif(!y385)then(YCV (q56 lo) fun y386=>some y386)else(bif(decide ((20:Int)< (l1.length:Int)))then(YCV (q56 lo) fun y387=>some y387)else(altO (q61 lo z0_0 z0_1) (fun y388=>YCV (q70 lo l1 y388.2.2.2.1 y388.2.2.2.2.1 y388.1 y388.2.1 y388.2.2.1 y388.2.2.2.2.2.1 y388.2.2.2.2.2.2.1 y388.2.2.2.2.2.2.2.1 y388.2.2.2.2.2.2.2.2.1 y388.2.2.2.2.2.2.2.2.2.1 y388.2.2.2.2.2.2.2.2.2.2) fun y389=>bif(!y389.1)then(some false)else(bif(decide ((y389.2.2.2.2.2.1.length:Int)=0))then(YCV (q85 lo y389.2.2.2.1 y389.2.2.2.2.1 y389.2.2.2.2.2.1 y389.2.1 y389.2.2.1 y389.2.2.2.2.2.2.1 y389.2.2.2.2.2.2.2.1 y389.2.2.2.2.2.2.2.2.1 y389.2.2.2.2.2.2.2.2.2.1 y389.2.2.2.2.2.2.2.2.2.2.1 y389.2.2.2.2.2.2.2.2.2.2.2) fun y390=>some y390.1)else(bif(decide (y389.2.2.2.1=(0:Int)))then(YCV (q85 lo y389.2.2.2.1 y389.2.2.2.2.1 y389.2.2.2.2.2.1 y389.2.1 y389.2.2.1 y389.2.2.2.2.2.2.1 y389.2.2.2.2.2.2.2.1 y389.2.2.2.2.2.2.2.2.1 y389.2.2.2.2.2.2.2.2.2.1 y389.2.2.2.2.2.2.2.2.2.2.1 y389.2.2.2.2.2.2.2.2.2.2.2) fun y391=>some y391.1)else(chk ((y389.2.2.2.2.2.1.length:Int)≠0) (chk (0<=((YDf .i64 k2).tmod (y389.2.2.2.2.2.1.length:Int))/\ ((YDf .i64 k2).tmod (y389.2.2.2.2.2.1.length:Int))< (y389.2.2.2.2.2.1.length:Int)) (YCV (q83 lo ((y389.2.2.2.2.2.1.getD (((YDf .i64 k2).tmod (y389.2.2.2.2.2.1.length:Int)).toNat) ((0:Int),[])).1) y389.2.1 y389.2.2.1 y389.2.2.2.2.2.2.1 y389.2.2.2.2.2.2.2.1 y389.2.2.2.2.2.2.2.2.1 y389.2.2.2.2.2.2.2.2.2.1 y389.2.2.2.2.2.2.2.2.2.2.1 y389.2.2.2.2.2.2.2.2.2.2.2) fun y392=>bif(!y392.2.1)then(some false)else(YCV (Ye5 lo (((YDf .i64 k2).tmod (y389.2.2.2.2.2.1.length:Int)),(y392.2.2.2.2.2.2.2.2.2.2.length:Int),(0:Int),y392.2.2.1,y392.2.2.2.1,y389.2.2.2.1,y389.2.2.2.2.1,y389.2.2.2.2.2.1,y392.1,y392.2.2.2.2.1,y392.2.2.2.2.2.1,y392.2.2.2.2.2.2.1,y392.2.2.2.2.2.2.2.1,y392.2.2.2.2.2.2.2.2.1,y392.2.2.2.2.2.2.2.2.2.1,y392.2.2.2.2.2.2.2.2.2.2)) fun y393=>altO (q95 lo y393.2.1 y393.2.2.1 y393.2.2.2.2.2.2.1 y393.2.2.2.2.2.2.2.1 y393.2.2.2.2.2.2.2.2.1 y393.2.2.2.2.2.2.2.2.2.1 y393.2.2.2.2.2.2.2.2.2.2.1 y393.2.2.2.2.2.2.2.2.2.2.2) (fun y401=>YCV (Ye7 lo (y393.1,(y401.2.2.2.2.2.2.2.2.length:Int),(0:Int),y401.1,y401.2.1,y393.2.2.2.1,y393.2.2.2.2.1,y393.2.2.2.2.2.1,y401.2.2.2.2.2.2.2.2,y401.2.2.1,y401.2.2.2.1,y401.2.2.2.2.1,y401.2.2.2.2.2.1,y401.2.2.2.2.2.2.1,y401.2.2.2.2.2.2.2.1)) fun y402=>chk (0<=y402.1/\y402.1< (y402.2.2.2.2.2.1.length:Int)) (YCV (q7 lo ((y402.2.2.2.2.2.1.getD y402.1.toNat ((0:Int),[])).2)) fun y403=>YCV (q99 lo (500:Int) y402.2.1 y402.2.2.1 y403 y402.2.2.2.2.2.2.1 y402.2.2.2.2.2.2.2.1 y402.2.2.2.2.2.2.2.2.1 y402.2.2.2.2.2.2.2.2.2.1 y402.2.2.2.2.2.2.2.2.2.2.1 y402.2.2.2.2.2.2.2.2.2.2.2 (500:Int)) fun y417=>chk (y417.2.2.2.1.length=y403.length) (bif(!decide (y417.1=(0:Int)))then(some false)else(chk (0<=(0:Int)/\ (0:Int)< (y417.2.2.2.1.length:Int)) (chk (0<=y402.1/\y402.1< (y402.2.2.2.2.2.1.length:Int)) (YCV (q69 lo y402.2.2.2.1 y402.2.2.2.2.1 y402.2.2.2.2.2.1 (500:Int) ((y402.2.2.2.2.2.1.getD y402.1.toNat ((0:Int),[])).2)) fun y418=>YCV (q85 lo y418.1 y418.2.1 y418.2.2.1 y417.2.1 y417.2.2.1 y417.2.2.2.2.1 y417.2.2.2.2.2.1 y417.2.2.2.2.2.2.1 y417.2.2.2.2.2.2.2.1 y417.2.2.2.2.2.2.2.2.1 y417.2.2.2.2.2.2.2.2.2.1) fun y419=>some y419.1)))))) (YCV (q38 lo y393.2.1 y393.2.2.1 y393.2.2.2.2.2.2.1 y393.2.2.2.2.2.2.2.1 y393.2.2.2.2.2.2.2.2.1 y393.2.2.2.2.2.2.2.2.2.1 y393.2.2.2.2.2.2.2.2.2.2.1 y393.2.2.2.2.2.2.2.2.2.2.2) fun y420=>none)))))))) (YCV (q60 lo z0_0 z0_1) fun y421=>some false)))
def YxE:VFn:=⟨true,121,[.t 6],
 (Rg [oG 3 0,oB 6 false]
 (.seq (Rg [oC 16 336 [],oX 17 16,oM 18 17,gF 19 18 (.mv 1),gF 20 18 (.len 19),gF 21 18 (.bin .gtr 20 (k 20)),oP 22 18 (kb true) 21]
 (.cond 22 (Rg [oC 23 336 [],oM 6 23]
 (Fr 6))
 .skip))
 (Rg [oT 25 2 3,oC 26 341 [25],oM 24 26,oE 27 24 0,oE 28 24 1,o 8 (.alloc [.i .i64 0,.i .u32 0,.e Zc7]),oM 7 27,oS 3 8 28]
 (.seq (Rg [oM 29 7,o 30 (.isp false 29),oM 31 30,gF 32 31 (.mv 7),gF 33 31 (.mv 1),gF 34 31 (.call 342 [32,8,33]),gF 35 31 (.not 34),oP 36 31 (kb true) 35]
 (.cond 36 (Rg [oB 6 false]
 (Fr 6))
 .skip))
 (.seq (Rg [oF 37 2 8,oL 38 37,oN 39 38,oR 40 .eql 39 (k 0),oM 41 40,gF 42 41 (.fad 0 8),gF 43 41 (.load false 1 42),gF 44 41 (.bin .eql 43 (k 0)),oP 45 41 (kb true) 44]
 (.cond 45 (Rg [oM 46 7,oT 47 3 8,oC 48 349 [46,47],oM 6 48]
 (Fr 6))
 .skip))
 (Rg [oM 49 2,o 50 (.conv .i64 49),oF 51 2 8,oL 52 51,oN 53 52,oR 54 .rem 50 53,oM 9 54]
 (Rg [oM 56 7,oF 57 2 8,oL 58 57,oM 59 9,oI 60 2 58 59,oF 61 0 60,oL 62 61,oC 63 353 [56,62],oM 55 63,oE 64 55 0,oE 65 55 1,o 10 (.alloc [.i .i64 0,.e Zc3]),oS 2 10 64,oM 11 65]
 (.seq (Rg [oM 66 11,oX 67 66]
 (.cond 67 (Rg [oB 6 false]
 (Fr 6))
 .skip))
 (.seq (Rg [oF 68 1 10,oL 69 68,oN 70 69,oK 71 0]
 (.blk 0 (.loop 16 q100_L16_b)))
 (.seq (Rg [oM 80 7,oC 81 340 [80],oN 82 81,oK 83 0]
 (.blk 2 (.loop 9 q100_L9_b)))
 (Rg [oF 90 2 8,oL 91 90,oM 92 9,oI 93 2 91 92,oF 94 1 93,oL 95 94,oC 96 308 [95],o 97 (.build [.i .i64 0,.e Zc3] [(0,1,(k 500)),(1,1,96)]),o 15 (.alloc [.i .i64 0,.e Zc3]),oS 2 15 97]
 (.seq (Rg [oM 98 7,oT 99 2 15,oC 100 343 [98,99],oR 101 .neq 100 (k 0)]
 (.cond 101 (Rg [oB 6 false]
 (Fr 6))
 .skip))
 (Rg [oF 102 1 15,oL 103 102,o 104 (.build [.i .i64 0,.i .i64 0,.s (⟨#[]⟩)] [(0,1,(k 1)),(1,1,(k 98))]),o 105 (.iad 3 103 (k 0)),oS 3 105 104]
 (Rg [oT 107 3 8,oF 108 2 8,oL 109 108,oM 110 9,oI 111 2 109 110,oF 112 1 111,oL 113 112,o 114 (.build [.i .i64 0,.e Zc3] [(0,1,(k 500)),(1,1,113)]),oC 115 350 [107,114],oM 106 115,oE 116 106 0,oE 117 106 1,oS 3 8 116]
 (Rg [oM 118 7,oT 119 3 8,oC 120 349 [118,119],oM 6 120]
 (Fr 6))))))))))))))))⟩
noncomputable def q100_f(lo:Lo):FnE:=Zfe 334 true (Zsg [0,1,2] [.ag [.i .u8,.i .u32],.l (cs [.b,.i .i8,.l (cs [.i .u8])]),.i .u8] []) .b [] (fun x=>q100 lo x.1 x.2.1 x.2.2.1 x.2.2.2:Int×Int×Zt12×Int->Option Bool)
noncomputable def YBQ(lo:Lo):List FnE:=q100_f lo::YAs lo
theorem YxF(h:GZ P fm YAs lo)(t:Ti P fm 334 YxE):GZ P fm YBQ lo:=
  h.p (q100_f lo) (YxD lo) t
end Go.Abs.G3m
