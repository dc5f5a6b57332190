/- Functions of the program as functions of data (written by program). No condition. -/
import Derived.Test.YtlmcnindhfbkhaaGreatDoorB
set_option linter.unusedVariables false
set_option linter.unusedSimpArgs false
set_option linter.unusedSectionVars false
open List renaming mem_cons_self → YH5
open Nat renaming beq → YIq, ble → YIs
open Option renaming bind → YIC
open ByteArray renaming mk → YIU
open Go.IntKind renaming wrap → YIV
namespace Go.Abs.G47
open Go Go.Abs
abbrev Zd0:ByteArray×Int×Int×ByteArray:=((YIU #[]),(0:Int),(0:Int),(YIU #[]))
abbrev Zd1:Int×Int×ByteArray:=((0:Int),(0:Int),(YIU #[]))
abbrev _root_.Go.Abs.SV.j:SV:=.i .i64
mutual
def ZtS:SV->List Ty
 | .i k=>[.i k]
 | .b=>[.b]
 | .s=>[.s]
 | .l c=>[.l c]
 | .pre _=>[I]
 | .ag l=>ZtL l
 | .tp l=>ZtL l
 | .clo _ l=>ZtL l
 |_=>[]
def ZtL:List SV->List Ty
 | []=>[]
 |a::r=>ZtS a++ZtL r
end
def ZtO:List SO->List Ty
 | []=>[]
 | .sq c::r=>.l c::ZtO r
 | .fm c::r=>.l (.cons (.l c) .nil)::ZtO r
 | .st l::r=>ZtL l++ZtO r
 | .sb::r=>.s::ZtO r
 | .dd::r=>ZtO r
abbrev Zsg(t:List Nat)(v:List SV)(o:List SO):Sg:=⟨t,v,o,cs (ZtL v++ZtO o)⟩
abbrev Zfe(g:Nat)(p:Bool)(a:Sg)(r:SV)(o:List SO)(F:a.c.den->Option (cs (ZtS r++ZtO o)).den):FnE:=⟨g,p,a,r,o,_,F⟩
abbrev Zt5:Type:=List (ByteArray×Int×Int×ByteArray)
abbrev Zt0:Type:=List (ByteArray×Zt5)
abbrev Zt4:Type:=List (Int×Int×ByteArray)
abbrev Zt12:Type:=List (Int×Zt4)
abbrev Zt3:Type:=List ByteArray
abbrev Zt1:Type:=List (ByteArray×Zt3×Zt12)
abbrev Zt2:Type:=List (Int×ByteArray×Int×Int×ByteArray)
abbrev Zc10:Cs:=cs [I,I,.s]
abbrev Zc15:Cs:=cs [I,.l Zc10]
abbrev Zc6:Cs:=cs [.s,.l (cs [.s]),.l Zc15]
abbrev Zc11:Cs:=cs [.s,I,I,.s]
abbrev Zc7:Cs:=cs [.s,.l Zc11]
abbrev Zt8:Type:=List (Int×ByteArray×ByteArray×Int×Int×ByteArray)
abbrev Zt9:Type:=List (Int×ByteArray×Zt4)
abbrev Zt13:Type:=List ((List Int))
abbrev Zc14:Cs:=cs [I,.s,I,I,.s]
abbrev Zc16:Cs:=cs [.l (cs [I])]
abbrev Zt17:Type:=List ((List Int)×Zt3×Zt5)
abbrev Zc18:Cs:=cs [I,.s,.l Zc10]
abbrev Zc19:Cs:=cs [I,.s,.s,I,I,.s]
abbrev Zc20:Cs:=cs [.i .u8]
abbrev Zt21:Type:=List (Int× (List Int))
abbrev Zc22:Cs:=cs [.l (cs [I]),.l (cs [.s]),.l Zc11]
abbrev Zc23:Cs:=cs [.i .u8,.l Zc20]
abbrev Zt24:Type:=List (Int×Int×Zt13)
abbrev Zc25:Cs:=cs [.i .u8,.i .u8,.l (cs [.l Zc20])]
abbrev Zp26:Type:=Int×Bool×Zt12×Int×Int×Int×Int×Zt3×Zt0×Zt1×Int×Zt2×Bool×Bool×Int×Zt9×Bool×Zt3× (List Int)
abbrev Zp27:Type:=Int×Bool×Zt12×Int×Int×Int×Int×Zt3×Zt0×Zt1×Int×Zt2×Bool×Bool×Zt3× (List Int)×Zt13
abbrev Zp28:Type:=Zt5×Int×Int×Zt3×Zt0×Zt1×Int×Zt2×Bool×Bool× (List Int)×Int×Zt9×Bool×Int×Zt4×Zt3
abbrev Zp29:Type:=Int×Bool×Zt12×Int×Int×Int×Int×Zt3×Zt0×Zt1×Int×Zt2×Bool×Bool×Zt3× (List Int)
abbrev Zp30:Type:=Int×Int×Zt3×Zt0×Int×Zt9×Bool×Zt1×Int×Zt2×Bool×Bool× (List Int)×Zt4×ByteArray
abbrev Zp31:Type:=Int×Int×Zt1× (List Int)×Zt21×Zt3×Zt0×ByteArray×Zt3×Zt12×ByteArray×Zt3×Zt0×Zt5
abbrev Zp32:Type:=Int×Zt12×Int×Int×Zt3×Zt0×Zt1×Int×Zt2×Bool×Bool×Int×Zt9×Bool× (List Int)
abbrev Zp33:Type:=Zt3×Int×Int×Zt3×Zt0×Zt1×Int×Zt2×Bool×Bool× (List Int)×Int×Zt9×Bool×Zt4
abbrev Zp34:Type:=Zt5×Int×Int×Zt3×Zt0×Zt1×Int×Zt2×Bool×Bool× (List Int)×Zt13×Int×Zt4×Zt3
abbrev Zp35:Type:=Int×Int×Int×Int×Int×Zt13×ByteArray×Zt3×Zt12×ByteArray×Int×Zt3×Zt12×Zt4
abbrev Zp36:Type:=Zt5×Int×Int×Zt3×Zt0×Zt1×Int×Zt2×Bool×Bool× (List Int)×Int×Zt4×Zt3
abbrev Zp37:Type:=Int×Zt12×Int×Int×Zt3×Zt0×Zt1×Int×Zt2×Bool×Bool× (List Int)×Zt13
abbrev Zp38:Type:=Int×Zt3×Zt0×Zt1×Int×Zt2×Bool×Bool× (List Int)×Int×Zt9×Bool
abbrev Zp39:Type:=Int×Zt12×Int×Int×Zt3×Zt0×Zt1×Int×Zt2×Bool×Bool× (List Int)
abbrev Zp40:Type:=Zt0×Int×Int×Zt1×Zt3×Zt0×Zt1×Int×Zt2×Bool×Bool× (List Int)
abbrev Zp41:Type:=Zt4×Zt3×Int×Int×Zt3×Zt0×Zt1×Int×Zt2×Bool×Bool× (List Int)
abbrev Zp42:Type:=Int×Int×Int×Int×Zt13×ByteArray×Zt3×Zt12×ByteArray×Zt3×Zt12
abbrev Zp43:Type:=Zt0×Int×Int×Zt5×Int×Int×Zt3×Zt0×Zt3×ByteArray×Zt5×Zt3
abbrev Zp44:Type:=Zt0×Int×Zt1× (List Int)×Zt3×Zt5×ByteArray×Zt3×Zt12×Zt17
abbrev Zp45:Type:=Zt0×Zt0×Zt0×Int×Int×Zt3×Int×Int×Int×Zt8×Bool×Bool
abbrev Zp46:Type:=Int×Zt3×Zt0×Zt1×Int×Zt2×Bool×Bool× (List Int)×Zt13
abbrev Zp47:Type:=Zt5×Int×Int×Int×Zt8×Bool×Bool×ByteArray×Zt5×Zt3
abbrev Zp48:Type:=Zt3×Int×Int×Zt3×Zt0×Zt3×Zt0×Int×Zt8×Bool×Bool
abbrev Zp49:Type:=Int×Zt3×Zt0×Zt1×Int×Zt2×Bool×Bool× (List Int)
abbrev Zp50:Type:=Zt5×Bool×Int×Zt3×Zt5×ByteArray×Zt5×Zt3×Zt5
abbrev Zp51:Type:=(Zt3×Int×Int× (List Int)×Bool×Int×Zt9×Bool)
abbrev Zp52:Type:=Zt0×Zt0×Zt0×Int×Int×Int×Zt8×Bool×Bool
abbrev Zp53:Type:=Int×Zt1× (List Int)×Zt21×Zt3×Zt0×Zt3×Zt0
abbrev Zp54:Type:=Zt3×Int× (List Int)×Zt21×Zt3×Zt0×Zt0×Zt3
abbrev Zp55:Type:=ByteArray×Zt1×Int×Int×ByteArray×Zt3×Zt12
abbrev Zp56:Type:=Int×Int× (List (Zt4))×Zt3×Int×Zt9×Bool
abbrev Zp57:Type:=Int×Zt12×Int×Int×ByteArray×Zt3×Zt12
abbrev Zp58:Type:=Zt3×Int×Int×Int×Zt8×Bool×Bool×Zt5
abbrev Zp59:Type:=(List Int)×Int×Int×Int×Zt4×Int×Zt4
abbrev Zp60:Type:=Int×Zt3×Zt0× (List Int)×Zt3×Zt5×Zt4
abbrev Zp61:Type:=Int×Int×Int×Int×ByteArray×ByteArray
abbrev Zp62:Type:=(List (Zt0))×Int× (List (Zt0))×Int×Int
abbrev Zp63:Type:=Zt3×Int×Int×ByteArray×Zt3×Zt12
abbrev Zp64:Type:=Zt0×Int×Int×Zt5×Int×Int×Zt3
abbrev Zp65:Type:=Zt0×Int×Int×Zt3×Zt0×Zt3×Zt0
abbrev Zp66:Type:=Int×Int×Int×Bool×Bool×Zt3
abbrev Zp67:Type:=Zt0×Zt0×Int×Zt8×Bool×Bool
abbrev Zp68:Type:=Zt1×Zt0× (List Int)×Zt3×Zt5
abbrev Zp69:Type:=ByteArray×Int×Int×ByteArray
instance{n:Nat}:OfNat VOpd n:=⟨.t n⟩
abbrev Rg(l:List VI)(b:VCode):VCode:=.seq (.reg l) b
abbrev Fr(n:Nat):VCode:=.fz [n] .ret
abbrev Ce(c e:Nat):VCode:=.cond (t c) .skip (.exit e)
abbrev oM(n a:Nat):VI:=o n (.mv (t a))
abbrev oL(n a:Nat):VI:=o n (.load false 1 (t a))
abbrev oT(n s a:Nat):VI:=o n (.load true s (t a))
abbrev oF(n i a:Nat):VI:=o n (.fad i (t a))
abbrev oE(n a i:Nat):VI:=o n (.ext (t a) i)
abbrev oN(n a:Nat):VI:=o n (.len (t a))
abbrev oI(n e a i:Nat):VI:=o n (.iad e (t a) (t i))
abbrev oS(n a b:Nat):VI:=on (.store n (t a) (t b))
abbrev oP(n c:Nat)(a b:VOpd):VI:=o n (.pick (t c) a b)
abbrev oK(n:Nat)(a:Int):VI:=o n (.mv (k a))
abbrev oB(n:Nat)(a:Bool):VI:=o n (.mv (kb a))
abbrev oC(n f:Nat)(l:List VOpd):VI:=o n (.call f l)
abbrev oX(n a:Nat):VI:=o n (.not (t a))
abbrev oG(n a:Nat):VI:=o n (.box (t a))
abbrev oR(n:Nat)(p:BinOp)(a b:VOpd):VI:=o n (.bin p a b)
abbrev gT(n g:Nat)(p:VOp):VI:=og n g true p
abbrev gF(n g:Nat)(p:VOp):VI:=og n g false p
set_option maxRecDepth 100000
set_option maxHeartbeats 1000000
variable{P:Program}{fm:FM}{lo:Lo}
abbrev pf:Nat->Bool:=fun g=> !(List.any ([310,502,512,513,514,149,151,515,520,532,534,537,539,540,541,164,543,546,188,557,200,559,560,426,561,196,323,324,293,442,327,309,491,271,301,311,312,313,315,316,318,319,322,1084,487,492,493,269,527,245,548]:List Nat) (YIq g))
abbrev GZ(P:Program)(fm:FM)(fs:Lo->List FnE)(lo:Lo):Prop:=GS P fm pf (fs lo) lo
abbrev Ti(P:Program)(fm:FM)(g:Nat)(F:VFn):Prop:=TieF P fm pf g F
def fs0(_:Lo):List FnE:=[]
def q0(lo:Lo)(i0:Int):Option Zp69:=
  some ((YIU #[]),(1:Int),i0,(YIU #[]))
def Ytu:VFn:=⟨true,6,[.c 2 true 4],
 (Rg [o 2 (.alloc [.s (⟨#[]⟩),.i .i64 0,.i .i64 0,.s (⟨#[]⟩)])]
 (Rg [oM 3 0,o 4 (.build [.i .i64 0,.i .i64 0,.s (⟨#[]⟩)] [(0,1,(k 1)),(1,1,3)]),o 5 (.build [.s (⟨#[]⟩),.i .i64 0,.i .i64 0,.s (⟨#[]⟩)] [(1,3,4)]),oS 4 2 5]
 (Fr 2)))⟩
def Yk8(lo:Lo):FnE:=Zfe 498 true (Zsg [0] [.j] []) (.ag [.s,.j,.j,.s]) [] (fun x=>q0 lo x:Int->Option Zp69)
def fs1(lo:Lo):List FnE:=Yk8 lo::fs0 lo
theorem Ytv(h:GZ P fm fs0 lo)(t:Ti P fm 498 Ytu):GZ P fm fs1 lo:=
  h.p (Yk8 lo) .n t
def q1_L3_b:VCode:=
 (Rg [oR 13 .lss 12 11]
 (.seq (Ce 13 0)
 (.seq (.blk 1 (Rg [oI 14 1 10 12,oL 15 14,oM 7 15]
 (.reg [oF 16 1 5,oL 17 16,oM 18 7,oC 19 498 [18],o 20 (.fld true 1 3 19),o 21 (.bsl Zc10 1 [(0,20)]),o 22 (.app Zc10 0 17 21),oF 23 1 5,oS 1 23 22])))
 (.reg [oR 24 .add 12 (k 1),oM 12 24]))))
def Yk9(lo:Lo):Zp59->Option (Zp59⊕ ((Int×Zt4×Int×Zt4))):=fun x=>match x with
  | (v10,v11,v12,v4_0,v4_1,r5,h2)=>bif(decide (v12<v11))then(chk (0<=v12/\v12< (v10.length:Int)) (YIC (q0 lo (v10.getD v12.toNat (0:Int))) fun y0=>chk (h2.length+[y0.2].length<=maxEl) (some (.inl (v10,v11,(YIV .i64 (v12+1)),v4_0,v4_1,r5,(h2++[y0.2]))))))else(some (.inr (v4_0,v4_1,r5,h2)))
def Yla(lo:Lo):Zp59->Option ((Int×Zt4×Int×Zt4)):=lo.run (Yk9 lo)
def Ytw(lo:Lo):LpE:=⟨3,[(5,some 1,false)],(Zsg [4,5,10,11,12] [.ptr 0 0 0,.ptr 1 0 0,.l (cs [I]),.j,.j] [.st [.j,.l Zc10],.st [.j,.ref 2],.sq Zc10]),[⟨.exit 0,(Zsg [4,5] [.ptr 0 0 0,.ptr 1 0 0] [.st [.j,.l Zc10],.st [.j,.ref 2],.sq Zc10])⟩],Yla lo⟩
def Ytx(lo:Lo):LL:=(Ytw lo,.loop q1_L3_b.er)::[]
theorem Yty(lo:Lo):Lk lo pf (fs1 lo) 0 (Ytx lo):=.l .n (Yk9 lo)
def q1(lo:Lo)(id0:Int)(l1:List Int):Option (Int×Zt4):=
  YIC (Yla lo (l1,(l1.length:Int),(0:Int),(0:Int),([]:List (Int×Int×ByteArray)),id0,[])) fun y1=>some (y1.2.2.1,y1.2.2.2)
def Ytz:VFn:=⟨true,26,[.c 4 true 2],
 (Rg [o 4 (.alloc [.i .i64 0,.e Zc10])]
 (Rg [oM 8 0,o 9 (.build [.i .i64 0,.e Zc10] [(0,1,8)]),o 5 (.alloc [.i .i64 0,.e Zc10]),oS 2 5 9]
 (.seq (Rg [oM 10 1,oN 11 10,oK 12 0]
 (.blk 0 (.loop 3 q1_L3_b)))
 (Rg [oT 25 2 5,oS 2 4 25]
 (Fr 4)))))⟩
def Ylb(lo:Lo):FnE:=Zfe 497 true (Zsg [0,1] [.j,.l (cs [I])] []) (.ag [.j,.l Zc10]) [] (fun x=>q1 lo x.1 x.2:Int× (List Int)->Option (Int×Zt4))
def fs2(lo:Lo):List FnE:=Ylb lo::fs1 lo
theorem YtA(h:GZ P fm fs1 lo)(t:Ti P fm 497 Ytz):GZ P fm fs2 lo:=
  h.p (Ylb lo) (Yty lo) t
def q2(lo:Lo)(s0:ByteArray):Option Zp69:=
  some (s0,(0:Int),(0:Int),(YIU #[]))
def YtB:VFn:=⟨true,5,[.c 2 true 4],
 (Rg [o 2 (.alloc [.s (⟨#[]⟩),.i .i64 0,.i .i64 0,.s (⟨#[]⟩)])]
 (Rg [oM 3 0,o 4 (.build [.s (⟨#[]⟩),.i .i64 0,.i .i64 0,.s (⟨#[]⟩)] [(0,1,3)]),oS 4 2 4]
 (Fr 2)))⟩
def Ylc(lo:Lo):FnE:=Zfe 499 true (Zsg [0] [.s] []) (.ag [.s,.j,.j,.s]) [] (fun x=>q2 lo x:ByteArray->Option Zp69)
def fs3(lo:Lo):List FnE:=Ylc lo::fs2 lo
theorem YtC(h:GZ P fm fs2 lo)(t:Ti P fm 499 YtB):GZ P fm fs3 lo:=
  h.p (Ylc lo) .n t
def q3_L3_b:VCode:=
 (Rg [oR 20 .lss 19 18]
 (.seq (Ce 20 0)
 (.seq (.blk 1 (Rg [oM 21 19,oM 3 21]
 (Rg [oM 22 0,oM 23 3,o 24 (.idx 22 23),oM 4 24]
 (Rg [oM 25 4,oR 26 .geq 25 (ki .u8 97),oM 27 26,gT 28 27 (.mv 4),gT 29 27 (.bin .leq 28 (ki .u8 122)),oP 30 27 29 (kb false),oM 31 30,gF 32 31 (.mv 4),gF 33 31 (.bin .geq 32 (ki .u8 65)),gF 34 31 (.mv 33),gT 35 34 (.mv 4),gT 36 34 (.bin .leq 35 (ki .u8 90)),gF 37 31 (.pick 34 36 (kb false)),oP 38 31 (kb true) 37,oM 39 38,gF 40 39 (.mv 4),gF 41 39 (.bin .eql 40 (ki .u8 95)),oP 42 39 (kb true) 41,oM 5 42]
 (Rg [oM 43 5,oX 44 43,oM 45 44,gT 46 45 (.mv 3),gT 47 45 (.bin .eql 46 (k 0)),gT 48 45 (.mv 47),gF 49 48 (.mv 4),gF 50 48 (.bin .lss 49 (ki .u8 48)),gT 51 45 (.pick 48 (kb true) 50),gT 52 45 (.mv 51),gF 53 52 (.mv 4),gF 54 52 (.bin .gtr 53 (ki .u8 57)),gT 55 45 (.pick 52 (kb true) 54),oP 56 45 55 (kb false)]
 (.cond 56 (Rg [oB 2 false]
 (Fr 2))
 .skip))))))
 (.reg [oR 57 .add 19 (k 1),oM 19 57]))))
def Yd2(lo:Lo):ByteArray×Int×Int->Option ((ByteArray×Int×Int)⊕ (Bool⊕Unit)):=fun x=>match x with
  | (s0,v18,v19)=>bif(decide (v19<v18))then(chk (0<=v19/\v19< (s0.size:Int)) (bif(decide ((97:Int)<=(YCZ s0 v19)))then(bif(decide ((YCZ s0 v19)<=(122:Int)))then(bif(!true)then(bif(decide (v19=0))then(some (.inr (.inl false)))else(bif(decide ((YCZ s0 v19)< (48:Int)))then(some (.inr (.inl false)))else(bif(decide ((57:Int)< (YCZ s0 v19)))then(some (.inr (.inl false)))else(some (.inl (s0,v18,(YIV .i64 (v19+1))))))))else(some (.inl (s0,v18,(YIV .i64 (v19+1))))))else(bif(decide ((65:Int)<=(YCZ s0 v19)))then(bif(decide ((YCZ s0 v19)<=(90:Int)))then(bif(!true)then(bif(decide (v19=0))then(some (.inr (.inl false)))else(bif(decide ((YCZ s0 v19)< (48:Int)))then(some (.inr (.inl false)))else(bif(decide ((57:Int)< (YCZ s0 v19)))then(some (.inr (.inl false)))else(some (.inl (s0,v18,(YIV .i64 (v19+1))))))))else(some (.inl (s0,v18,(YIV .i64 (v19+1))))))else(bif(!(decide ((YCZ s0 v19)=(95:Int))))then(bif(decide (v19=0))then(some (.inr (.inl false)))else(bif(decide ((YCZ s0 v19)< (48:Int)))then(some (.inr (.inl false)))else(bif(decide ((57:Int)< (YCZ s0 v19)))then(some (.inr (.inl false)))else(some (.inl (s0,v18,(YIV .i64 (v19+1))))))))else(some (.inl (s0,v18,(YIV .i64 (v19+1)))))))else(bif(!(decide ((YCZ s0 v19)=(95:Int))))then(bif(decide (v19=0))then(some (.inr (.inl false)))else(bif(decide ((YCZ s0 v19)< (48:Int)))then(some (.inr (.inl false)))else(bif(decide ((57:Int)< (YCZ s0 v19)))then(some (.inr (.inl false)))else(some (.inl (s0,v18,(YIV .i64 (v19+1))))))))else(some (.inl (s0,v18,(YIV .i64 (v19+1))))))))else(bif(decide ((65:Int)<=(YCZ s0 v19)))then(bif(decide ((YCZ s0 v19)<=(90:Int)))then(bif(!true)then(bif(decide (v19=0))then(some (.inr (.inl false)))else(bif(decide ((YCZ s0 v19)< (48:Int)))then(some (.inr (.inl false)))else(bif(decide ((57:Int)< (YCZ s0 v19)))then(some (.inr (.inl false)))else(some (.inl (s0,v18,(YIV .i64 (v19+1))))))))else(some (.inl (s0,v18,(YIV .i64 (v19+1))))))else(bif(!(decide ((YCZ s0 v19)=(95:Int))))then(bif(decide (v19=0))then(some (.inr (.inl false)))else(bif(decide ((YCZ s0 v19)< (48:Int)))then(some (.inr (.inl false)))else(bif(decide ((57:Int)< (YCZ s0 v19)))then(some (.inr (.inl false)))else(some (.inl (s0,v18,(YIV .i64 (v19+1))))))))else(some (.inl (s0,v18,(YIV .i64 (v19+1)))))))else(bif(!(decide ((YCZ s0 v19)=(95:Int))))then(bif(decide (v19=0))then(some (.inr (.inl false)))else(bif(decide ((YCZ s0 v19)< (48:Int)))then(some (.inr (.inl false)))else(bif(decide ((57:Int)< (YCZ s0 v19)))then(some (.inr (.inl false)))else(some (.inl (s0,v18,(YIV .i64 (v19+1))))))))else(some (.inl (s0,v18,(YIV .i64 (v19+1)))))))))else(some (.inr (.inr ())))
def Ygm(lo:Lo):ByteArray×Int×Int->Option (Bool⊕Unit):=lo.run (Yd2 lo)
def YtD(lo:Lo):LpE:=⟨3,[],(Zsg [0,18,19] [.s,.j,.j] []),[⟨.ret,(Zsg [2] [.b] [])⟩,⟨.exit 0,(Zsg [] [] [])⟩],Ygm lo⟩
def YtE(lo:Lo):LL:=(YtD lo,.loop q3_L3_b.er)::[]
theorem YtF(lo:Lo):Lk lo pf (fs3 lo) 0 (YtE lo):=.l .n (Yd2 lo)
def q3(lo:Lo)(s0:ByteArray):Option Bool:=
  bif(decide (s0=(YIU #[])))then(some false)else(bif(decide ((24:Int)< (s0.size:Int)))then(some false)else(bif(decide (s0=(YIU #[110,117,108,108])))then(some false)else(YIC (Ygm lo (s0,(s0.size:Int),(0:Int))) fun y9=>alt2 y9 (fun y10=>some y10) (fun y11=>some true))))
def YtG:VFn:=⟨true,58,[.t 2],
 (Rg [oB 2 false]
 (.seq (Rg [oM 6 0,oR 7 .eql 6 (ks (⟨#[]⟩)),oM 8 7,gF 9 8 (.mv 0),gF 10 8 (.lenS 9),gF 11 8 (.bin .gtr 10 (k 24)),oP 12 8 (kb true) 11,oM 13 12,gF 14 13 (.mv 0),gF 15 13 (.bin .eql 14 (ks (⟨#[110,117,108,108]⟩))),oP 16 13 (kb true) 15]
 (.cond 16 (Rg [oB 2 false]
 (Fr 2))
 .skip))
 (.seq (Rg [oM 17 0,o 18 (.lenS 17),oK 19 0]
 (.blk 0 (.loop 3 q3_L3_b)))
 (Rg [oB 2 true]
 (Fr 2)))))⟩
def Yld(lo:Lo):FnE:=Zfe 255 true (Zsg [0] [.s] []) .b [] (fun x=>q3 lo x:ByteArray->Option Bool)
def fs4(lo:Lo):List FnE:=Yld lo::fs3 lo
theorem YtH(h:GZ P fm fs3 lo)(t:Ti P fm 255 YtG):GZ P fm fs4 lo:=
  h.p (Yld lo) (YtF lo) t
def q4_L3_b:VCode:=
 (Rg [oR 9 .lss 8 7]
 (.seq (Ce 9 0)
 (.seq (.blk 1 (Rg [oM 10 8,oM 5 10]
 (Rg [oM 11 1,oM 12 0,oM 13 5,oI 14 1 12 13,oL 15 14,oR 16 .eql 11 15]
 (.cond 16 (Rg [oM 17 5,oM 4 17]
 (Fr 4))
 .skip))))
 (.reg [oR 18 .add 8 (k 1),oM 8 18]))))
def Yd3(lo:Lo):Zt3×ByteArray×Int×Int->Option ((Zt3×ByteArray×Int×Int)⊕ (Int⊕Unit)):=fun x=>match x with
  | (s0,v1,v7,v8)=>bif(decide (v8<v7))then(chk (0<=v8/\v8< (s0.length:Int)) (bif(decide (v1=(s0.getD v8.toNat (YIU #[]))))then(some (.inr (.inl v8)))else(some (.inl (s0,v1,v7,(YIV .i64 (v8+1)))))))else(some (.inr (.inr ())))
def Ygn(lo:Lo):Zt3×ByteArray×Int×Int->Option (Int⊕Unit):=lo.run (Yd3 lo)
def YtI(lo:Lo):LpE:=⟨3,[],(Zsg [0,1,7,8] [.l (cs [.s]),.s,.j,.j] []),[⟨.ret,(Zsg [4] [.j] [])⟩,⟨.exit 0,(Zsg [] [] [])⟩],Ygn lo⟩
def YtJ(lo:Lo):LL:=(YtI lo,.loop q4_L3_b.er)::[]
theorem YtK(lo:Lo):Lk lo pf (fs4 lo) 0 (YtJ lo):=.l .n (Yd3 lo)
def q4(lo:Lo)(s0:List ByteArray)(v1:ByteArray):Option Int:=
  YIC (Ygn lo (s0,v1,(s0.length:Int),(0:Int))) fun y14=>alt2 y14 (fun y15=>some y15) (fun y16=>some (-1:Int))
def YtL:VFn:=⟨true,19,[.t 4],
 (Rg [oK 4 0]
 (.seq (Rg [oM 6 0,oN 7 6,oK 8 0]
 (.blk 0 (.loop 3 q4_L3_b)))
 (Rg [oK 4 (-1)]
 (Fr 4))))⟩
def Yle(lo:Lo):FnE:=Zfe 173 true (Zsg [0,1] [.l (cs [.s]),.s] []) (.i .i64) [] (fun x=>q4 lo x.1 x.2:Zt3×ByteArray->Option Int)
def fs5(lo:Lo):List FnE:=Yle lo::fs4 lo
theorem YtM(h:GZ P fm fs4 lo)(t:Ti P fm 173 YtL):GZ P fm fs5 lo:=
  h.p (Yle lo) (YtK lo) t
def q5(lo:Lo)(s0:List ByteArray)(v1:ByteArray):Option Bool:=
  YIC (q4 lo s0 v1) fun y17=>some (decide (0<=y17))
def YtN:VFn:=⟨true,9,[.t 4],
 (Rg [oB 4 false]
 (Rg [oM 5 0,oM 6 1,oC 7 173 [5,6],oR 8 .geq 7 (k 0),oM 4 8]
 (Fr 4)))⟩
def Ylf(lo:Lo):FnE:=Zfe 256 true (Zsg [0,1] [.l (cs [.s]),.s] []) .b [] (fun x=>q5 lo x.1 x.2:Zt3×ByteArray->Option Bool)
def fs6(lo:Lo):List FnE:=Ylf lo::fs5 lo
theorem YtO(h:GZ P fm fs5 lo)(t:Ti P fm 256 YtN):GZ P fm fs6 lo:=
  h.p (Ylf lo) .n t
def q6(lo:Lo)(v0_0:Int)(v0_1:Int)(v0_2:ByteArray):Option Bool:=
  bif(decide (v0_0=0))then(bif(decide (v0_1=0))then(some (decide (v0_2=(YIU #[]))))else(some false))else(bif(decide (v0_0=1))then(some (decide (v0_2=(YIU #[]))))else(bif(decide (v0_0=2))then(bif(decide (v0_1=0))then(some (decide ((v0_2.size:Int)<=200)))else(some false))else(bif(decide (v0_0=3))then(bif(decide (1<=v0_1))then(some (decide (v0_2=(YIU #[]))))else(some false))else(some false))))
def YtP:VFn:=⟨true,41,[.t 2],
 (Rg [oG 1 0,oB 2 false]
 (.seq (Rg [oF 3 0 1,oL 4 3]
 (.blk 0 (Rg [oR 6 .eql 4 (k 0),oM 5 6]
 (.cond 5 (Rg [oF 7 1 1,oL 8 7,oR 9 .eql 8 (k 0),oM 10 9,gT 11 10 (.fad 2 1),gT 12 10 (.load false 1 11),gT 13 10 (.bin .eql 12 (ks (⟨#[]⟩))),oP 14 10 13 (kb false),oM 2 14]
 (Fr 2))
 (Rg [oR 16 .eql 4 (k 1),oM 15 16]
 (.cond 15 (Rg [oF 17 2 1,oL 18 17,oR 19 .eql 18 (ks (⟨#[]⟩)),oM 2 19]
 (Fr 2))
 (Rg [oR 21 .eql 4 (k 2),oM 20 21]
 (.cond 20 (Rg [oF 22 1 1,oL 23 22,oR 24 .eql 23 (k 0),oM 25 24,gT 26 25 (.fad 2 1),gT 27 25 (.load false 1 26),gT 28 25 (.lenS 27),gT 29 25 (.bin .leq 28 (k 200)),oP 30 25 29 (kb false),oM 2 30]
 (Fr 2))
 (Rg [oR 32 .eql 4 (k 3),oM 31 32]
 (.cond 31 (Rg [oF 33 1 1,oL 34 33,oR 35 .geq 34 (k 1),oM 36 35,gT 37 36 (.fad 2 1),gT 38 36 (.load false 1 37),gT 39 36 (.bin .eql 38 (ks (⟨#[]⟩))),oP 40 36 39 (kb false),oM 2 40]
 (Fr 2))
 .skip))))))))))
 (Rg [oB 2 false]
 (Fr 2))))⟩
def Ylg(lo:Lo):FnE:=Zfe 283 true (Zsg [0] [.ag [.j,.j,.s]] []) .b [] (fun x=>q6 lo x.1 x.2.1 x.2.2:Int×Int×ByteArray->Option Bool)
def fs7(lo:Lo):List FnE:=Ylg lo::fs6 lo
theorem YtQ(h:GZ P fm fs6 lo)(t:Ti P fm 283 YtP):GZ P fm fs7 lo:=
  h.p (Ylg lo) .n t
def q7(lo:Lo)(v0_0:Int)(v0_1:Int)(v0_2:ByteArray):Option Bool:=
  YIC (q6 lo v0_0 v0_1 v0_2) fun y22=>some (!y22)
def YtR:VFn:=⟨true,6,[.t 2],
 (Rg [oG 1 0,oB 2 false]
 (Rg [oT 3 3 1,oC 4 283 [3],oX 5 4,oM 2 5]
 (Fr 2)))⟩
def Ylh(lo:Lo):FnE:=Zfe 294 true (Zsg [0] [.ag [.j,.j,.s]] []) .b [] (fun x=>q7 lo x.1 x.2.1 x.2.2:Int×Int×ByteArray->Option Bool)
def fs8(lo:Lo):List FnE:=Ylh lo::fs7 lo
theorem YtS(h:GZ P fm fs7 lo)(t:Ti P fm 294 YtR):GZ P fm fs8 lo:=
  h.p (Ylh lo) .n t
def q8_L3_b:VCode:=
 (Rg [oR 9 .lss 8 7]
 (.seq (Ce 9 0)
 (.seq (.blk 1 (Rg [oM 10 8,oM 5 10]
 (Rg [oM 11 1,oM 12 0,oM 13 5,oI 14 3 12 13,oT 15 3 14,o 16 (.dyn 11 [15])]
 (.cond 16 (Rg [oM 17 5,oM 4 17]
 .ret)
 .skip))))
 (.reg [oR 18 .add 8 (k 1),oM 8 18]))))
def Yd4(lo:Lo):Zt4×Int×Int->Option ((Zt4×Int×Int)⊕ (Int⊕Unit)):=fun x=>match x with
  | (s0,v7,v8)=>bif(decide (v8<v7))then(chk (0<=v8/\v8< (s0.length:Int)) (YIC (q7 lo ((s0.getD v8.toNat Zd1).1) ((s0.getD v8.toNat Zd1).2.1) ((s0.getD v8.toNat Zd1).2.2)) fun y23=>bif y23 then(some (.inr (.inl v8)))else(some (.inl (s0,v7,(YIV .i64 (v8+1)))))))else(some (.inr (.inr ())))
def Ygo(lo:Lo):Zt4×Int×Int->Option (Int⊕Unit):=lo.run (Yd4 lo)
def YtT(lo:Lo):LpE:=⟨3,[],(Zsg [0,1,7,8] [.l Zc10,.clo 294 [],.j,.j] []),[⟨.ret,(Zsg [4] [.j] [])⟩,⟨.exit 0,(Zsg [] [] [])⟩],Ygo lo⟩
def YtU(lo:Lo):LL:=(YtT lo,.loop q8_L3_b.er)::[]
theorem YtV(lo:Lo):Lk lo pf (fs8 lo) 0 (YtU lo):=.l .n (Yd4 lo)
def q8(lo:Lo)(s0:List (Int×Int×ByteArray)):Option Int:=
  YIC (Ygo lo (s0,(s0.length:Int),(0:Int))) fun y24=>alt2 y24 (fun y25=>some y25) (fun y26=>some (-1:Int))
def YtW:VFn:=⟨true,19,[.t 4],
 (Rg [oK 4 0]
 (.seq (Rg [oM 6 0,oN 7 6,oK 8 0]
 (.blk 0 (.loop 3 q8_L3_b)))
 (Rg [oK 4 (-1)]
 .ret)))⟩
def Yli(lo:Lo):FnE:=Zfe 309 false (Zsg [0,1] [.l Zc10,.clo 294 []] []) (.i .i64) [] (fun x=>q8 lo x:Zt4->Option Int)
def fs9(lo:Lo):List FnE:=Yli lo::fs8 lo
theorem YtX(h:GZ P fm fs8 lo)(t:Ti P fm 309 YtW):GZ P fm fs9 lo:=
  h.i (Yli lo) (YtV lo) t
def q9(lo:Lo)(s0:List (Int×Int×ByteArray)):Option Bool:=
  YIC (q8 lo s0) fun y27=>some (decide (0<=y27))
def YtY:VFn:=⟨true,9,[.t 4],
 (Rg [oB 4 false]
 (Rg [oM 5 0,oM 6 1,oC 7 309 [5,6],oR 8 .geq 7 (k 0),oM 4 8]
 .ret))⟩
def Ylj(lo:Lo):FnE:=Zfe 293 false (Zsg [0,1] [.l Zc10,.clo 294 []] []) .b [] (fun x=>q9 lo x:Zt4->Option Bool)
def fs10(lo:Lo):List FnE:=Ylj lo::fs9 lo
theorem YtZ(h:GZ P fm fs9 lo)(t:Ti P fm 293 YtY):GZ P fm fs10 lo:=
  h.i (Ylj lo) .n t
def q10(lo:Lo)(l0:List (Int×Int×ByteArray)):Option Bool:=
  YIC (q9 lo l0) fun y28=>some (!y28)
def Yt0:VFn:=⟨true,6,[.t 2],
 (Rg [oB 2 false]
 (Rg [oM 3 0,oC 4 293 [3,(.c (.f 294))],oX 5 4,oM 2 5]
 (Fr 2)))⟩
def Ylk(lo:Lo):FnE:=Zfe 257 true (Zsg [0] [.l Zc10] []) .b [] (fun x=>q10 lo x:Zt4->Option Bool)
def fs11(lo:Lo):List FnE:=Ylk lo::fs10 lo
theorem Yt1(h:GZ P fm fs10 lo)(t:Ti P fm 257 Yt0):GZ P fm fs11 lo:=
  h.p (Ylk lo) .n t
def q11_L20_b:VCode:=
 (Rg [oR 26 .lss 25 24]
 (.seq (Ce 26 0)
 (.seq (.blk 1 (Rg [oM 27 25,oI 28 1 23 25,oL 29 28,oM 3 27,oM 4 29]
 (Rg [oM 30 4,oC 31 255 [30],oX 32 31,oM 33 32,gF 34 33 (.fad 1 1),gF 35 33 (.load false 1 34),gF 36 33 (.mv 3),gF 37 33 (.slcR 1 35 none (some 36)),gF 38 33 (.mv 4),gF 39 33 (.call 256 [37,38]),oP 40 33 (kb true) 39]
 (.cond 40 (Rg [oK 2 1]
 (Fr 2))
 .skip))))
 (.reg [oR 41 .add 25 (k 1),oM 25 41]))))
def Yd5(lo:Lo):Zp63->Option (Zp63⊕ (Int⊕ (ByteArray×Zt3×Zt12))):=fun x=>match x with
  | (v23,v24,v25,t1_0,t1_1,t1_2)=>bif(decide (v25<v24))then(chk (0<=v25/\v25< (v23.length:Int)) (YIC (q3 lo (v23.getD v25.toNat (YIU #[]))) fun y13=>bif(!y13)then(some (.inr (.inl (1:Int))))else(chk (0<=(0:Int)/\0<=v25/\v25<=(t1_1.length:Int)) (YIC (q5 lo ((t1_1.take v25.toNat).drop 0) (v23.getD v25.toNat (YIU #[]))) fun y18=>bif y18 then(some (.inr (.inl (1:Int))))else(some (.inl (v23,v24,(YIV .i64 (v25+1)),t1_0,t1_1,t1_2)))))))else(some (.inr (.inr (t1_0,t1_1,t1_2))))
def Ygp(lo:Lo):Zp63->Option (Int⊕ (ByteArray×Zt3×Zt12)):=lo.run (Yd5 lo)
def Yt2(lo:Lo):LpE:=⟨20,[],(Zsg [1,23,24,25] [.ptr 0 0 0,.l (cs [.s]),.j,.j] [.st [.s,.l (cs [.s]),.l Zc15]]),[⟨.ret,(Zsg [2] [.j] [])⟩,⟨.exit 0,(Zsg [1] [.ptr 0 0 0] [.st [.s,.l (cs [.s]),.l Zc15]])⟩],Ygp lo⟩
def Yll(lo:Lo):LL:=(Yt2 lo,.loop q11_L20_b.er)::[]
theorem Yt3(lo:Lo):Lk lo pf (fs11 lo) 0 (Yll lo):=.l .n (Yd5 lo)
def q11_L3_b:VCode:=
 (Rg [oR 46 .lss 45 44]
 (.seq (Ce 46 2)
 (.seq (.blk 3 (Rg [oI 47 2 43 45,oT 48 2 47,o 7 (.alloc [.i .i64 0,.e Zc10]),oS 2 7 48]
 (.seq (.blk 4 (Rg [oF 50 0 7,oL 51 50,oM 52 5,oR 53 .leq 51 52,oM 49 53]
 (.cond 49 (Rg [oK 2 1]
 (Fr 2))
 (Rg [oF 55 1 7,oL 56 55,oN 57 56,oF 58 1 1,oL 59 58,oN 60 59,oR 61 .neq 57 60,oM 54 61]
 (.cond 54 (Rg [oK 2 6]
 (Fr 2))
 (Rg [oF 63 1 7,oL 64 63,oC 65 257 [64],oX 66 65,oM 62 66]
 (.cond 62 (Rg [oK 2 1]
 (Fr 2))
 .skip)))))))
 (.reg [oF 67 0 7,oL 68 67,oM 5 68]))))
 (.reg [oR 69 .add 45 (k 1),oM 45 69]))))
def Yd6(lo:Lo):Zp57->Option (Zp57⊕ (Int⊕Unit)):=fun x=>match x with
  | (last5,v43,v44,v45,t1_0,t1_1,t1_2)=>bif(decide (v45<v44))then(chk (0<=v45/\v45< (v43.length:Int)) (bif(decide ((v43.getD v45.toNat ((0:Int),[])).1<=last5))then(some (.inr (.inl (1:Int))))else(bif(!decide ((((v43.getD v45.toNat ((0:Int),[])).2).length:Int)=(t1_1.length:Int)))then(some (.inr (.inl (6:Int))))else(YIC (q10 lo ((v43.getD v45.toNat ((0:Int),[])).2)) fun y29=>bif(!y29)then(some (.inr (.inl (1:Int))))else(some (.inl ((v43.getD v45.toNat ((0:Int),[])).1,v43,v44,(YIV .i64 (v45+1)),t1_0,t1_1,t1_2)))))))else(some (.inr (.inr ())))
def Ygq(lo:Lo):Zp57->Option (Int⊕Unit):=lo.run (Yd6 lo)
def Yt4(lo:Lo):LpE:=⟨3,[],(Zsg [1,5,43,44,45] [.ptr 0 0 0,.j,.l Zc15,.j,.j] [.st [.s,.l (cs [.s]),.l Zc15]]),[⟨.ret,(Zsg [2] [.j] [])⟩,⟨.exit 2,(Zsg [] [] [])⟩],Ygq lo⟩
def Yt5(lo:Lo):LL:=(Yt4 lo,.loop q11_L3_b.er)::Yll lo
theorem Yt6(lo:Lo):Lk lo pf (fs11 lo) 0 (Yt5 lo):=.l (Yt3 lo) (Yd6 lo)
def q11(lo:Lo)(t0_0:ByteArray)(t0_1:List ByteArray)(t0_2:List (Int×Zt4)):Option Int:=
  YIC (q3 lo t0_0) fun y12=>bif(!y12)then(some (1:Int))else(bif(decide ((16:Int)< (t0_1.length:Int)))then(some (3:Int))else(bif(decide ((1000:Int)< (t0_2.length:Int)))then(some (3:Int))else(YIC (Ygp lo (t0_1,(t0_1.length:Int),(0:Int),t0_0,t0_1,t0_2)) fun y19=>alt2 y19 (fun y20=>some y20) (fun y21=>YIC (Ygq lo ((0:Int),y21.2.2,(y21.2.2.length:Int),(0:Int),y21.1,y21.2.1,y21.2.2)) fun y30=>alt2 y30 (fun y31=>some y31) (fun y32=>some (0:Int))))))
def Yt7:VFn:=⟨true,70,[.t 2],
 (Rg [oG 1 0,oK 2 0]
 (.seq (Rg [oF 8 0 1,oL 9 8,oC 10 255 [9],oX 11 10]
 (.cond 11 (Rg [oK 2 1]
 (Fr 2))
 .skip))
 (.seq (Rg [oF 12 1 1,oL 13 12,oN 14 13,oR 15 .gtr 14 (k 16),oM 16 15,gF 17 16 (.fad 2 1),gF 18 16 (.load false 1 17),gF 19 16 (.len 18),gF 20 16 (.bin .gtr 19 (k 1000)),oP 21 16 (kb true) 20]
 (.cond 21 (Rg [oK 2 3]
 (Fr 2))
 .skip))
 (.seq (Rg [oF 22 1 1,oL 23 22,oN 24 23,oK 25 0]
 (.blk 0 (.loop 20 q11_L20_b)))
 (Rg [oK 5 0]
 (.seq (Rg [oF 42 2 1,oL 43 42,oN 44 43,oK 45 0]
 (.blk 2 (.loop 3 q11_L3_b)))
 (Rg [oK 2 0]
 (Fr 2))))))))⟩
def Ylm(lo:Lo):FnE:=Zfe 230 true (Zsg [0] [.ag [.s,.l (cs [.s]),.l Zc15]] []) (.i .i64) [] (fun x=>q11 lo x.1 x.2.1 x.2.2:ByteArray×Zt3×Zt12->Option Int)
def fs12(lo:Lo):List FnE:=Ylm lo::fs11 lo
theorem Yt8(h:GZ P fm fs11 lo)(t:Ti P fm 230 Yt7):GZ P fm fs12 lo:=
  h.p (Ylm lo) (Yt6 lo) t
def q12(lo:Lo)(t0_0:ByteArray)(t0_1:List ByteArray)(t0_2:List (Int×Zt4))(v1:ByteArray):Option (Bool×ByteArray):=
  some ((decide (t0_0=v1)),v1)
def Yt9:VFn:=⟨true,8,[.t 3],
 (Rg [oG 2 0,oB 3 false]
 (Rg [oF 4 0 2,oL 5 4,oL 6 1,oR 7 .eql 5 6,oM 3 7]
 .ret))⟩
def Yln(lo:Lo):FnE:=Zfe 560 false (Zsg [0,1] [.ag [.s,.l (cs [.s]),.l Zc15],.ptr 0 0 0] [.st [.s]]) .b [.st [.s]] (fun x=>q12 lo x.1 x.2.1 x.2.2.1 x.2.2.2:ByteArray×Zt3×Zt12×ByteArray->Option (Bool×ByteArray))
def fs13(lo:Lo):List FnE:=Yln lo::fs12 lo
theorem Yua(h:GZ P fm fs12 lo)(t:Ti P fm 560 Yt9):GZ P fm fs13 lo:=
  h.i (Yln lo) .n t
def q13_L3_b:VCode:=
 (Rg [oR 9 .lss 8 7]
 (.seq (Ce 9 0)
 (.seq (.blk 1 (Rg [oM 10 8,oM 5 10]
 (Rg [oM 11 1,oM 12 0,oM 13 5,oI 14 3 12 13,oT 15 3 14,o 16 (.dyn 11 [15])]
 (.cond 16 (Rg [oM 17 5,oM 4 17]
 .ret)
 .skip))))
 (.reg [oR 18 .add 8 (k 1),oM 8 18]))))
def Yd7(lo:Lo):Zt1×Int×Int×ByteArray->Option ((Zt1×Int×Int×ByteArray)⊕ ((Int×ByteArray)⊕ByteArray)):=fun x=>match x with
  | (s0,v7,v8,h0)=>bif(decide (v8<v7))then(chk (0<=v8/\v8< (s0.length:Int)) (YIC (q12 lo ((s0.getD v8.toNat ((YIU #[]),[],[])).1) ((s0.getD v8.toNat ((YIU #[]),[],[])).2.1) ((s0.getD v8.toNat ((YIU #[]),[],[])).2.2) h0) fun y34=>bif y34.1 then(some (.inr (.inl (v8,y34.2))))else(some (.inl (s0,v7,(YIV .i64 (v8+1)),y34.2)))))else(some (.inr (.inr h0)))
def Ygr(lo:Lo):Zt1×Int×Int×ByteArray->Option ((Int×ByteArray)⊕ByteArray):=lo.run (Yd7 lo)
def Yub(lo:Lo):LpE:=⟨3,[],(Zsg [0,1,7,8] [.l Zc6,.clo 560 [.ptr 0 0 0],.j,.j] [.st [.s]]),[⟨.ret,(Zsg [4] [.j] [.st [.s]])⟩,⟨.exit 0,(Zsg [] [] [.st [.s]])⟩],Ygr lo⟩
def Yuc(lo:Lo):LL:=(Yub lo,.loop q13_L3_b.er)::[]
theorem Yud(lo:Lo):Lk lo pf (fs13 lo) 1 (Yuc lo):=.l .n (Yd7 lo)
def q13(lo:Lo)(s0:List (ByteArray×Zt3×Zt12))(h0:ByteArray):Option (Int×ByteArray):=
  YIC (Ygr lo (s0,(s0.length:Int),(0:Int),h0)) fun y35=>alt2 y35 (fun y36=>some (y36.1,y36.2)) (fun y37=>some ((-1:Int),y37))
def Yue:VFn:=⟨true,19,[.t 4],
 (Rg [oK 4 0]
 (.seq (Rg [oM 6 0,oN 7 6,oK 8 0]
 (.blk 0 (.loop 3 q13_L3_b)))
 (Rg [oK 4 (-1)]
 .ret)))⟩
def Ylo(lo:Lo):FnE:=Zfe 559 false (Zsg [0,1] [.l Zc6,.clo 560 [.ptr 0 0 0]] [.st [.s]]) (.i .i64) [.st [.s]] (fun x=>q13 lo x.1 x.2:Zt1×ByteArray->Option (Int×ByteArray))
def fs14(lo:Lo):List FnE:=Ylo lo::fs13 lo
theorem Yuf(h:GZ P fm fs13 lo)(t:Ti P fm 559 Yue):GZ P fm fs14 lo:=
  h.i (Ylo lo) (Yud lo) t
def q14(lo:Lo)(l0:List (ByteArray×Zt3×Zt12))(name1:ByteArray):Option Int:=
  YIC (q13 lo l0 name1) fun y38=>some y38.1
def Yug:VFn:=⟨true,8,[.t 4],
 (Rg [oG 3 1,oK 4 0]
 (Rg [oM 5 0,o 6 (.mkf 560 [3]),oC 7 559 [5,6],oM 4 7]
 (Fr 4)))⟩
def Ylp(lo:Lo):FnE:=Zfe 552 true (Zsg [0,1] [.l Zc6,.s] []) (.i .i64) [] (fun x=>q14 lo x.1 x.2:Zt1×ByteArray->Option Int)
def fs15(lo:Lo):List FnE:=Ylp lo::fs14 lo
theorem Yuh(h:GZ P fm fs14 lo)(t:Ti P fm 552 Yug):GZ P fm fs15 lo:=
  h.p (Ylp lo) .n t
def q15_L3_b:VCode:=
 (Rg [oR 14 .lss 13 12]
 (.seq (Ce 14 0)
 (.seq (.blk 1 (Rg [oM 15 13,oI 16 3 11 13,oT 17 3 16,o 4 (.alloc [.s (⟨#[]⟩),.e (cs [.s]),.e Zc15]),oM 3 15,oS 3 4 17]
 (.seq (Rg [oT 18 3 4,oC 19 230 [18],oM 5 19]
 (Rg [oM 20 5,oR 21 .neq 20 (k 0)]
 (.cond 21 (Rg [oM 22 5,oM 2 22]
 (Fr 2))
 .skip)))
 (Rg [oF 23 0 1,oL 24 23,oM 25 3,o 26 (.slcR 3 24 none (some 25)),oF 27 0 4,oL 28 27,oC 29 552 [26,28],oR 30 .geq 29 (k 0)]
 (.cond 30 (Rg [oK 2 5]
 (Fr 2))
 .skip)))))
 (.reg [oR 31 .add 13 (k 1),oM 13 31]))))
def Yd8(lo:Lo):Zt1×Int×Int×Zt1->Option ((Zt1×Int×Int×Zt1)⊕ (Int⊕Unit)):=fun x=>match x with
  | (v11,v12,v13,db1)=>bif(decide (v13<v12))then(chk (0<=v13/\v13< (v11.length:Int)) (YIC (q11 lo ((v11.getD v13.toNat ((YIU #[]),[],[])).1) ((v11.getD v13.toNat ((YIU #[]),[],[])).2.1) ((v11.getD v13.toNat ((YIU #[]),[],[])).2.2)) fun y33=>bif(!decide (y33=0))then(some (.inr (.inl y33)))else(chk (0<=(0:Int)/\0<=v13/\v13<=(db1.length:Int)) (YIC (q14 lo ((db1.take v13.toNat).drop 0) ((v11.getD v13.toNat ((YIU #[]),[],[])).1)) fun y39=>bif(decide (0<=y39))then(some (.inr (.inl (5:Int))))else(some (.inl (v11,v12,(YIV .i64 (v13+1)),db1)))))))else(some (.inr (.inr ())))
def Ygs(lo:Lo):Zt1×Int×Int×Zt1->Option (Int⊕Unit):=lo.run (Yd8 lo)
def Yui(lo:Lo):LpE:=⟨3,[],(Zsg [1,11,12,13] [.ptr 0 0 0,.l Zc6,.j,.j] [.st [.l Zc6]]),[⟨.ret,(Zsg [2] [.j] [])⟩,⟨.exit 0,(Zsg [] [] [])⟩],Ygs lo⟩
def Yuj(lo:Lo):LL:=(Yui lo,.loop q15_L3_b.er)::[]
theorem Yuk(lo:Lo):Lk lo pf (fs15 lo) 0 (Yuj lo):=.l .n (Yd8 lo)
def q15(lo:Lo)(db0:List (ByteArray×Zt3×Zt12)):Option Int:=
  bif(decide ((50:Int)< (db0.length:Int)))then(some (3:Int))else(YIC (Ygs lo (db0,(db0.length:Int),(0:Int),db0)) fun y40=>alt2 y40 (fun y41=>some y41) (fun y42=>some (0:Int)))
def Yul:VFn:=⟨true,32,[.t 2],
 (Rg [oG 1 0,oK 2 0]
 (.seq (Rg [oF 6 0 1,oL 7 6,oN 8 7,oR 9 .gtr 8 (k 50)]
 (.cond 9 (Rg [oK 2 3]
 (Fr 2))
 .skip))
 (.seq (Rg [oF 10 0 1,oL 11 10,oN 12 11,oK 13 0]
 (.blk 0 (.loop 3 q15_L3_b)))
 (Rg [oK 2 0]
 (Fr 2)))))⟩
def Ylq(lo:Lo):FnE:=Zfe 535 true (Zsg [0] [.ag [.l Zc6]] []) (.i .i64) [] (fun x=>q15 lo x:Zt1->Option Int)
def fs16(lo:Lo):List FnE:=Ylq lo::fs15 lo
theorem Yum(h:GZ P fm fs15 lo)(t:Ti P fm 535 Yul):GZ P fm fs16 lo:=
  h.p (Ylq lo) (Yuk lo) t
def q16(lo:Lo)(a0:Int)(v1:Int):Option (Bool×Int):=
  bif(decide (a0<0))then(some (true,v1))else(some ((decide (v1<=a0)),v1))
def Yun:VFn:=⟨true,11,[.t 3],
 (Rg [oB 3 false]
 (Rg [oM 4 0,oR 5 .lss 4 (k 0),oM 6 5,gF 7 6 (.mv 0),gF 8 6 (.load false 1 1),gF 9 6 (.bin .geq 7 8),oP 10 6 (kb true) 9,oM 3 10]
 .ret))⟩
def Ylr(lo:Lo):FnE:=Zfe 561 false (Zsg [0,1] [.j,.ptr 0 0 0] [.st [.j]]) .b [.st [.j]] (fun x=>q16 lo x.1 x.2:Int×Int->Option (Bool×Int))
def fs17(lo:Lo):List FnE:=Ylr lo::fs16 lo
theorem Yuo(h:GZ P fm fs16 lo)(t:Ti P fm 561 Yun):GZ P fm fs17 lo:=
  h.i (Ylr lo) .n t
def q17_L3_b:VCode:=
 (Rg [oR 9 .lss 8 7]
 (.seq (Ce 9 0)
 (.seq (.blk 1 (Rg [oM 10 8,oM 5 10]
 (Rg [oM 11 1,oM 12 0,oM 13 5,oI 14 1 12 13,oL 15 14,o 16 (.dyn 11 [15])]
 (.cond 16 (Rg [oM 17 5,oM 4 17]
 .ret)
 .skip))))
 (.reg [oR 18 .add 8 (k 1),oM 8 18]))))
def Yls(lo:Lo):(List Int)×Int×Int×Int->Option (((List Int)×Int×Int×Int)⊕ ((Int×Int)⊕Int)):=fun x=>match x with
  | (s0,v7,v8,h0)=>bif(decide (v8<v7))then(chk (0<=v8/\v8< (s0.length:Int)) (YIC (q16 lo (s0.getD v8.toNat (0:Int)) h0) fun y46=>bif y46.1 then(some (.inr (.inl (v8,y46.2))))else(some (.inl (s0,v7,(YIV .i64 (v8+1)),y46.2)))))else(some (.inr (.inr h0)))
def Ylt(lo:Lo):(List Int)×Int×Int×Int->Option ((Int×Int)⊕Int):=lo.run (Yls lo)
def Yup(lo:Lo):LpE:=⟨3,[],(Zsg [0,1,7,8] [.l (cs [I]),.clo 561 [.ptr 0 0 0],.j,.j] [.st [.j]]),[⟨.ret,(Zsg [4] [.j] [.st [.j]])⟩,⟨.exit 0,(Zsg [] [] [.st [.j]])⟩],Ylt lo⟩
def Yuq(lo:Lo):LL:=(Yup lo,.loop q17_L3_b.er)::[]
theorem Yur(lo:Lo):Lk lo pf (fs17 lo) 1 (Yuq lo):=.l .n (Yls lo)
def q17(lo:Lo)(s0:List Int)(h0:Int):Option (Int×Int):=
  YIC (Ylt lo (s0,(s0.length:Int),(0:Int),h0)) fun y47=>alt2 y47 (fun y48=>some (y48.1,y48.2)) (fun y49=>some ((-1:Int),y49))
def Yus:VFn:=⟨true,19,[.t 4],
 (Rg [oK 4 0]
 (.seq (Rg [oM 6 0,oN 7 6,oK 8 0]
 (.blk 0 (.loop 3 q17_L3_b)))
 (Rg [oK 4 (-1)]
 .ret)))⟩
def Ylu(lo:Lo):FnE:=Zfe 442 false (Zsg [0,1] [.l (cs [I]),.clo 561 [.ptr 0 0 0]] [.st [.j]]) (.i .i64) [.st [.j]] (fun x=>q17 lo x.1 x.2:(List Int)×Int->Option (Int×Int))
def fs18(lo:Lo):List FnE:=Ylu lo::fs17 lo
theorem Yut(h:GZ P fm fs17 lo)(t:Ti P fm 442 Yus):GZ P fm fs18 lo:=
  h.i (Ylu lo) (Yur lo) t
def q18(lo:Lo)(s0:List Int)(h0:Int):Option (Bool×Int):=
  YIC (q17 lo s0 h0) fun y50=>some ((decide ((0:Int)<=y50.1)),y50.2)
def Yuu:VFn:=⟨true,9,[.t 4],
 (Rg [oB 4 false]
 (Rg [oM 5 0,oM 6 1,oC 7 442 [5,6],oR 8 .geq 7 (k 0),oM 4 8]
 .ret))⟩
def Ylv(lo:Lo):FnE:=Zfe 426 false (Zsg [0,1] [.l (cs [I]),.clo 561 [.ptr 0 0 0]] [.st [.j]]) .b [.st [.j]] (fun x=>q18 lo x.1 x.2:(List Int)×Int->Option (Bool×Int))
def fs19(lo:Lo):List FnE:=Ylv lo::fs18 lo
theorem Yuv(h:GZ P fm fs18 lo)(t:Ti P fm 426 Yuu):GZ P fm fs19 lo:=
  h.i (Ylv lo) .n t
def q19(lo:Lo)(l0:List Int)(n1:Int):Option Bool:=
  YIC (q18 lo l0 n1) fun y51=>some (!y51.1)
def Yuw:VFn:=⟨true,9,[.t 4],
 (Rg [oG 3 1,oB 4 false]
 (Rg [oM 5 0,o 6 (.mkf 561 [3]),oC 7 426 [5,6],oX 8 7,oM 4 8]
 (Fr 4)))⟩
def Ylw(lo:Lo):FnE:=Zfe 553 true (Zsg [0,1] [.l (cs [I]),.j] []) .b [] (fun x=>q19 lo x.1 x.2:(List Int)×Int->Option Bool)
def fs20(lo:Lo):List FnE:=Ylw lo::fs19 lo
theorem Yux(h:GZ P fm fs19 lo)(t:Ti P fm 553 Yuw):GZ P fm fs20 lo:=
  h.p (Ylw lo) .n t
def q20_L3_b:VCode:=
 (Rg [oR 9 .lss 8 7]
 (.seq (Ce 9 0)
 (.seq (.blk 1 (Rg [oM 10 8,oM 5 10]
 (Rg [oM 11 1,oM 12 0,oM 13 5,oI 14 1 12 13,oL 15 14,oR 16 .eql 11 15]
 (.cond 16 (Rg [oM 17 5,oM 4 17]
 (Fr 4))
 .skip))))
 (.reg [oR 18 .add 8 (k 1),oM 8 18]))))
def Ylx(lo:Lo):(List Int)×Int×Int×Int->Option (((List Int)×Int×Int×Int)⊕ (Int⊕Unit)):=fun x=>match x with
  | (s0,v1,v7,v8)=>bif(decide (v8<v7))then(chk (0<=v8/\v8< (s0.length:Int)) (bif(decide (v1=(s0.getD v8.toNat (0:Int))))then(some (.inr (.inl v8)))else(some (.inl (s0,v1,v7,(YIV .i64 (v8+1)))))))else(some (.inr (.inr ())))
def Yly(lo:Lo):(List Int)×Int×Int×Int->Option (Int⊕Unit):=lo.run (Ylx lo)
def Yuy(lo:Lo):LpE:=⟨3,[],(Zsg [0,1,7,8] [.l (cs [I]),.j,.j,.j] []),[⟨.ret,(Zsg [4] [.j] [])⟩,⟨.exit 0,(Zsg [] [] [])⟩],Yly lo⟩
def Yuz(lo:Lo):LL:=(Yuy lo,.loop q20_L3_b.er)::[]
theorem YuA(lo:Lo):Lk lo pf (fs20 lo) 0 (Yuz lo):=.l .n (Ylx lo)
def q20(lo:Lo)(s0:List Int)(v1:Int):Option Int:=
  YIC (Yly lo (s0,v1,(s0.length:Int),(0:Int))) fun y54=>alt2 y54 (fun y55=>some y55) (fun y56=>some (-1:Int))
def YuB:VFn:=⟨true,19,[.t 4],
 (Rg [oK 4 0]
 (.seq (Rg [oM 6 0,oN 7 6,oK 8 0]
 (.blk 0 (.loop 3 q20_L3_b)))
 (Rg [oK 4 (-1)]
 (Fr 4))))⟩
def Ylz(lo:Lo):FnE:=Zfe 448 true (Zsg [0,1] [.l (cs [I]),.j] []) (.i .i64) [] (fun x=>q20 lo x.1 x.2:(List Int)×Int->Option Int)
def fs21(lo:Lo):List FnE:=Ylz lo::fs20 lo
theorem YuC(h:GZ P fm fs20 lo)(t:Ti P fm 448 YuB):GZ P fm fs21 lo:=
  h.p (Ylz lo) (YuA lo) t
def q21(lo:Lo)(s0:List Int)(v1:Int):Option Bool:=
  YIC (q20 lo s0 v1) fun y57=>some (decide (0<=y57))
def YuD:VFn:=⟨true,9,[.t 4],
 (Rg [oB 4 false]
 (Rg [oM 5 0,oM 6 1,oC 7 448 [5,6],oR 8 .geq 7 (k 0),oM 4 8]
 (Fr 4)))⟩
def YlA(lo:Lo):FnE:=Zfe 434 true (Zsg [0,1] [.l (cs [I]),.j] []) .b [] (fun x=>q21 lo x.1 x.2:(List Int)×Int->Option Bool)
def fs22(lo:Lo):List FnE:=YlA lo::fs21 lo
theorem YuE(h:GZ P fm fs21 lo)(t:Ti P fm 434 YuD):GZ P fm fs22 lo:=
  h.p (YlA lo) .n t
def q22_L3_b:VCode:=
 (Rg [oR 8 .lss 7 6]
 (.seq (Ce 8 0)
 (.seq (.blk 1 (Rg [oM 9 7,oI 10 1 5 7,oL 11 10,oM 3 9,oM 4 11]
 (Rg [oM 12 0,oM 13 3,o 14 (.slcR 1 12 none (some 13)),oM 15 4,oC 16 434 [14,15]]
 (.cond 16 (Rg [oB 2 true]
 (Fr 2))
 .skip))))
 (.reg [oR 17 .add 7 (k 1),oM 7 17]))))
def YlB(lo:Lo):(List Int)× (List Int)×Int×Int->Option (((List Int)× (List Int)×Int×Int)⊕ (Bool⊕Unit)):=fun x=>match x with
  | (l0,v5,v6,v7)=>bif(decide (v7<v6))then(chk (0<=v7/\v7< (v5.length:Int)) (chk (0<=(0:Int)/\0<=v7/\v7<=(l0.length:Int)) (YIC (q21 lo ((l0.take v7.toNat).drop 0) (v5.getD v7.toNat (0:Int))) fun y58=>bif y58 then(some (.inr (.inl true)))else(some (.inl (l0,v5,v6,(YIV .i64 (v7+1))))))))else(some (.inr (.inr ())))
def YlC(lo:Lo):(List Int)× (List Int)×Int×Int->Option (Bool⊕Unit):=lo.run (YlB lo)
def YuF(lo:Lo):LpE:=⟨3,[],(Zsg [0,5,6,7] [.l (cs [I]),.l (cs [I]),.j,.j] []),[⟨.ret,(Zsg [2] [.b] [])⟩,⟨.exit 0,(Zsg [] [] [])⟩],YlC lo⟩
def YuG(lo:Lo):LL:=(YuF lo,.loop q22_L3_b.er)::[]
theorem YuH(lo:Lo):Lk lo pf (fs22 lo) 0 (YuG lo):=.l .n (YlB lo)
def q22(lo:Lo)(l0:List Int):Option Bool:=
  YIC (YlC lo (l0,l0,(l0.length:Int),(0:Int))) fun y59=>alt2 y59 (fun y60=>some y60) (fun y61=>some false)
def YuI:VFn:=⟨true,18,[.t 2],
 (Rg [oB 2 false]
 (.seq (Rg [oM 5 0,oN 6 5,oK 7 0]
 (.blk 0 (.loop 3 q22_L3_b)))
 (Rg [oB 2 false]
 (Fr 2))))⟩
def YlD(lo:Lo):FnE:=Zfe 554 true (Zsg [0] [.l (cs [I])] []) .b [] (fun x=>q22 lo x:(List Int)->Option Bool)
def fs23(lo:Lo):List FnE:=YlD lo::fs22 lo
theorem YuJ(h:GZ P fm fs22 lo)(t:Ti P fm 554 YuI):GZ P fm fs23 lo:=
  h.p (YlD lo) (YuH lo) t
end Go.Abs.G47
namespace Go.Abs.G47
open Go Go.Abs
set_option maxRecDepth 100000
set_option maxHeartbeats 1000000
variable{P:Program}{fm:FM}{lo:Lo}
def q23(lo:Lo)(db0:List (ByteArray×Zt3×Zt12))(d1_0:ByteArray)(d1_1:List Int)(d1_2:ByteArray)(d1_3:List Int):Option Int:=
  YIC (q14 lo db0 d1_0) fun y44=>YIC (q14 lo db0 d1_2) fun y45=>bif(decide (y44<0))then(some (4:Int))else(bif(decide (y45<0))then(some (4:Int))else(bif(!decide ((d1_1.length:Int)=(d1_3.length:Int)))then(some (6:Int))else(chk (0<=y44/\y44< (db0.length:Int)) (YIC (q19 lo d1_1 (((db0.getD y44.toNat ((YIU #[]),[],[])).2.1).length:Int)) fun y52=>bif(!y52)then(some (6:Int))else(chk (0<=y45/\y45< (db0.length:Int)) (YIC (q19 lo d1_3 (((db0.getD y45.toNat ((YIU #[]),[],[])).2.1).length:Int)) fun y53=>bif(!y53)then(some (6:Int))else(YIC (q22 lo d1_1) fun y62=>bif y62 then(some (1:Int))else(YIC (q22 lo d1_3) fun y63=>bif y63 then(some (1:Int))else(some (0:Int))))))))))
def YuK:VFn:=⟨true,64,[.t 4],
 (Rg [oG 2 0,oG 3 1,oK 4 0]
 (Rg [oF 7 0 2,oL 8 7,oF 9 0 3,oL 10 9,oC 11 552 [8,10],oF 12 0 2,oL 13 12,oF 14 2 3,oL 15 14,oC 16 552 [13,15],oM 5 11,oM 6 16]
 (.seq (Rg [oM 17 5,oR 18 .lss 17 (k 0),oM 19 18,gF 20 19 (.mv 6),gF 21 19 (.bin .lss 20 (k 0)),oP 22 19 (kb true) 21]
 (.cond 22 (Rg [oK 4 4]
 (Fr 4))
 .skip))
 (.seq (Rg [oF 23 1 3,oL 24 23,oN 25 24,oF 26 3 3,oL 27 26,oN 28 27,oR 29 .neq 25 28,oM 30 29,gF 31 30 (.fad 1 3),gF 32 30 (.load false 1 31),gF 33 30 (.fad 0 2),gF 34 30 (.load false 1 33),gF 35 30 (.mv 5),gF 36 30 (.iad 3 34 35),gF 37 30 (.fad 1 36),gF 38 30 (.load false 1 37),gF 39 30 (.len 38),gF 40 30 (.call 553 [32,39]),gF 41 30 (.not 40),oP 42 30 (kb true) 41,oM 43 42,gF 44 43 (.fad 3 3),gF 45 43 (.load false 1 44),gF 46 43 (.fad 0 2),gF 47 43 (.load false 1 46),gF 48 43 (.mv 6),gF 49 43 (.iad 3 47 48),gF 50 43 (.fad 1 49),gF 51 43 (.load false 1 50),gF 52 43 (.len 51),gF 53 43 (.call 553 [45,52]),gF 54 43 (.not 53),oP 55 43 (kb true) 54]
 (.cond 55 (Rg [oK 4 6]
 (Fr 4))
 .skip))
 (.seq (Rg [oF 56 1 3,oL 57 56,oC 58 554 [57],oM 59 58,gF 60 59 (.fad 3 3),gF 61 59 (.load false 1 60),gF 62 59 (.call 554 [61]),oP 63 59 (kb true) 62]
 (.cond 63 (Rg [oK 4 1]
 (Fr 4))
 .skip))
 (Rg [oK 4 0]
 (Fr 4)))))))⟩
def YlE(lo:Lo):FnE:=Zfe 536 true (Zsg [0,1] [.ag [.l Zc6],.ag [.s,.l (cs [I]),.s,.l (cs [I])]] []) (.i .i64) [] (fun x=>q23 lo x.1 x.2.1 x.2.2.1 x.2.2.2.1 x.2.2.2.2:Zt1×ByteArray× (List Int)×ByteArray× (List Int)->Option Int)
def fs24(lo:Lo):List FnE:=YlE lo::fs23 lo
theorem YuL(h:GZ P fm fs23 lo)(t:Ti P fm 536 YuK):GZ P fm fs24 lo:=
  h.p (YlE lo) .n t
def q24(lo:Lo)(db0:List (ByteArray×Zt3×Zt12))(d1_0:ByteArray)(d1_1:List Int)(d1_2:ByteArray)(d1_3:List Int):Option Int:=
  YIC (q15 lo db0) fun y43=>bif(!decide (y43=0))then(some y43)else(YIC (q23 lo db0 d1_0 d1_1 d1_2 d1_3) fun y64=>some y64)
def YuM:VFn:=⟨true,14,[.t 4],
 (Rg [oG 2 0,oG 3 1,oK 4 0]
 (.seq (Rg [oT 6 1 2,oC 7 535 [6],oM 5 7]
 (Rg [oM 8 5,oR 9 .neq 8 (k 0)]
 (.cond 9 (Rg [oM 10 5,oM 4 10]
 (Fr 4))
 .skip)))
 (Rg [oT 11 1 2,oT 12 4 3,oC 13 536 [11,12],oM 4 13]
 (Fr 4))))⟩
def YlF(lo:Lo):FnE:=Zfe 500 true (Zsg [0,1] [.ag [.l Zc6],.ag [.s,.l (cs [I]),.s,.l (cs [I])]] []) (.i .i64) [] (fun x=>q24 lo x.1 x.2.1 x.2.2.1 x.2.2.2.1 x.2.2.2.2:Zt1×ByteArray× (List Int)×ByteArray× (List Int)->Option Int)
def fs25(lo:Lo):List FnE:=YlF lo::fs24 lo
theorem YuN(h:GZ P fm fs24 lo)(t:Ti P fm 500 YuM):GZ P fm fs25 lo:=
  h.p (YlF lo) .n t
def q25_L3_b:VCode:=
 (Rg [oR 12 .lss 11 10]
 (.seq (Ce 12 0)
 (.seq (.blk 1 (Rg [oI 13 3 9 11,oT 14 3 13,o 7 (.alloc [.s (⟨#[]⟩),.e (cs [.s]),.e Zc15]),oS 3 7 14]
 (Rg [oF 15 0 7,oL 16 15,oM 17 1,oR 18 .eql 16 17]
 (.cond 18 (Rg [oT 19 3 7,oS 3 4 19,oB 5 true]
 (.fz [4,5] .ret))
 .skip))))
 (.reg [oR 20 .add 11 (k 1),oM 11 20]))))
def Yd9(lo:Lo):Zp55->Option (Zp55⊕ ((Bool×ByteArray×Zt3×Zt12)⊕ (ByteArray×Zt3×Zt12))):=fun x=>match x with
  | (name1,v9,v10,v11,v4_0,v4_1,v4_2)=>bif(decide (v11<v10))then(chk (0<=v11/\v11< (v9.length:Int)) (bif(decide ((v9.getD v11.toNat ((YIU #[]),[],[])).1=name1))then(some (.inr (.inl (true,(v9.getD v11.toNat ((YIU #[]),[],[])).1,(v9.getD v11.toNat ((YIU #[]),[],[])).2.1,(v9.getD v11.toNat ((YIU #[]),[],[])).2.2))))else(some (.inl (name1,v9,v10,(YIV .i64 (v11+1)),v4_0,v4_1,v4_2)))))else(some (.inr (.inr (v4_0,v4_1,v4_2))))
def Ygt(lo:Lo):Zp55->Option ((Bool×ByteArray×Zt3×Zt12)⊕ (ByteArray×Zt3×Zt12)):=lo.run (Yd9 lo)
def YuO(lo:Lo):LpE:=⟨3,[],(Zsg [1,4,9,10,11] [.s,.ptr 0 0 0,.l Zc6,.j,.j] [.st [.s,.l (cs [.s]),.l Zc15]]),[⟨.ret,(Zsg [4,5] [.ptr 0 0 0,.b] [.st [.s,.l (cs [.s]),.l Zc15]])⟩,⟨.exit 0,(Zsg [4] [.ptr 0 0 0] [.st [.s,.l (cs [.s]),.l Zc15]])⟩],Ygt lo⟩
def YuP(lo:Lo):LL:=(YuO lo,.loop q25_L3_b.er)::[]
theorem YuQ(lo:Lo):Lk lo pf (fs25 lo) 0 (YuP lo):=.l .n (Yd9 lo)
def q25(lo:Lo)(db0:List (ByteArray×Zt3×Zt12))(name1:ByteArray):Option (ByteArray×Zt3×Zt12×Bool):=
  YIC (Ygt lo (name1,db0,(db0.length:Int),(0:Int),(YIU #[]),([]:List ByteArray),([]:List (Int×Zt4)))) fun y66=>alt2 y66 (fun y67=>some (y67.2.1,y67.2.2.1,y67.2.2.2,y67.1)) (fun y68=>some ((YIU #[]),([]:List ByteArray),([]:List (Int×Zt4)),false))
def YuR:VFn:=⟨true,22,[.c 4 true 3,.t 5],
 (Rg [oG 2 0,o 4 (.alloc [.s (⟨#[]⟩),.e (cs [.s]),.e Zc15]),oB 5 false]
 (.seq (Rg [oF 8 0 2,oL 9 8,oN 10 9,oK 11 0]
 (.blk 0 (.loop 3 q25_L3_b)))
 (Rg [o 21 (.build [.s (⟨#[]⟩),.e (cs [.s]),.e Zc15] []),oS 3 4 21,oB 5 false]
 (.fz [4,5] .ret))))⟩
def YlG(lo:Lo):FnE:=Zfe 501 true (Zsg [0,1] [.ag [.l Zc6],.s] []) (.tp [.ag [.s,.l (cs [.s]),.l Zc15],.b]) [] (fun x=>q25 lo x.1 x.2:Zt1×ByteArray->Option (ByteArray×Zt3×Zt12×Bool))
def fs26(lo:Lo):List FnE:=YlG lo::fs25 lo
theorem YuS(h:GZ P fm fs25 lo)(t:Ti P fm 501 YuR):GZ P fm fs26 lo:=
  h.p (YlG lo) (YuQ lo) t
def q26(lo:Lo)(c0:Int):Option Bool:=
  bif(decide (97<=c0))then(bif(decide (c0<=122))then(some true)else(bif(decide (65<=c0))then(bif(decide (c0<=90))then(some true)else(some (decide (c0=95))))else(some (decide (c0=95)))))else(bif(decide (65<=c0))then(bif(decide (c0<=90))then(some true)else(some (decide (c0=95))))else(some (decide (c0=95))))
def YuT:VFn:=⟨true,21,[.t 2],
 (Rg [oB 2 false]
 (Rg [oM 3 0,oR 4 .geq 3 (ki .u8 97),oM 5 4,gT 6 5 (.mv 0),gT 7 5 (.bin .leq 6 (ki .u8 122)),oP 8 5 7 (kb false),oM 9 8,gF 10 9 (.mv 0),gF 11 9 (.bin .geq 10 (ki .u8 65)),gF 12 9 (.mv 11),gT 13 12 (.mv 0),gT 14 12 (.bin .leq 13 (ki .u8 90)),gF 15 9 (.pick 12 14 (kb false)),oP 16 9 (kb true) 15,oM 17 16,gF 18 17 (.mv 0),gF 19 17 (.bin .eql 18 (ki .u8 95)),oP 20 17 (kb true) 19,oM 2 20]
 (Fr 2)))⟩
def YlH(lo:Lo):FnE:=Zfe 555 true (Zsg [0] [.i .u8] []) .b [] (fun x=>q26 lo x:Int->Option Bool)
def fs27(lo:Lo):List FnE:=YlH lo::fs26 lo
theorem YuU(h:GZ P fm fs26 lo)(t:Ti P fm 555 YuT):GZ P fm fs27 lo:=
  h.p (YlH lo) .n t
def q27(lo:Lo)(c0:Int):Option Bool:=
  bif(decide (48<=c0))then(some (decide (c0<=57)))else(some false)
def YuV:VFn:=⟨true,9,[.t 2],
 (Rg [oB 2 false]
 (Rg [oM 3 0,oR 4 .geq 3 (ki .u8 48),oM 5 4,gT 6 5 (.mv 0),gT 7 5 (.bin .leq 6 (ki .u8 57)),oP 8 5 7 (kb false),oM 2 8]
 (Fr 2)))⟩
def YlI(lo:Lo):FnE:=Zfe 556 true (Zsg [0] [.i .u8] []) .b [] (fun x=>q27 lo x:Int->Option Bool)
def fs28(lo:Lo):List FnE:=YlI lo::fs27 lo
theorem YuW(h:GZ P fm fs27 lo)(t:Ti P fm 556 YuV):GZ P fm fs28 lo:=
  h.p (YlI lo) .n t
def q28_L3_b:VCode:=
 (Rg [oR 24 .lss 23 22]
 (.seq (Ce 24 0)
 (.seq (.blk 1 (Rg [oM 25 23,oM 3 25]
 (Rg [oM 26 0,oM 27 3,o 28 (.idx 26 27),oC 29 555 [28],oX 30 29,oM 31 30,gT 32 31 (.mv 0),gT 33 31 (.mv 3),gT 34 31 (.idx 32 33),gT 35 31 (.call 556 [34]),gT 36 31 (.not 35),oP 37 31 36 (kb false)]
 (.cond 37 (Rg [oB 2 false]
 (Fr 2))
 .skip))))
 (.reg [oR 38 .add 23 (k 1),oM 23 38]))))
def Yea(lo:Lo):ByteArray×Int×Int->Option ((ByteArray×Int×Int)⊕ (Bool⊕Unit)):=fun x=>match x with
  | (s0,v22,v23)=>bif(decide (v23<v22))then(chk (0<=v23/\v23< (s0.size:Int)) (YIC (q26 lo (YCZ s0 v23)) fun y71=>bif(!y71)then(chk (0<=v23/\v23< (s0.size:Int)) (YIC (q27 lo (YCZ s0 v23)) fun y72=>bif(!y72)then(some (.inr (.inl false)))else(some (.inl (s0,v22,(YIV .i64 (v23+1)))))))else(some (.inl (s0,v22,(YIV .i64 (v23+1)))))))else(some (.inr (.inr ())))
def Ygu(lo:Lo):ByteArray×Int×Int->Option (Bool⊕Unit):=lo.run (Yea lo)
def YuX(lo:Lo):LpE:=⟨3,[],(Zsg [0,22,23] [.s,.j,.j] []),[⟨.ret,(Zsg [2] [.b] [])⟩,⟨.exit 0,(Zsg [] [] [])⟩],Ygu lo⟩
def YuY(lo:Lo):LL:=(YuX lo,.loop q28_L3_b.er)::[]
theorem YuZ(lo:Lo):Lk lo pf (fs28 lo) 0 (YuY lo):=.l .n (Yea lo)
def q28(lo:Lo)(s0:ByteArray):Option Bool:=
  bif(decide (s0=(YIU #[])))then(some false)else(bif(decide ((24:Int)< (s0.size:Int)))then(some false)else(bif(decide (s0=(YIU #[110,117,108,108])))then(some false)else(chk (0<=(0:Int)/\ (0:Int)< (s0.size:Int)) (YIC (q26 lo (YCZ s0 (0:Int))) fun y70=>bif(!y70)then(some false)else(YIC (Ygu lo (s0,(s0.size:Int),(0:Int))) fun y73=>alt2 y73 (fun y74=>some y74) (fun y75=>some true))))))
def Yu0:VFn:=⟨true,39,[.t 2],
 (Rg [oB 2 false]
 (.seq (Rg [oM 4 0,oR 5 .eql 4 (ks (⟨#[]⟩)),oM 6 5,gF 7 6 (.mv 0),gF 8 6 (.lenS 7),gF 9 6 (.bin .gtr 8 (k 24)),oP 10 6 (kb true) 9,oM 11 10,gF 12 11 (.mv 0),gF 13 11 (.bin .eql 12 (ks (⟨#[110,117,108,108]⟩))),oP 14 11 (kb true) 13,oM 15 14,gF 16 15 (.mv 0),gF 17 15 (.idx 16 (k 0)),gF 18 15 (.call 555 [17]),gF 19 15 (.not 18),oP 20 15 (kb true) 19]
 (.cond 20 (Rg [oB 2 false]
 (Fr 2))
 .skip))
 (.seq (Rg [oM 21 0,o 22 (.lenS 21),oK 23 0]
 (.blk 0 (.loop 3 q28_L3_b)))
 (Rg [oB 2 true]
 (Fr 2)))))⟩
def YlJ(lo:Lo):FnE:=Zfe 538 true (Zsg [0] [.s] []) .b [] (fun x=>q28 lo x:ByteArray->Option Bool)
def fs29(lo:Lo):List FnE:=YlJ lo::fs28 lo
theorem Yu1(h:GZ P fm fs28 lo)(t:Ti P fm 538 Yu0):GZ P fm fs29 lo:=
  h.p (YlJ lo) (YuZ lo) t
def q29(lo:Lo)(t0_0:ByteArray)(t0_1:Int)(t0_2:Int)(t0_3:ByteArray):Option Bool:=
  bif(!decide (t0_0=(YIU #[])))then(YIC (q28 lo t0_0) fun y76=>bif y76 then(some ((decide (t0_1=0))&& ((decide (t0_2=0))&& ((decide (t0_3=(YIU #[])))&&true))))else(some false))else(YIC (q6 lo t0_1 t0_2 t0_3) fun y77=>some y77)
def Yu2:VFn:=⟨true,18,[.t 2],
 (Rg [oG 1 0,oB 2 false]
 (.seq (Rg [oF 3 0 1,oL 4 3,oR 5 .neq 4 (ks (⟨#[]⟩))]
 (.cond 5 (Rg [oF 6 0 1,oL 7 6,oC 8 538 [7],oM 9 8,gT 10 9 (.fad 1 1),gT 11 9 (.load true 3 10),gT 12 9 (.build [.i .i64 0,.i .i64 0,.s (⟨#[]⟩)] []),gT 13 9 (.eqa false [1,1,2] 11 12),oP 14 9 13 (kb false),oM 2 14]
 (Fr 2))
 .skip))
 (Rg [oF 15 1 1,oT 16 3 15,oC 17 283 [16],oM 2 17]
 (Fr 2))))⟩
def YlK(lo:Lo):FnE:=Zfe 504 true (Zsg [0] [.ag [.s,.j,.j,.s]] []) .b [] (fun x=>q29 lo x.1 x.2.1 x.2.2.1 x.2.2.2:Zp69->Option Bool)
def fs30(lo:Lo):List FnE:=YlK lo::fs29 lo
theorem Yu3(h:GZ P fm fs29 lo)(t:Ti P fm 504 Yu2):GZ P fm fs30 lo:=
  h.p (YlK lo) .n t
def q30(lo:Lo)(t0_0:ByteArray)(t0_1:Int)(t0_2:Int)(t0_3:ByteArray):Option Bool:=
  YIC (q29 lo t0_0 t0_1 t0_2 t0_3) fun y78=>some (!y78)
def Yu4:VFn:=⟨true,6,[.t 2],
 (Rg [oG 1 0,oB 2 false]
 (Rg [oT 3 4 1,oC 4 504 [3],oX 5 4,oM 2 5]
 (Fr 2)))⟩
def YlL(lo:Lo):FnE:=Zfe 503 true (Zsg [0] [.ag [.s,.j,.j,.s]] []) .b [] (fun x=>q30 lo x.1 x.2.1 x.2.2.1 x.2.2.2:Zp69->Option Bool)
def fs31(lo:Lo):List FnE:=YlL lo::fs30 lo
theorem Yu5(h:GZ P fm fs30 lo)(t:Ti P fm 503 Yu4):GZ P fm fs31 lo:=
  h.p (YlL lo) .n t
def q31_L3_b:VCode:=
 (Rg [oR 9 .lss 8 7]
 (.seq (Ce 9 0)
 (.seq (.blk 1 (Rg [oM 10 8,oM 5 10]
 (Rg [oM 11 1,oM 12 0,oM 13 5,oI 14 4 12 13,oT 15 4 14,o 16 (.dyn 11 [15])]
 (.cond 16 (Rg [oM 17 5,oM 4 17]
 .ret)
 .skip))))
 (.reg [oR 18 .add 8 (k 1),oM 8 18]))))
def Yeb(lo:Lo):Zt5×Int×Int->Option ((Zt5×Int×Int)⊕ (Int⊕Unit)):=fun x=>match x with
  | (s0,v7,v8)=>bif(decide (v8<v7))then(chk (0<=v8/\v8< (s0.length:Int)) (YIC (q30 lo ((s0.getD v8.toNat Zd0).1) ((s0.getD v8.toNat Zd0).2.1) ((s0.getD v8.toNat Zd0).2.2.1) ((s0.getD v8.toNat Zd0).2.2.2)) fun y79=>bif y79 then(some (.inr (.inl v8)))else(some (.inl (s0,v7,(YIV .i64 (v8+1)))))))else(some (.inr (.inr ())))
def Ygv(lo:Lo):Zt5×Int×Int->Option (Int⊕Unit):=lo.run (Yeb lo)
def Yu6(lo:Lo):LpE:=⟨3,[],(Zsg [0,1,7,8] [.l Zc11,.clo 503 [],.j,.j] []),[⟨.ret,(Zsg [4] [.j] [])⟩,⟨.exit 0,(Zsg [] [] [])⟩],Ygv lo⟩
def Yu7(lo:Lo):LL:=(Yu6 lo,.loop q31_L3_b.er)::[]
theorem Yu8(lo:Lo):Lk lo pf (fs31 lo) 0 (Yu7 lo):=.l .n (Yeb lo)
def q31(lo:Lo)(s0:List Zp69):Option Int:=
  YIC (Ygv lo (s0,(s0.length:Int),(0:Int))) fun y80=>alt2 y80 (fun y81=>some y81) (fun y82=>some (-1:Int))
def Yu9:VFn:=⟨true,19,[.t 4],
 (Rg [oK 4 0]
 (.seq (Rg [oM 6 0,oN 7 6,oK 8 0]
 (.blk 0 (.loop 3 q31_L3_b)))
 (Rg [oK 4 (-1)]
 .ret)))⟩
def YlM(lo:Lo):FnE:=Zfe 537 false (Zsg [0,1] [.l Zc11,.clo 503 []] []) (.i .i64) [] (fun x=>q31 lo x:Zt5->Option Int)
def fs32(lo:Lo):List FnE:=YlM lo::fs31 lo
theorem Yva(h:GZ P fm fs31 lo)(t:Ti P fm 537 Yu9):GZ P fm fs32 lo:=
  h.i (YlM lo) (Yu8 lo) t
def q32(lo:Lo)(s0:List Zp69):Option Bool:=
  YIC (q31 lo s0) fun y83=>some (decide (0<=y83))
def Yvb:VFn:=⟨true,9,[.t 4],
 (Rg [oB 4 false]
 (Rg [oM 5 0,oM 6 1,oC 7 537 [5,6],oR 8 .geq 7 (k 0),oM 4 8]
 .ret))⟩
def YlN(lo:Lo):FnE:=Zfe 502 false (Zsg [0,1] [.l Zc11,.clo 503 []] []) .b [] (fun x=>q32 lo x:Zt5->Option Bool)
def fs33(lo:Lo):List FnE:=YlN lo::fs32 lo
theorem Yvc(h:GZ P fm fs32 lo)(t:Ti P fm 502 Yvb):GZ P fm fs33 lo:=
  h.i (YlN lo) .n t
def q33(lo:Lo)(t0_0:ByteArray)(t0_1:Int)(t0_2:Int)(t0_3:ByteArray)(v1:ByteArray):Option (Bool×ByteArray):=
  some ((decide (t0_0=v1)),v1)
def Yvd:VFn:=⟨true,8,[.t 3],
 (Rg [oG 2 0,oB 3 false]
 (Rg [oF 4 0 2,oL 5 4,oL 6 1,oR 7 .eql 5 6,oM 3 7]
 .ret))⟩
def YlO(lo:Lo):FnE:=Zfe 541 false (Zsg [0,1] [.ag [.s,.j,.j,.s],.ptr 0 0 0] [.st [.s]]) .b [.st [.s]] (fun x=>q33 lo x.1 x.2.1 x.2.2.1 x.2.2.2.1 x.2.2.2.2:ByteArray×Int×Int×ByteArray×ByteArray->Option (Bool×ByteArray))
def fs34(lo:Lo):List FnE:=YlO lo::fs33 lo
theorem Yve(h:GZ P fm fs33 lo)(t:Ti P fm 541 Yvd):GZ P fm fs34 lo:=
  h.i (YlO lo) .n t
def q34_L3_b:VCode:=
 (Rg [oR 9 .lss 8 7]
 (.seq (Ce 9 0)
 (.seq (.blk 1 (Rg [oM 10 8,oM 5 10]
 (Rg [oM 11 1,oM 12 0,oM 13 5,oI 14 4 12 13,oT 15 4 14,o 16 (.dyn 11 [15])]
 (.cond 16 (Rg [oM 17 5,oM 4 17]
 .ret)
 .skip))))
 (.reg [oR 18 .add 8 (k 1),oM 8 18]))))
def Yec(lo:Lo):Zt5×Int×Int×ByteArray->Option ((Zt5×Int×Int×ByteArray)⊕ ((Int×ByteArray)⊕ByteArray)):=fun x=>match x with
  | (s0,v7,v8,h0)=>bif(decide (v8<v7))then(chk (0<=v8/\v8< (s0.length:Int)) (YIC (q33 lo ((s0.getD v8.toNat Zd0).1) ((s0.getD v8.toNat Zd0).2.1) ((s0.getD v8.toNat Zd0).2.2.1) ((s0.getD v8.toNat Zd0).2.2.2) h0) fun y89=>bif y89.1 then(some (.inr (.inl (v8,y89.2))))else(some (.inl (s0,v7,(YIV .i64 (v8+1)),y89.2)))))else(some (.inr (.inr h0)))
def Ygw(lo:Lo):Zt5×Int×Int×ByteArray->Option ((Int×ByteArray)⊕ByteArray):=lo.run (Yec lo)
def Yvf(lo:Lo):LpE:=⟨3,[],(Zsg [0,1,7,8] [.l Zc11,.clo 541 [.ptr 0 0 0],.j,.j] [.st [.s]]),[⟨.ret,(Zsg [4] [.j] [.st [.s]])⟩,⟨.exit 0,(Zsg [] [] [.st [.s]])⟩],Ygw lo⟩
def Yvg(lo:Lo):LL:=(Yvf lo,.loop q34_L3_b.er)::[]
theorem Yvh(lo:Lo):Lk lo pf (fs34 lo) 1 (Yvg lo):=.l .n (Yec lo)
def q34(lo:Lo)(s0:List Zp69)(h0:ByteArray):Option (Int×ByteArray):=
  YIC (Ygw lo (s0,(s0.length:Int),(0:Int),h0)) fun y90=>alt2 y90 (fun y91=>some (y91.1,y91.2)) (fun y92=>some ((-1:Int),y92))
def Yvi:VFn:=⟨true,19,[.t 4],
 (Rg [oK 4 0]
 (.seq (Rg [oM 6 0,oN 7 6,oK 8 0]
 (.blk 0 (.loop 3 q34_L3_b)))
 (Rg [oK 4 (-1)]
 .ret)))⟩
def YlP(lo:Lo):FnE:=Zfe 537 false (Zsg [0,1] [.l Zc11,.clo 541 [.ptr 0 0 0]] [.st [.s]]) (.i .i64) [.st [.s]] (fun x=>q34 lo x.1 x.2:Zt5×ByteArray->Option (Int×ByteArray))
def fs35(lo:Lo):List FnE:=YlP lo::fs34 lo
theorem Yvj(h:GZ P fm fs34 lo)(t:Ti P fm 537 Yvi):GZ P fm fs35 lo:=
  h.i (YlP lo) (Yvh lo) t
def q35(lo:Lo)(s0:List Zp69)(h0:ByteArray):Option (Bool×ByteArray):=
  YIC (q34 lo s0 h0) fun y93=>some ((decide ((0:Int)<=y93.1)),y93.2)
def Yvk:VFn:=⟨true,9,[.t 4],
 (Rg [oB 4 false]
 (Rg [oM 5 0,oM 6 1,oC 7 537 [5,6],oR 8 .geq 7 (k 0),oM 4 8]
 .ret))⟩
def YlQ(lo:Lo):FnE:=Zfe 502 false (Zsg [0,1] [.l Zc11,.clo 541 [.ptr 0 0 0]] [.st [.s]]) .b [.st [.s]] (fun x=>q35 lo x.1 x.2:Zt5×ByteArray->Option (Bool×ByteArray))
def fs36(lo:Lo):List FnE:=YlQ lo::fs35 lo
theorem Yvl(h:GZ P fm fs35 lo)(t:Ti P fm 502 Yvk):GZ P fm fs36 lo:=
  h.i (YlQ lo) .n t
def q36(lo:Lo)(a0_0:ByteArray)(a0_1:List Zp69)(v1:ByteArray):Option (Bool×ByteArray):=
  YIC (q35 lo a0_1 v1) fun y94=>some (y94.1,y94.2)
def Yvm:VFn:=⟨true,8,[.t 3],
 (Rg [oG 2 0,oB 3 false]
 (Rg [oF 4 1 2,oL 5 4,o 6 (.mkf 541 [1]),oC 7 502 [5,6],oM 3 7]
 .ret))⟩
def YlR(lo:Lo):FnE:=Zfe 540 false (Zsg [0,1] [.ag [.s,.l Zc11],.ptr 0 0 0] [.st [.s]]) .b [.st [.s]] (fun x=>q36 lo x.1 x.2.1 x.2.2:ByteArray×Zt5×ByteArray->Option (Bool×ByteArray))
def fs37(lo:Lo):List FnE:=YlR lo::fs36 lo
theorem Yvn(h:GZ P fm fs36 lo)(t:Ti P fm 540 Yvm):GZ P fm fs37 lo:=
  h.i (YlR lo) .n t
def q37_L3_b:VCode:=
 (Rg [oR 9 .lss 8 7]
 (.seq (Ce 9 0)
 (.seq (.blk 1 (Rg [oM 10 8,oM 5 10]
 (Rg [oM 11 1,oM 12 0,oM 13 5,oI 14 2 12 13,oT 15 2 14,o 16 (.dyn 11 [15])]
 (.cond 16 (Rg [oM 17 5,oM 4 17]
 .ret)
 .skip))))
 (.reg [oR 18 .add 8 (k 1),oM 8 18]))))
def Yed(lo:Lo):Zt0×Int×Int×ByteArray->Option ((Zt0×Int×Int×ByteArray)⊕ ((Int×ByteArray)⊕ByteArray)):=fun x=>match x with
  | (s0,v7,v8,h0)=>bif(decide (v8<v7))then(chk (0<=v8/\v8< (s0.length:Int)) (YIC (q36 lo ((s0.getD v8.toNat ((YIU #[]),[])).1) ((s0.getD v8.toNat ((YIU #[]),[])).2) h0) fun y95=>bif y95.1 then(some (.inr (.inl (v8,y95.2))))else(some (.inl (s0,v7,(YIV .i64 (v8+1)),y95.2)))))else(some (.inr (.inr h0)))
def Ygx(lo:Lo):Zt0×Int×Int×ByteArray->Option ((Int×ByteArray)⊕ByteArray):=lo.run (Yed lo)
def Yvo(lo:Lo):LpE:=⟨3,[],(Zsg [0,1,7,8] [.l Zc7,.clo 540 [.ptr 0 0 0],.j,.j] [.st [.s]]),[⟨.ret,(Zsg [4] [.j] [.st [.s]])⟩,⟨.exit 0,(Zsg [] [] [.st [.s]])⟩],Ygx lo⟩
def Yvp(lo:Lo):LL:=(Yvo lo,.loop q37_L3_b.er)::[]
theorem Yvq(lo:Lo):Lk lo pf (fs37 lo) 1 (Yvp lo):=.l .n (Yed lo)
def q37(lo:Lo)(s0:List (ByteArray×Zt5))(h0:ByteArray):Option (Int×ByteArray):=
  YIC (Ygx lo (s0,(s0.length:Int),(0:Int),h0)) fun y96=>alt2 y96 (fun y97=>some (y97.1,y97.2)) (fun y98=>some ((-1:Int),y98))
def Yvr:VFn:=⟨true,19,[.t 4],
 (Rg [oK 4 0]
 (.seq (Rg [oM 6 0,oN 7 6,oK 8 0]
 (.blk 0 (.loop 3 q37_L3_b)))
 (Rg [oK 4 (-1)]
 .ret)))⟩
def YlS(lo:Lo):FnE:=Zfe 557 false (Zsg [0,1] [.l Zc7,.clo 540 [.ptr 0 0 0]] [.st [.s]]) (.i .i64) [.st [.s]] (fun x=>q37 lo x.1 x.2:Zt0×ByteArray->Option (Int×ByteArray))
def fs38(lo:Lo):List FnE:=YlS lo::fs37 lo
theorem Yvs(h:GZ P fm fs37 lo)(t:Ti P fm 557 Yvr):GZ P fm fs38 lo:=
  h.i (YlS lo) (Yvq lo) t
def q38(lo:Lo)(s0:List (ByteArray×Zt5))(h0:ByteArray):Option (Bool×ByteArray):=
  YIC (q37 lo s0 h0) fun y99=>some ((decide ((0:Int)<=y99.1)),y99.2)
def Yvt:VFn:=⟨true,9,[.t 4],
 (Rg [oB 4 false]
 (Rg [oM 5 0,oM 6 1,oC 7 557 [5,6],oR 8 .geq 7 (k 0),oM 4 8]
 .ret))⟩
def YlT(lo:Lo):FnE:=Zfe 539 false (Zsg [0,1] [.l Zc7,.clo 540 [.ptr 0 0 0]] [.st [.s]]) .b [.st [.s]] (fun x=>q38 lo x.1 x.2:Zt0×ByteArray->Option (Bool×ByteArray))
def fs39(lo:Lo):List FnE:=YlT lo::fs38 lo
theorem Yvu(h:GZ P fm fs38 lo)(t:Ti P fm 539 Yvt):GZ P fm fs39 lo:=
  h.i (YlT lo) .n t
def q39_L3_b:VCode:=
 (Rg [oR 9 .lss 8 7]
 (.seq (Ce 9 0)
 (.seq (.blk 1 (Rg [oM 10 8,oI 11 1 6 8,oL 12 11,o 4 (.alloc [.s (⟨#[]⟩)]),oM 3 10,oS 1 4 12]
 (Rg [oL 13 4,oR 14 .eql 13 (ks (⟨#[]⟩)),oM 15 14,gF 16 15 (.fad 0 1),gF 17 15 (.load false 1 16),gF 18 15 (.mv 3),gF 19 15 (.slcR 1 17 none (some 18)),gF 20 15 (.load false 1 4),gF 21 15 (.call 256 [19,20]),oP 22 15 (kb true) 21,oM 23 22,gF 24 23 (.fad 1 1),gF 25 23 (.load false 1 24),gF 26 23 (.mkf 540 [4]),gF 27 23 (.call 539 [25,26]),gF 28 23 (.not 27),oP 29 23 (kb true) 28]
 (.cond 29 (Rg [oB 2 false]
 (Fr 2))
 .skip))))
 (.reg [oR 30 .add 8 (k 1),oM 8 30]))))
def Yee(lo:Lo):Zt3×Int×Int×Zt3×Zt0->Option ((Zt3×Int×Int×Zt3×Zt0)⊕ (Bool⊕Unit)):=fun x=>match x with
  | (v6,v7,v8,q1_0,q1_1)=>bif(decide (v8<v7))then(chk (0<=v8/\v8< (v6.length:Int)) (bif(decide ((v6.getD v8.toNat (YIU #[]))=(YIU #[])))then(some (.inr (.inl false)))else(chk (0<=(0:Int)/\0<=v8/\v8<=(q1_0.length:Int)) (YIC (q5 lo ((q1_0.take v8.toNat).drop 0) (v6.getD v8.toNat (YIU #[]))) fun y88=>bif y88 then(some (.inr (.inl false)))else(YIC (q38 lo q1_1 (v6.getD v8.toNat (YIU #[]))) fun y100=>bif(!y100.1)then(some (.inr (.inl false)))else(some (.inl (v6,v7,(YIV .i64 (v8+1)),q1_0,q1_1))))))))else(some (.inr (.inr ())))
def Ygy(lo:Lo):Zt3×Int×Int×Zt3×Zt0->Option (Bool⊕Unit):=lo.run (Yee lo)
def Yvv(lo:Lo):LpE:=⟨3,[],(Zsg [1,6,7,8] [.ptr 0 0 0,.l (cs [.s]),.j,.j] [.st [.l (cs [.s]),.l Zc7]]),[⟨.ret,(Zsg [2] [.b] [])⟩,⟨.exit 0,(Zsg [] [] [])⟩],Ygy lo⟩
def Yvw(lo:Lo):LL:=(Yvv lo,.loop q39_L3_b.er)::[]
theorem Yvx(lo:Lo):Lk lo pf (fs39 lo) 0 (Yvw lo):=.l .n (Yee lo)
def q39(lo:Lo)(q0_0:List ByteArray)(q0_1:List (ByteArray×Zt5)):Option Bool:=
  YIC (Ygy lo (q0_0,(q0_0.length:Int),(0:Int),q0_0,q0_1)) fun y101=>alt2 y101 (fun y102=>some y102) (fun y103=>some true)
def Yvy:VFn:=⟨true,31,[.t 2],
 (Rg [oG 1 0,oB 2 false]
 (.seq (Rg [oF 5 0 1,oL 6 5,oN 7 6,oK 8 0]
 (.blk 0 (.loop 3 q39_L3_b)))
 (Rg [oB 2 true]
 (Fr 2))))⟩
def YlU(lo:Lo):FnE:=Zfe 505 true (Zsg [0] [.ag [.l (cs [.s]),.l Zc7]] []) .b [] (fun x=>q39 lo x.1 x.2:Zt3×Zt0->Option Bool)
def fs40(lo:Lo):List FnE:=YlU lo::fs39 lo
theorem Yvz(h:GZ P fm fs39 lo)(t:Ti P fm 505 Yvy):GZ P fm fs40 lo:=
  h.p (YlU lo) (Yvx lo) t
def q40_L6_b:VCode:=
 (Rg [oR 30 .lss 29 28]
 (.seq (Ce 30 0)
 (.seq (.blk 1 (Rg [oI 31 2 27 29,oT 32 2 31,o 7 (.alloc [.s (⟨#[]⟩),.e Zc11]),oS 2 7 32]
 (Rg [oT 34 1 2,oF 35 0 7,oL 36 35,oC 37 501 [34,36],oM 33 37,oE 38 33 0,oE 39 33 1,o 8 (.alloc [.s (⟨#[]⟩),.e (cs [.s]),.e Zc15]),oS 3 8 38,oM 9 39]
 (.blk 2 (Rg [oM 41 9,oX 42 41,oM 40 42]
 (.cond 40 (Rg [oK 4 4]
 (Fr 4))
 (Rg [oF 44 1 8,oL 45 44,oN 46 45,oF 47 1 7,oL 48 47,oN 49 48,oR 50 .neq 46 49,oM 43 50]
 (.cond 43 (Rg [oK 4 6]
 (Fr 4))
 (Rg [oF 52 1 7,oL 53 52,oC 54 502 [53,(.c (.f 503))],oM 51 54]
 (.cond 51 (Rg [oK 4 1]
 (Fr 4))
 .skip))))))))))
 (.reg [oR 55 .add 29 (k 1),oM 29 55]))))
def Yef(lo:Lo):Zt0×Int×Int×Zt1×Zt3×Zt0->Option ((Zt0×Int×Int×Zt1×Zt3×Zt0)⊕ (Int⊕ (Zt3×Zt0))):=fun x=>match x with
  | (v27,v28,v29,db2,q3_0,q3_1)=>bif(decide (v29<v28))then(chk (0<=v29/\v29< (v27.length:Int)) (YIC (q25 lo db2 ((v27.getD v29.toNat ((YIU #[]),[])).1)) fun y69=>bif(!y69.2.2.2)then(some (.inr (.inl (4:Int))))else(bif(!decide ((y69.2.1.length:Int)=(((v27.getD v29.toNat ((YIU #[]),[])).2).length:Int)))then(some (.inr (.inl (6:Int))))else(YIC (q32 lo ((v27.getD v29.toNat ((YIU #[]),[])).2)) fun y84=>bif y84 then(some (.inr (.inl (1:Int))))else(some (.inl (v27,v28,(YIV .i64 (v29+1)),db2,q3_0,q3_1)))))))else(some (.inr (.inr (q3_0,q3_1))))
def Ygz(lo:Lo):Zt0×Int×Int×Zt1×Zt3×Zt0->Option (Int⊕ (Zt3×Zt0)):=lo.run (Yef lo)
def YvA(lo:Lo):LpE:=⟨6,[],(Zsg [2,3,27,28,29] [.ptr 0 0 0,.ptr 1 0 0,.l Zc7,.j,.j] [.st [.l Zc6],.st [.l (cs [.s]),.l Zc7]]),[⟨.ret,(Zsg [4] [.j] [])⟩,⟨.exit 0,(Zsg [3] [.ptr 0 0 0] [.st [.l (cs [.s]),.l Zc7]])⟩],Ygz lo⟩
def YvB(lo:Lo):LL:=(YvA lo,.loop q40_L6_b.er)::[]
theorem YvC(lo:Lo):Lk lo pf (fs40 lo) 0 (YvB lo):=.l .n (Yef lo)
def q40(lo:Lo)(db0:List (ByteArray×Zt3×Zt12))(q1_0:List ByteArray)(q1_1:List (ByteArray×Zt5)):Option Int:=
  YIC (q24 lo db0 (YIU #[]) ([]:List Int) (YIU #[]) ([]:List Int)) fun y65=>bif(!decide (y65=4))then(some y65)else(bif(decide ((q1_1.length:Int)<1))then(some (1:Int))else(bif(decide ((6:Int)< (q1_1.length:Int)))then(some (1:Int))else(YIC (Ygz lo (q1_1,(q1_1.length:Int),(0:Int),db0,q1_0,q1_1)) fun y85=>alt2 y85 (fun y86=>some y86) (fun y87=>YIC (q39 lo y87.1 y87.2) fun y104=>bif(!y104)then(some (1:Int))else(some (0:Int))))))
def YvD:VFn:=⟨true,59,[.t 4],
 (Rg [oG 2 0,oG 3 1,oK 4 0]
 (.seq (Rg [oT 10 1 2,o 11 (.build [.s (⟨#[]⟩),.e (cs [I]),.s (⟨#[]⟩),.e (cs [I])] []),oC 12 500 [10,11],oM 5 12]
 (Rg [oM 13 5,oR 14 .neq 13 (k 4)]
 (.cond 14 (Rg [oM 15 5,oM 4 15]
 (Fr 4))
 .skip)))
 (.seq (Rg [oF 16 1 3,oL 17 16,oN 18 17,oR 19 .lss 18 (k 1),oM 20 19,gF 21 20 (.fad 1 3),gF 22 20 (.load false 1 21),gF 23 20 (.len 22),gF 24 20 (.bin .gtr 23 (k 6)),oP 25 20 (kb true) 24]
 (.cond 25 (Rg [oK 4 1]
 (Fr 4))
 .skip))
 (.seq (Rg [oF 26 1 3,oL 27 26,oN 28 27,oK 29 0]
 (.blk 0 (.loop 6 q40_L6_b)))
 (.seq (Rg [oT 56 2 3,oC 57 505 [56],oX 58 57]
 (.cond 58 (Rg [oK 4 1]
 (Fr 4))
 .skip))
 (Rg [oK 4 0]
 (Fr 4)))))))⟩
def YlV(lo:Lo):FnE:=Zfe 472 true (Zsg [0,1] [.ag [.l Zc6],.ag [.l (cs [.s]),.l Zc7]] []) (.i .i64) [] (fun x=>q40 lo x.1 x.2.1 x.2.2:Zt1×Zt3×Zt0->Option Int)
def fs41(lo:Lo):List FnE:=YlV lo::fs40 lo
theorem YvE(h:GZ P fm fs40 lo)(t:Ti P fm 472 YvD):GZ P fm fs41 lo:=
  h.p (YlV lo) (YvC lo) t
def q41_L3_b:VCode:=
 (Rg [oR 18 .lss 17 16]
 (.seq (Ce 18 0)
 (.seq (.blk 1 (Rg [oI 19 2 15 17,oT 20 2 19,o 7 (.alloc [.s (⟨#[]⟩),.e Zc11]),oS 2 7 20]
 (Rg [oT 22 1 2,oF 23 0 7,oL 24 23,oC 25 501 [22,24],oM 21 25,oE 26 21 0,oE 27 21 1,o 8 (.alloc [.s (⟨#[]⟩),.e (cs [.s]),.e Zc15]),oS 3 8 26,oM 9 27]
 (.reg [oM 28 5,oM 29 5,o 30 (.nilc 29),oF 31 2 30,oL 32 31,oT 33 3 8,o 34 (.bsl Zc6 1 [(0,33)]),o 35 (.app Zc6 0 32 34),o 36 (.nilc 28),oF 37 2 36,oS 1 37 35]))))
 (.reg [oR 38 .add 17 (k 1),oM 17 38]))))
def Yeg(lo:Lo):Zp40->Option (Zp40⊕ ((Zt3×Zt0×Zt1×Int×Zt2×Bool×Bool× (List Int)))):=fun x=>match x with
  | (v15,v16,v17,db2,m5_0,m5_1,h2,h3_0,h3_1,h3_2,h3_3,h4)=>bif(decide (v17<v16))then(chk (0<=v17/\v17< (v15.length:Int)) (YIC (q25 lo db2 ((v15.getD v17.toNat ((YIU #[]),[])).1)) fun y106=>chk (h2.length+([(y106.1,y106.2.1,y106.2.2.1)]).length<=maxEl) (some (.inl (v15,v16,(YIV .i64 (v17+1)),db2,m5_0,m5_1,(h2++([(y106.1,y106.2.1,y106.2.2.1)])),h3_0,h3_1,h3_2,h3_3,h4)))))else(some (.inr (m5_0,m5_1,h2,h3_0,h3_1,h3_2,h3_3,h4)))
def YgA(lo:Lo):Zp40->Option ((Zt3×Zt0×Zt1×Int×Zt2×Bool×Bool× (List Int))):=lo.run (Yeg lo)
def YvF(lo:Lo):LpE:=⟨3,[(5,some 2,false),(5,some 4,false)],(Zsg [2,5,15,16,17] [.ptr 0 0 0,.ptr 1 0 0,.l Zc7,.j,.j] [.st [.l Zc6],.st [.l (cs [.s]),.l Zc7,.ref 2,.np 3,.ref 4,.u],.sq Zc6,.st [.j,.l Zc14,.b,.b],.sq (cs [I])]),[⟨.exit 0,(Zsg [5] [.ptr 0 0 0] [.st [.l (cs [.s]),.l Zc7,.ref 1,.np 2,.ref 3,.u],.sq Zc6,.st [.j,.l Zc14,.b,.b],.sq (cs [I])])⟩],YgA lo⟩
def YvG(lo:Lo):LL:=(YvF lo,.loop q41_L3_b.er)::[]
theorem YvH(lo:Lo):Lk lo pf (fs41 lo) 0 (YvG lo):=.l .n (Yeg lo)
def q41(lo:Lo)(db0:List (ByteArray×Zt3×Zt12))(q1_0:List ByteArray)(q1_1:List (ByteArray×Zt5)):Option (Zt3×Zt0×Zt1×Int×Zt2×Bool×Bool× (List Int)):=
  YIC (YgA lo (q1_1,(q1_1.length:Int),(0:Int),db0,q1_0,q1_1,[],(0:Int),([]:List (Int×ByteArray×Int×Int×ByteArray)),false,false,[])) fun y107=>some (y107.1,y107.2.1,y107.2.2.1,y107.2.2.2.1,y107.2.2.2.2.1,y107.2.2.2.2.2.1,y107.2.2.2.2.2.2.1,y107.2.2.2.2.2.2.2)
def YvI:VFn:=⟨true,40,[.t 4],
 (Rg [oG 2 0,oG 3 1,o 4 (.mv (.c (.one .nl)))]
 (Rg [oT 10 2 3,o 11 (.mkm none I (cs [I,.s]) true),o 12 (.build [.e (cs [.s]),.e Zc7,.e Zc6,.v (.map none),.e (cs [I]),.v .nilFunc] [(0,2,10),(3,1,11)]),oG 13 12,oM 5 13]
 (.seq (Rg [oF 14 1 3,oL 15 14,oN 16 15,oK 17 0]
 (.blk 0 (.loop 3 q41_L3_b)))
 (Rg [oM 39 5,oM 4 39]
 (.ow [(4,some 4,false),(4,some 2,false)] .ret)))))⟩
def YlW(lo:Lo):FnE:=Zfe 512 false (Zsg [0,1] [.ag [.l Zc6],.ag [.l (cs [.s]),.l Zc7]] []) (.ptr 0 0 0) [.st [.l (cs [.s]),.l Zc7,.ref 1,.np 2,.ref 3,.u],.sq Zc6,.st [.j,.l Zc14,.b,.b],.sq (cs [I])] (fun x=>q41 lo x.1 x.2.1 x.2.2:Zt1×Zt3×Zt0->Option (Zt3×Zt0×Zt1×Int×Zt2×Bool×Bool× (List Int)))
def fs42(lo:Lo):List FnE:=YlW lo::fs41 lo
theorem YvJ(h:GZ P fm fs41 lo)(t:Ti P fm 512 YvI):GZ P fm fs42 lo:=
  h.i (YlW lo) (YvH lo) t
end Go.Abs.G47
namespace Go.Abs.G47
open Go Go.Abs
set_option maxRecDepth 100000
set_option maxHeartbeats 1000000
variable{P:Program}{fm:FM}{lo:Lo}
def q42_L3_b:VCode:=
 (Rg [oR 13 .lss 12 11]
 (.seq (Ce 13 0)
 (.seq (.blk 1 (Rg [oI 14 1 10 12,oL 15 14,oM 5 15]
 (.reg [oM 16 3,oM 17 0,o 18 (.nilc 17),oF 19 3 18,oL 20 19,oM 21 5,o 22 (.mget none I (cs [I,.s]) true false 20 21),o 23 (.bsl Zc10 1 [(0,22)]),o 24 (.app Zc10 0 16 23),oM 3 24])))
 (.reg [oR 25 .add 12 (k 1),oM 12 25]))))
def YlX(lo:Lo):Zp33->Option (Zp33⊕ ((Zt3×Zt0×Zt1×Int×Zt2×Bool×Bool× (List Int)×Int×Zt9×Bool×Zt4))):=fun x=>match x with
  | (v10,v11,v12,m0_0,m0_1,h1,h2_0,h2_1,h2_2,h2_3,h3,h6_0,h6_1,h6_2,out3)=>bif(decide (v12<v11))then(chk (0<=v12/\v12< (v10.length:Int)) (chk (out3.length+([(mgt eqS (v10.getD v12.toNat (YIU #[])) h2_1 Zd1)]).length<=maxEl) (some (.inl (v10,v11,(YIV .i64 (v12+1)),m0_0,m0_1,h1,h2_0,h2_1,h2_2,h2_3,h3,h6_0,h6_1,h6_2,(out3++([(mgt eqS (v10.getD v12.toNat (YIU #[])) h2_1 Zd1)])))))))else(some (.inr (m0_0,m0_1,h1,h2_0,h2_1,h2_2,h2_3,h3,h6_0,h6_1,h6_2,out3)))
def YlY(lo:Lo):Zp33->Option ((Zt3×Zt0×Zt1×Int×Zt2×Bool×Bool× (List Int)×Int×Zt9×Bool×Zt4)):=lo.run (YlX lo)
def YvK(lo:Lo):LpE:=⟨3,[(0,some 2,false),(0,some 4,false),(3,none,false)],(Zsg [0,3,10,11,12] [.ptr 0 0 0,.ref 7,.l (cs [.s]),.j,.j] [.st [.l (cs [.s]),.l Zc7,.ref 1,.np 2,.ref 3,.clo 513 [.ptr 4 0 0,.ptr 5 0 0]],.sq Zc6,.st [.j,.l Zc14,.b,.b],.sq (cs [I]),.st [.ptr 0 0 0],.st [.np 6],.st [.j,.l Zc18,.b],.sq Zc10]),[⟨.exit 0,(Zsg [0,3] [.ptr 0 0 0,.ref 7] [.st [.l (cs [.s]),.l Zc7,.ref 1,.np 2,.ref 3,.clo 513 [.ptr 4 0 0,.ptr 5 0 0]],.sq Zc6,.st [.j,.l Zc14,.b,.b],.sq (cs [I]),.st [.ptr 0 0 0],.st [.np 6],.st [.j,.l Zc18,.b],.sq Zc10])⟩],YlY lo⟩
def YvL(lo:Lo):LL:=(YvK lo,.loop q42_L3_b.er)::[]
theorem YvM(lo:Lo):Lk lo pf (fs42 lo) 7 (YvL lo):=.l .n (YlX lo)
def q42(lo:Lo)(m0_0:List ByteArray)(m0_1:List (ByteArray×Zt5))(h1:List (ByteArray×Zt3×Zt12))(h2_0:Int)(h2_1:List (Int×ByteArray×Int×Int×ByteArray))(h2_2:Bool)(h2_3:Bool)(h3:List Int)(h6_0:Int)(h6_1:List (Int×ByteArray×Zt4))(h6_2:Bool):Option (Zt3×Zt0×Zt1×Int×Zt2×Bool×Bool× (List Int)×Int×Zt9×Bool×Zt4):=
  YIC (YlY lo (m0_0,(m0_0.length:Int),(0:Int),m0_0,m0_1,h1,h2_0,h2_1,h2_2,h2_3,h3,h6_0,h6_1,h6_2,[])) fun y109=>some (y109.1,y109.2.1,y109.2.2.1,y109.2.2.2.1,y109.2.2.2.2.1,y109.2.2.2.2.2.1,y109.2.2.2.2.2.2.1,y109.2.2.2.2.2.2.2.1,y109.2.2.2.2.2.2.2.2.1,y109.2.2.2.2.2.2.2.2.2.1,y109.2.2.2.2.2.2.2.2.2.2.1,y109.2.2.2.2.2.2.2.2.2.2.2)
def YvN:VFn:=⟨true,27,[.t 2],
 (Rg [o 2 (.mv (ke Zc10))]
 (Rg [o 3 (.mv (ke Zc10))]
 (.seq (Rg [oM 6 0,o 7 (.nilc 6),oF 8 0 7,oF 9 0 8,oL 10 9,oN 11 10,oK 12 0]
 (.blk 0 (.loop 3 q42_L3_b)))
 (Rg [oM 26 3,oM 2 26]
 (.ow [(0,some 4,false),(0,some 2,false)] .ret)))))⟩
def YlZ(lo:Lo):FnE:=Zfe 514 false (Zsg [0] [.ptr 0 0 0] [.st [.l (cs [.s]),.l Zc7,.ref 1,.np 2,.ref 3,.clo 513 [.ptr 4 0 0,.ptr 5 0 0]],.sq Zc6,.st [.j,.l Zc14,.b,.b],.sq (cs [I]),.st [.ptr 0 0 0],.st [.np 6],.st [.j,.l Zc18,.b]]) (.ref 7) [.st [.l (cs [.s]),.l Zc7,.ref 1,.np 2,.ref 3,.clo 513 [.ptr 4 0 0,.ptr 5 0 0]],.sq Zc6,.st [.j,.l Zc14,.b,.b],.sq (cs [I]),.st [.ptr 0 0 0],.st [.np 6],.st [.j,.l Zc18,.b],.sq Zc10] (fun x=>q42 lo x.1 x.2.1 x.2.2.1 x.2.2.2.1 x.2.2.2.2.1 x.2.2.2.2.2.1 x.2.2.2.2.2.2.1 x.2.2.2.2.2.2.2.1 x.2.2.2.2.2.2.2.2.1 x.2.2.2.2.2.2.2.2.2.1 x.2.2.2.2.2.2.2.2.2.2:Zt3×Zt0×Zt1×Int×Zt2×Bool×Bool× (List Int)×Int×Zt9×Bool->Option (Zt3×Zt0×Zt1×Int×Zt2×Bool×Bool× (List Int)×Int×Zt9×Bool×Zt4))
def fs43(lo:Lo):List FnE:=YlZ lo::fs42 lo
theorem YvO(h:GZ P fm fs42 lo)(t:Ti P fm 514 YvN):GZ P fm fs43 lo:=
  h.i (YlZ lo) (YvM lo) t
def q43_L3_b:VCode:=
 (.seq (Rg [oM 10 6,oR 11 .geq 10 (k 0)]
 (Ce 11 0))
 (.seq (.blk 1 (.reg [oM 14 0,oM 15 5,oM 16 6,oR 17 .shr 15 16,o 18 (.conv .u8 17),o 19 (.bsl Zc20 1 [(0,18)]),o 20 (.appb 14 19),oM 0 20]))
 (.reg [oM 12 6,oR 13 .sub 12 (k 8),oM 6 13])))
def Yl0(lo:Lo):Int×Int×ByteArray->Option ((Int×Int×ByteArray)⊕ByteArray):=fun x=>match x with
  | (u5,shift6,out0)=>bif(decide (0<=shift6))then(chk (0<=shift6) (bif inB ([(YIV .u8 (u5.fdiv (2^(min shift6.toNat (IntKind.bits .u64)))))])then(chk (out0.size+([(YIV .u8 (u5.fdiv (2^(min shift6.toNat (IntKind.bits .u64)))))]).length<=maxEl) (some (.inl (u5,(YIV .i64 (shift6-8)),(out0++YC7 ([(YIV .u8 (u5.fdiv (2^(min shift6.toNat (IntKind.bits .u64)))))]))))))else none))else(some (.inr out0))
def Yl1(lo:Lo):Int×Int×ByteArray->Option ByteArray:=lo.run (Yl0 lo)
def YvP(lo:Lo):LpE:=⟨3,[(0,some 0,false)],(Zsg [0,5,6] [.ref 1,.i .u64,.j] [.dd,.sb]),[⟨.exit 0,(Zsg [0] [.ref 1] [.dd,.sb])⟩],Yl1 lo⟩
def YvQ(lo:Lo):LL:=(YvP lo,.loop q43_L3_b.er)::[]
theorem YvR(lo:Lo):Lk lo pf (fs43 lo) 1 (YvQ lo):=.l .n (Yl0 lo)
def q43(lo:Lo)(n1:Int)(out0:ByteArray):Option ByteArray:=
  YIC (Yl1 lo ((bits .xor .u64 (YIV .u64 n1) (9223372036854775808:Int)),(56:Int),out0)) fun y112=>some y112
def YvS:VFn:=⟨true,22,[.t 4],
 (Rg [o 4 (.mv (ke Zc20))]
 (Rg [oM 7 1,o 8 (.conv .u64 7),oR 9 .xor 8 (ki .u64 9223372036854775808),oM 5 9]
 (.seq (Rg [oK 6 56]
 (.blk 0 (.loop 3 q43_L3_b)))
 (Rg [oM 21 0,oM 4 21]
 .ret))))⟩
def Yl2(lo:Lo):FnE:=Zfe 310 false (Zsg [0,1] [.ref 0,.j] [.sb]) (.ref 1) [.dd,.sb] (fun x=>q43 lo x.1 x.2:Int×ByteArray->Option ByteArray)
def fs44(lo:Lo):List FnE:=Yl2 lo::fs43 lo
theorem YvT(h:GZ P fm fs43 lo)(t:Ti P fm 310 YvS):GZ P fm fs44 lo:=
  h.i (Yl2 lo) (YvR lo) t
def q44_L5_b:VCode:=
 (Rg [oR 28 .lss 27 26]
 (.seq (Ce 28 1)
 (.seq (.blk 2 (Rg [oM 29 27,oM 5 29]
 (Rg [oM 30 4,oF 31 2 1,oL 32 31,oM 33 5,o 34 (.idx 32 33),o 35 (.bsl Zc20 1 [(0,34)]),o 36 (.appb 30 35),oM 4 36]
 (Rg [oF 37 2 1,oL 38 37,oM 39 5,o 40 (.idx 38 39),oR 41 .eql 40 (ki .u8 0)]
 (.cond 41 (.reg [oM 42 4,o 43 (.bsl Zc20 1 [(0,(ki .u8 255))]),o 44 (.appb 42 43),oM 4 44])
 .skip)))))
 (.reg [oR 45 .add 27 (k 1),oM 27 45]))))
def Yl3(lo:Lo):Zp61->Option (Zp61⊕ByteArray):=fun x=>match x with
  | (v26,v27,v1_0,v1_1,v1_2,out4)=>bif(decide (v27<v26))then(chk (0<=v27/\v27< (v1_2.size:Int)) (bif inB ([(YCZ v1_2 v27)])then(chk (out4.size+([(YCZ v1_2 v27)]).length<=maxEl) (chk (0<=v27/\v27< (v1_2.size:Int)) (bif(decide ((YCZ v1_2 v27)=(0:Int)))then(bif inB ([(255:Int)])then(chk ((out4++YC7 ([(YCZ v1_2 v27)])).size+([(255:Int)]).length<=maxEl) (some (.inl (v26,(YIV .i64 (v27+1)),v1_0,v1_1,v1_2,((out4++YC7 ([(YCZ v1_2 v27)]))++YC7 ([(255:Int)]))))))else none)else(some (.inl (v26,(YIV .i64 (v27+1)),v1_0,v1_1,v1_2,(out4++YC7 ([(YCZ v1_2 v27)]))))))))else none))else(some (.inr out4))
def Yl4(lo:Lo):Zp61->Option ByteArray:=lo.run (Yl3 lo)
def YvU(lo:Lo):LpE:=⟨5,[],(Zsg [1,4,26,27] [.ptr 0 0 0,.ref 1,.j,.j] [.st [.j,.j,.s],.sb]),[⟨.exit 1,(Zsg [4] [.ref 0] [.sb])⟩],Yl4 lo⟩
def Yl5(lo:Lo):LL:=(YvU lo,.loop q44_L5_b.er)::[]
theorem YvV(lo:Lo):Lk lo pf (fs44 lo) 0 (Yl5 lo):=.l .n (Yl3 lo)
def q44_J17_b:VCode:=
 (.cond 15 (.reg [oM 18 4,oF 19 1 1,oL 20 19,oC 21 310 [18,20],oM 4 21])
 (Rg [oR 23 .eql 14 (k 2),oM 22 23]
 (.cond 22 (.seq (Rg [oF 24 2 1,oL 25 24,o 26 (.lenS 25),oK 27 0]
 (.blk 1 (.loop 5 q44_L5_b)))
 (.reg [oM 46 4,o 47 (.bsl Zc20 2 [(0,(ki .u8 0)),(1,(ki .u8 1))]),o 48 (.appb 46 47),oM 4 48]))
 .skip)))
def YgB(lo:Lo):Int×Bool×Int×Int×ByteArray×ByteArray->Option ByteArray:=fun x=>match x with
  | (v14,v15,v1_0,v1_1,v1_2,out4)=>bif v15 then(YIC (q43 lo v1_1 out4) fun y113=>some y113)else(bif(decide (v14=2))then(YIC (Yl4 lo ((v1_2.size:Int),(0:Int),v1_0,v1_1,v1_2,out4)) fun y114=>bif inB ([(0:Int),(1:Int)])then(chk (y114.size+([(0:Int),(1:Int)]).length<=maxEl) (some (y114++YC7 ([(0:Int),(1:Int)]))))else none)else(some out4))
def YvW(lo:Lo):LpE:=⟨17,[],(Zsg [1,4,14,15] [.ptr 0 0 0,.ref 1,.j,.b] [.st [.j,.j,.s],.sb]),[⟨.nor,(Zsg [4] [.ref 0] [.sb])⟩],YgB lo⟩
def YvX(lo:Lo):LL:=(YvW lo,q44_J17_b.er)::Yl5 lo
theorem YvY(lo:Lo):Lk lo pf (fs44 lo) 0 (YvX lo):=.j (YvV lo)
def q44(lo:Lo)(v0_0:Int)(v0_1:Int)(v0_2:ByteArray):Option (ByteArray×Int):=
  YIC (q6 lo v0_0 v0_1 v0_2) fun y111=>bif(!y111)then(some ((YIU #[]),(1:Int)))else(bif inB [(YIV .u8 v0_0)]then(bif(decide (v0_0=1))then(YIC (YgB lo (v0_0,true,v0_0,v0_1,v0_2,(YC7 [(YIV .u8 v0_0)]))) fun y115=>some (y115,(0:Int)))else(YIC (YgB lo (v0_0,(decide (v0_0=3)),v0_0,v0_1,v0_2,(YC7 [(YIV .u8 v0_0)]))) fun y116=>some (y116,(0:Int))))else none)
def YvZ:VFn:=⟨true,51,[.t 2,.t 3],
 (Rg [oG 1 0,o 2 (.mv (ks (⟨#[]⟩))),oK 3 0]
 (.seq (Rg [oT 6 3 1,oC 7 283 [6],oX 8 7]
 (.cond 8 (Rg [o 2 (.mv (ks (⟨#[]⟩))),oK 3 1]
 (.fz [2,3] .ret))
 .skip))
 (Rg [oF 9 0 1,oL 10 9,o 11 (.conv .u8 10),o 12 (.litb [11]),oM 4 12]
 (.seq (Rg [oF 13 0 1,oL 14 13]
 (.blk 0 (.seq (Rg [oR 16 .eql 14 (k 1),oM 15 16]
 (.cond 15 .skip
 (.reg [oR 17 .eql 14 (k 3),oM 15 17])))
 (.jn 17 q44_J17_b))))
 (Rg [oM 49 4,o 50 (.bstr 49),oM 2 50,oK 3 0]
 (.fz [2,3] .ret))))))⟩
def Yl6(lo:Lo):FnE:=Zfe 296 true (Zsg [0] [.ag [.j,.j,.s]] []) (.tp [.s,.j]) [] (fun x=>q44 lo x.1 x.2.1 x.2.2:Int×Int×ByteArray->Option (ByteArray×Int))
def fs45(lo:Lo):List FnE:=Yl6 lo::fs44 lo
theorem Yv0(h:GZ P fm fs44 lo)(t:Ti P fm 296 YvZ):GZ P fm fs45 lo:=
  h.p (Yl6 lo) (YvY lo) t
def q45(lo:Lo)(s:ByteArray):Option ByteArray:=some s
def Yv1(lo:Lo):FnE:=vchkE2 164
def fs46(lo:Lo):List FnE:=Yv1 lo::fs45 lo
theorem Yv2(h:GZ P fm fs45 lo)(hG: ∀f,fm f=164->YC2 P f=true/\ ∃ρ:Go.Shelf.Ren,Go.Proofs.Lays.n240 P ρ/\BldOK P fm ρ/\ρ.f 240=f):GZ P fm fs46 lo:=
  ⟨h.1,h.2,YsY h.S rfl hG⟩
def q46(lo:Lo)(s1:ByteArray)(h1:ByteArray):Option (Int×ByteArray):=
  YIC (q45 lo h1) fun y118=>chk (y118.size=h1.size) (chk (y118.size+s1.size<=maxEl) (some ((s1.size:Int),(y118++s1))))
def Yv3:VFn:=⟨true,19,[.t 4,.t 5],
 (Rg [oK 4 0,o 5 (.mv (.c (.v .nilIface)))]
 (Rg [oM 6 0,oC 7 164 [6]]
 (Rg [oM 8 0,oM 9 0,o 10 (.nilc 9),oF 11 1 10,oL 12 11,oM 13 1,o 14 (.apps 12 13),o 15 (.nilc 8),oF 16 1 15,oS 1 16 14]
 (Rg [oM 17 1,o 18 (.lenS 17),oM 4 18,o 5 (.mv (.c (.v .nilIface)))]
 .ret))))⟩
def Yl7(lo:Lo):FnE:=Zfe 149 false (Zsg [0,1] [.ptr 0 0 0,.s] [.st [.np 0,.ref 1],.sb]) (.tp [.j,.u]) [.st [.np 0,.ref 2],.dd,.sb] (fun x=>q46 lo x.1 x.2:ByteArray×ByteArray->Option (Int×ByteArray))
def fs47(lo:Lo):List FnE:=Yl7 lo::fs46 lo
theorem Yv4(h:GZ P fm fs46 lo)(t:Ti P fm 149 Yv3):GZ P fm fs47 lo:=
  h.i (Yl7 lo) .n t
def q47(lo:Lo)(s:ByteArray):Option ByteArray:=some s
def Yv5(lo:Lo):FnE:=vstrE 151
def fs48(lo:Lo):List FnE:=Yv5 lo::fs47 lo
theorem Yv6(h:GZ P fm fs47 lo)(hG: ∀f,fm f=151->YC2 P f=true/\ ∃ρ:Go.Shelf.Ren,Go.Proofs.Lays.n169 P ρ/\BldOK P fm ρ/\fm.bu=ρ.t 5/\ρ.f 169=f):GZ P fm fs48 lo:=
  ⟨h.1,h.2,Ys5 h.S rfl hG⟩
def q48_L4_b:VCode:=
 (Rg [oR 14 .lss 13 12]
 (.seq (Ce 14 0)
 (.seq (.blk 1 (Rg [oI 15 3 11 13,oT 16 3 15,o 6 (.alloc [.i .i64 0,.i .i64 0,.s (⟨#[]⟩)]),oS 3 6 16]
 (Rg [oT 18 3 6,oC 19 296 [18],oM 17 19,oE 20 17 0,oE 21 17 1,oM 7 20,oM 8 21]
 (.reg [oM 22 7,oC 23 149 [4,22]]))))
 (.reg [oR 24 .add 13 (k 1),oM 13 24]))))
def Yl8(lo:Lo):Zp30->Option (Zp30⊕ ((Zt3×Zt0×Int×Zt9×Bool×Zt1×Int×Zt2×Bool×Bool× (List Int)×Zt4×ByteArray))):=fun x=>match x with
  | (v12,v13,h2_0,h2_1,h3_0,h3_1,h3_2,h4,h5_0,h5_1,h5_2,h5_3,h6,l3,h9)=>bif(decide (v13<v12))then(chk (0<=v13/\v13< (l3.length:Int)) (YIC (q44 lo ((l3.getD v13.toNat Zd1).1) ((l3.getD v13.toNat Zd1).2.1) ((l3.getD v13.toNat Zd1).2.2)) fun y123=>YIC (q46 lo y123.1 h9) fun y124=>some (.inl (v12,(YIV .i64 (v13+1)),h2_0,h2_1,h3_0,h3_1,h3_2,h4,h5_0,h5_1,h5_2,h5_3,h6,l3,y124.2))))else(some (.inr (h2_0,h2_1,h3_0,h3_1,h3_2,h4,h5_0,h5_1,h5_2,h5_3,h6,l3,h9)))
def Yl9(lo:Lo):Zp30->Option ((Zt3×Zt0×Int×Zt9×Bool×Zt1×Int×Zt2×Bool×Bool× (List Int)×Zt4×ByteArray)):=lo.run (Yl8 lo)
def Yv7(lo:Lo):LpE:=⟨4,[],(Zsg [0,1,3,4,11,12,13] [.ptr 0 0 0,.ptr 1 0 0,.ref 7,.ptr 8 0 0,.ref 7,.j,.j] [.st [.ptr 2 0 0],.st [.np 3],.st [.l (cs [.s]),.l Zc7,.ref 4,.np 5,.ref 6,.clo 513 [.ptr 0 0 0,.ptr 1 0 0]],.st [.j,.l Zc18,.b],.sq Zc6,.st [.j,.l Zc14,.b,.b],.sq (cs [I]),.sq Zc10,.st [.np 8,.ref 9],.sb]),[⟨.exit 0,(Zsg [0,1,3,4] [.ptr 0 0 0,.ptr 1 0 0,.ref 7,.ptr 8 0 0] [.st [.ptr 2 0 0],.st [.np 3],.st [.l (cs [.s]),.l Zc7,.ref 4,.np 5,.ref 6,.clo 513 [.ptr 0 0 0,.ptr 1 0 0]],.st [.j,.l Zc18,.b],.sq Zc6,.st [.j,.l Zc14,.b,.b],.sq (cs [I]),.sq Zc10,.st [.np 8,.ref 9],.sb])⟩],Yl9 lo⟩
def Yv8(lo:Lo):LL:=(Yv7 lo,.loop q48_L4_b.er)::[]
theorem Yv9(lo:Lo):Lk lo pf (fs48 lo) 7 (Yv8 lo):=.l .n (Yl8 lo)
def q48(lo:Lo)(h2_0:List ByteArray)(h2_1:List (ByteArray×Zt5))(h3_0:Int)(h3_1:List (Int×ByteArray×Zt4))(h3_2:Bool)(h4:List (ByteArray×Zt3×Zt12))(h5_0:Int)(h5_1:List (Int×ByteArray×Int×Int×ByteArray))(h5_2:Bool)(h5_3:Bool)(h6:List Int):Option (Bool×Zt3×Zt0×Int×Zt9×Bool×Zt1×Int×Zt2×Bool×Bool× (List Int)):=
  YIC (q42 lo h2_0 h2_1 h4 h5_0 h5_1 h5_2 h5_3 h6 h3_0 h3_1 h3_2) fun y122=>chk (y122.2.2.1.length=h4.length) (chk (y122.2.2.2.2.2.2.2.1.length=h6.length) (YIC (Yl9 lo ((y122.2.2.2.2.2.2.2.2.2.2.2.length:Int),(0:Int),y122.1,y122.2.1,y122.2.2.2.2.2.2.2.2.1,y122.2.2.2.2.2.2.2.2.2.1,y122.2.2.2.2.2.2.2.2.2.2.1,y122.2.2.1,y122.2.2.2.1,y122.2.2.2.2.1,y122.2.2.2.2.2.1,y122.2.2.2.2.2.2.1,y122.2.2.2.2.2.2.2.1,y122.2.2.2.2.2.2.2.2.2.2.2,(YIU #[]))) fun y125=>YIC (q47 lo y125.2.2.2.2.2.2.2.2.2.2.2.2) fun y126=>some ((decide (((mpt eqS y125.2.2.1 y126 y125.2.2.2.2.2.2.2.2.2.2.2.1 y125.2.2.2.1).length:Int)<=(10000:Int))),y125.1,y125.2.1,(mck eqS y125.2.2.1 y126 y125.2.2.2.1),(mpt eqS y125.2.2.1 y126 y125.2.2.2.2.2.2.2.2.2.2.2.1 y125.2.2.2.1),y125.2.2.2.2.1,y125.2.2.2.2.2.1,y125.2.2.2.2.2.2.1,y125.2.2.2.2.2.2.2.1,y125.2.2.2.2.2.2.2.2.1,y125.2.2.2.2.2.2.2.2.2.1,y125.2.2.2.2.2.2.2.2.2.2.1)))
def Ywa:VFn:=⟨true,31,[.t 2],
 (Rg [oB 2 false]
 (Rg [oL 9 0,oC 10 514 [9],oM 3 10]
 (Rg [o 4 (.bld)]
 (.ow [(4,some 1,false)] (.seq (Rg [oM 11 3,oN 12 11,oK 13 0]
 (.blk 0 (.loop 4 q48_L4_b)))
 (.seq (.fz [3] (.regN [1000000000004] [⟨some 25,.load false 1 1,none,true,false⟩,⟨some 26,.call 151 [4],none,false,true⟩,oM 27 3,on (.mput none (.l Zc10) (cs []) false 25 26 27)]))
 (Rg [oL 28 1,o 29 (.mlen 28),oR 30 .leq 29 (k 10000),oM 2 30]
 .ret)))))))⟩
def Yma(lo:Lo):FnE:=Zfe 513 false (Zsg [0,1] [.ptr 0 0 0,.ptr 1 0 0] [.st [.ptr 2 0 0],.st [.np 3],.st [.l (cs [.s]),.l Zc7,.ref 4,.np 5,.ref 6,.clo 513 [.ptr 0 0 0,.ptr 1 0 0]],.st [.j,.l Zc18,.b],.sq Zc6,.st [.j,.l Zc14,.b,.b],.sq (cs [I])]) .b [.st [.ptr 2 0 0],.st [.np 3],.st [.l (cs [.s]),.l Zc7,.ref 4,.np 5,.ref 6,.clo 513 [.ptr 0 0 0,.ptr 1 0 0]],.st [.j,.l Zc18,.b],.sq Zc6,.st [.j,.l Zc14,.b,.b],.sq (cs [I])] (fun x=>q48 lo x.1 x.2.1 x.2.2.1 x.2.2.2.1 x.2.2.2.2.1 x.2.2.2.2.2.1 x.2.2.2.2.2.2.1 x.2.2.2.2.2.2.2.1 x.2.2.2.2.2.2.2.2.1 x.2.2.2.2.2.2.2.2.2.1 x.2.2.2.2.2.2.2.2.2.2:Zt3×Zt0×Int×Zt9×Bool×Zt1×Int×Zt2×Bool×Bool× (List Int)->Option (Bool×Zt3×Zt0×Int×Zt9×Bool×Zt1×Int×Zt2×Bool×Bool× (List Int)))
def fs49(lo:Lo):List FnE:=Yma lo::fs48 lo
theorem Ywb(h:GZ P fm fs48 lo)(t:Ti P fm 513 Ywa):GZ P fm fs49 lo:=
  h.i (Yma lo) (Yv9 lo) t
def q49_J13_b:VCode:=
 (Rg [oM 36 12,oX 37 36]
 (.cond 37 (Rg [oM 38 0,o 39 (.nilc 38),oF 40 3 39,oL 41 40,oF 42 0 10,oL 43 42,oF 44 1 5,oL 45 44,oM 46 9,oI 47 3 45 46,oT 48 3 47,on (.mput none I (cs [I,.s]) true 41 43 48)]
 (.reg [oM 49 8,oF 50 0 10,oL 51 50,o 52 (.bsl (cs [.s]) 1 [(0,51)]),o 53 (.app (cs [.s]) 0 49 52),oM 8 53]))
 (Rg [oT 54 3 11,oF 55 1 5,oL 56 55,oM 57 9,oI 58 3 56 57,oT 59 3 58,o 60 (.eqa true [1,1,2] 54 59)]
 (.cond 60 (Rg [oM 61 8,oM 6 61,oB 7 false]
 (.ow [(0,some 4,false),(0,some 2,false)] .ret))
 .skip))))
def Yeh(lo:Lo):Int×Bool×Zt5×Int×Int×Zt3×Zt0×Zt1×Int×Zt2×Bool×Bool× (List Int)×Int×Zt9×Bool×Int×Zt4×Zt3×ByteArray×Int×Int×ByteArray×Int×Int×ByteArray->Option (Zp28⊕ (Bool×Zt3×Zt0×Zt1×Int×Zt2×Bool×Bool× (List Int)×Int×Zt9×Bool×Zt3)):=fun x=>match x with
  | (i9,known12,v14,v15,v16,m0_0,m0_1,h1,h2_0,h2_1,h2_2,h2_3,h3,h6_0,h6_1,h6_2,r5_0,r5_1,fresh8,t10_0,t10_1,t10_2,t10_3,v11_0,v11_1,v11_2)=>bif(!known12)then(chk (0<=i9/\i9< (r5_1.length:Int)) (chk (fresh8.length+[t10_0].length<=maxEl) (some (.inl (v14,v15,v16,m0_0,m0_1,h1,(mck eqS h2_0 t10_0 h2_1),(mpt eqS h2_0 t10_0 (r5_1.getD i9.toNat Zd1) h2_1),h2_2,h2_3,h3,h6_0,h6_1,h6_2,r5_0,r5_1,(fresh8++[t10_0]))))))else(chk (0<=i9/\i9< (r5_1.length:Int)) (bif(!((decide (v11_0=(r5_1.getD i9.toNat Zd1).1))&& ((decide (v11_1=(r5_1.getD i9.toNat Zd1).2.1))&& ((decide (v11_2=(r5_1.getD i9.toNat Zd1).2.2))&&true))))then(some (.inr (false,m0_0,m0_1,h1,h2_0,h2_1,h2_2,h2_3,h3,h6_0,h6_1,h6_2,fresh8)))else(some (.inl (v14,v15,v16,m0_0,m0_1,h1,h2_0,h2_1,h2_2,h2_3,h3,h6_0,h6_1,h6_2,r5_0,r5_1,fresh8)))))
def Ywc(lo:Lo):LpE:=⟨13,[(0,some 2,false),(0,some 4,false)],(Zsg [0,5,8,9,10,11,12,14,15,16] [.ptr 0 0 0,.ptr 7 0 0,.ref 8,.j,.ptr 9 0 0,.ptr 10 0 0,.b,.l Zc11,.j,.j] [.st [.l (cs [.s]),.l Zc7,.ref 1,.np 2,.ref 3,.clo 513 [.ptr 4 0 0,.ptr 5 0 0]],.sq Zc6,.st [.j,.l Zc14,.b,.b],.sq (cs [I]),.st [.ptr 0 0 0],.st [.np 6],.st [.j,.l Zc18,.b],.st [.j,.l Zc10],.sq (cs [.s]),.st [.s,.j,.j,.s],.st [.j,.j,.s]]),[⟨.nor,(Zsg [0,5,8,14,15,16] [.ptr 0 0 0,.ptr 7 0 0,.ref 8,.l Zc11,.j,.j] [.st [.l (cs [.s]),.l Zc7,.ref 1,.np 2,.ref 3,.clo 513 [.ptr 4 0 0,.ptr 5 0 0]],.sq Zc6,.st [.j,.l Zc14,.b,.b],.sq (cs [I]),.st [.ptr 0 0 0],.st [.np 6],.st [.j,.l Zc18,.b],.st [.j,.l Zc10],.sq (cs [.s])])⟩,⟨.ret,(Zsg [6,7,0] [.ref 7,.b,.ptr 0 0 0] [.st [.l (cs [.s]),.l Zc7,.ref 1,.np 2,.ref 3,.clo 513 [.ptr 4 0 0,.ptr 5 0 0]],.sq Zc6,.st [.j,.l Zc14,.b,.b],.sq (cs [I]),.st [.ptr 0 0 0],.st [.np 6],.st [.j,.l Zc18,.b],.sq (cs [.s])])⟩],Yeh lo⟩
def Ymb(lo:Lo):LL:=(Ywc lo,q49_J13_b.er)::[]
theorem Ywd(lo:Lo):Lk lo pf (fs49 lo) 7 (Ymb lo):=.j .n
def q49_L3_b:VCode:=
 (Rg [oR 17 .lss 16 15]
 (.seq (Ce 17 0)
 (.seq (.blk 1 (Rg [oM 18 16,oI 19 4 14 16,oT 20 4 19,o 10 (.alloc [.s (⟨#[]⟩),.i .i64 0,.i .i64 0,.s (⟨#[]⟩)]),oM 9 18,oS 4 10 20]
 (Rg [oF 21 1 10,oT 22 3 21,o 11 (.alloc [.i .i64 0,.i .i64 0,.s (⟨#[]⟩)]),oS 3 11 22,oB 12 true]
 (.seq (Rg [oF 23 0 10,oL 24 23,oR 25 .neq 24 (ks (⟨#[]⟩))]
 (.cond 25 (.reg [oM 27 0,o 28 (.nilc 27),oF 29 3 28,oL 30 29,oF 31 0 10,oL 32 31,o 33 (.mget none I (cs [I,.s]) true true 30 32),oM 26 33,oE 34 26 0,oE 35 26 1,oS 3 11 34,oM 12 35])
 .skip))
 (.jn 13 q49_J13_b)))))
 (.reg [oR 62 .add 16 (k 1),oM 16 62]))))
def YcR(lo:Lo):Zp28->Option (Zp28⊕ ((Bool×Zt3×Zt0×Zt1×Int×Zt2×Bool×Bool× (List Int)×Int×Zt9×Bool×Zt3)⊕ (Zt3×Zt0×Zt1×Int×Zt2×Bool×Bool× (List Int)×Int×Zt9×Bool×Zt3))):=fun x=>match x with
  | (v14,v15,v16,m0_0,m0_1,h1,h2_0,h2_1,h2_2,h2_3,h3,h6_0,h6_1,h6_2,r5_0,r5_1,fresh8)=>bif(decide (v16<v15))then(chk (0<=v16/\v16< (v14.length:Int)) (bif(!decide ((v14.getD v16.toNat Zd0).1=(YIU #[])))then(YIC (Yeh lo (v16,(mhs eqS ((v14.getD v16.toNat Zd0).1) h2_1),v14,v15,v16,m0_0,m0_1,h1,h2_0,h2_1,h2_2,h2_3,h3,h6_0,h6_1,h6_2,r5_0,r5_1,fresh8,(v14.getD v16.toNat Zd0).1,(v14.getD v16.toNat Zd0).2.1,(v14.getD v16.toNat Zd0).2.2.1,(v14.getD v16.toNat Zd0).2.2.2,(mgt eqS ((v14.getD v16.toNat Zd0).1) h2_1 Zd1).1,(mgt eqS ((v14.getD v16.toNat Zd0).1) h2_1 Zd1).2.1,(mgt eqS ((v14.getD v16.toNat Zd0).1) h2_1 Zd1).2.2)) fun y128=>alt2 y128 (fun y129=>some (.inl (y129.1,y129.2.1,(YIV .i64 (y129.2.2.1+(1:Int))),y129.2.2.2.1,y129.2.2.2.2.1,y129.2.2.2.2.2.1,y129.2.2.2.2.2.2.1,y129.2.2.2.2.2.2.2.1,y129.2.2.2.2.2.2.2.2.1,y129.2.2.2.2.2.2.2.2.2.1,y129.2.2.2.2.2.2.2.2.2.2.1,y129.2.2.2.2.2.2.2.2.2.2.2.1,y129.2.2.2.2.2.2.2.2.2.2.2.2.1,y129.2.2.2.2.2.2.2.2.2.2.2.2.2.1,y129.2.2.2.2.2.2.2.2.2.2.2.2.2.2.1,y129.2.2.2.2.2.2.2.2.2.2.2.2.2.2.2.1,y129.2.2.2.2.2.2.2.2.2.2.2.2.2.2.2.2))) (fun y130=>some (.inr (.inl (y130.1,y130.2.1,y130.2.2.1,y130.2.2.2.1,y130.2.2.2.2.1,y130.2.2.2.2.2.1,y130.2.2.2.2.2.2.1,y130.2.2.2.2.2.2.2.1,y130.2.2.2.2.2.2.2.2.1,y130.2.2.2.2.2.2.2.2.2.1,y130.2.2.2.2.2.2.2.2.2.2.1,y130.2.2.2.2.2.2.2.2.2.2.2.1,y130.2.2.2.2.2.2.2.2.2.2.2.2)))))else(YIC (Yeh lo (v16,true,v14,v15,v16,m0_0,m0_1,h1,h2_0,h2_1,h2_2,h2_3,h3,h6_0,h6_1,h6_2,r5_0,r5_1,fresh8,(v14.getD v16.toNat Zd0).1,(v14.getD v16.toNat Zd0).2.1,(v14.getD v16.toNat Zd0).2.2.1,(v14.getD v16.toNat Zd0).2.2.2,(v14.getD v16.toNat Zd0).2.1,(v14.getD v16.toNat Zd0).2.2.1,(v14.getD v16.toNat Zd0).2.2.2)) fun y131=>alt2 y131 (fun y132=>some (.inl (y132.1,y132.2.1,(YIV .i64 (y132.2.2.1+(1:Int))),y132.2.2.2.1,y132.2.2.2.2.1,y132.2.2.2.2.2.1,y132.2.2.2.2.2.2.1,y132.2.2.2.2.2.2.2.1,y132.2.2.2.2.2.2.2.2.1,y132.2.2.2.2.2.2.2.2.2.1,y132.2.2.2.2.2.2.2.2.2.2.1,y132.2.2.2.2.2.2.2.2.2.2.2.1,y132.2.2.2.2.2.2.2.2.2.2.2.2.1,y132.2.2.2.2.2.2.2.2.2.2.2.2.2.1,y132.2.2.2.2.2.2.2.2.2.2.2.2.2.2.1,y132.2.2.2.2.2.2.2.2.2.2.2.2.2.2.2.1,y132.2.2.2.2.2.2.2.2.2.2.2.2.2.2.2.2))) (fun y133=>some (.inr (.inl (y133.1,y133.2.1,y133.2.2.1,y133.2.2.2.1,y133.2.2.2.2.1,y133.2.2.2.2.2.1,y133.2.2.2.2.2.2.1,y133.2.2.2.2.2.2.2.1,y133.2.2.2.2.2.2.2.2.1,y133.2.2.2.2.2.2.2.2.2.1,y133.2.2.2.2.2.2.2.2.2.2.1,y133.2.2.2.2.2.2.2.2.2.2.2.1,y133.2.2.2.2.2.2.2.2.2.2.2.2)))))))else(some (.inr (.inr (m0_0,m0_1,h1,h2_0,h2_1,h2_2,h2_3,h3,h6_0,h6_1,h6_2,fresh8))))
def YgC(lo:Lo):Zp28->Option ((Bool×Zt3×Zt0×Zt1×Int×Zt2×Bool×Bool× (List Int)×Int×Zt9×Bool×Zt3)⊕ (Zt3×Zt0×Zt1×Int×Zt2×Bool×Bool× (List Int)×Int×Zt9×Bool×Zt3)):=lo.run (YcR lo)
def Ywe(lo:Lo):LpE:=⟨3,[(0,some 2,false),(0,some 4,false),(8,none,false)],(Zsg [0,5,8,14,15,16] [.ptr 0 0 0,.ptr 7 0 0,.ref 8,.l Zc11,.j,.j] [.st [.l (cs [.s]),.l Zc7,.ref 1,.np 2,.ref 3,.clo 513 [.ptr 4 0 0,.ptr 5 0 0]],.sq Zc6,.st [.j,.l Zc14,.b,.b],.sq (cs [I]),.st [.ptr 0 0 0],.st [.np 6],.st [.j,.l Zc18,.b],.st [.j,.l Zc10],.sq (cs [.s])]),[⟨.ret,(Zsg [6,7,0] [.ref 7,.b,.ptr 0 0 0] [.st [.l (cs [.s]),.l Zc7,.ref 1,.np 2,.ref 3,.clo 513 [.ptr 4 0 0,.ptr 5 0 0]],.sq Zc6,.st [.j,.l Zc14,.b,.b],.sq (cs [I]),.st [.ptr 0 0 0],.st [.np 6],.st [.j,.l Zc18,.b],.sq (cs [.s])])⟩,⟨.exit 0,(Zsg [0,8] [.ptr 0 0 0,.ref 7] [.st [.l (cs [.s]),.l Zc7,.ref 1,.np 2,.ref 3,.clo 513 [.ptr 4 0 0,.ptr 5 0 0]],.sq Zc6,.st [.j,.l Zc14,.b,.b],.sq (cs [I]),.st [.ptr 0 0 0],.st [.np 6],.st [.j,.l Zc18,.b],.sq (cs [.s])])⟩],YgC lo⟩
def Ywf(lo:Lo):LL:=(Ywe lo,.loop q49_L3_b.er)::Ymb lo
theorem Ywg(lo:Lo):Lk lo pf (fs49 lo) 7 (Ywf lo):=.l (Ywd lo) (YcR lo)
def q49(lo:Lo)(a1_0:ByteArray)(a1_1:List Zp69)(r2_0:Int)(r2_1:List (Int×Int×ByteArray))(m0_0:List ByteArray)(m0_1:List (ByteArray×Zt5))(h1:List (ByteArray×Zt3×Zt12))(h2_0:Int)(h2_1:List (Int×ByteArray×Int×Int×ByteArray))(h2_2:Bool)(h2_3:Bool)(h3:List Int)(h6_0:Int)(h6_1:List (Int×ByteArray×Zt4))(h6_2:Bool):Option (Bool×Zt3×Zt0×Zt1×Int×Zt2×Bool×Bool× (List Int)×Int×Zt9×Bool×Zt3):=
  YIC (YgC lo (a1_1,(a1_1.length:Int),(0:Int),m0_0,m0_1,h1,h2_0,h2_1,h2_2,h2_3,h3,h6_0,h6_1,h6_2,r2_0,r2_1,[])) fun y134=>alt2 y134 (fun y135=>some (y135.1,y135.2.1,y135.2.2.1,y135.2.2.2.1,y135.2.2.2.2.1,y135.2.2.2.2.2.1,y135.2.2.2.2.2.2.1,y135.2.2.2.2.2.2.2.1,y135.2.2.2.2.2.2.2.2.1,y135.2.2.2.2.2.2.2.2.2.1,y135.2.2.2.2.2.2.2.2.2.2.1,y135.2.2.2.2.2.2.2.2.2.2.2.1,y135.2.2.2.2.2.2.2.2.2.2.2.2)) (fun y136=>some (true,y136.1,y136.2.1,y136.2.2.1,y136.2.2.2.1,y136.2.2.2.2.1,y136.2.2.2.2.2.1,y136.2.2.2.2.2.2.1,y136.2.2.2.2.2.2.2.1,y136.2.2.2.2.2.2.2.2.1,y136.2.2.2.2.2.2.2.2.2.1,y136.2.2.2.2.2.2.2.2.2.2.1,y136.2.2.2.2.2.2.2.2.2.2.2))
def Ywh:VFn:=⟨true,64,[.t 6,.t 7],
 (Rg [oG 4 1,oG 5 2,o 6 (.mv (ke (cs [.s]))),oB 7 false]
 (Rg [o 8 (.mv (ke (cs [.s])))]
 (.seq (Rg [oF 13 1 4,oL 14 13,oN 15 14,oK 16 0]
 (.blk 0 (.loop 3 q49_L3_b)))
 (Rg [oM 63 8,oM 6 63,oB 7 true]
 (.ow [(0,some 4,false),(0,some 2,false)] .ret)))))⟩
def Ymc(lo:Lo):FnE:=Zfe 543 false (Zsg [0,1,2] [.ptr 0 0 0,.ag [.s,.l Zc11],.ag [.j,.l Zc10]] [.st [.l (cs [.s]),.l Zc7,.ref 1,.np 2,.ref 3,.clo 513 [.ptr 4 0 0,.ptr 5 0 0]],.sq Zc6,.st [.j,.l Zc14,.b,.b],.sq (cs [I]),.st [.ptr 0 0 0],.st [.np 6],.st [.j,.l Zc18,.b]]) (.tp [.ref 7,.b]) [.st [.l (cs [.s]),.l Zc7,.ref 1,.np 2,.ref 3,.clo 513 [.ptr 4 0 0,.ptr 5 0 0]],.sq Zc6,.st [.j,.l Zc14,.b,.b],.sq (cs [I]),.st [.ptr 0 0 0],.st [.np 6],.st [.j,.l Zc18,.b],.sq (cs [.s])] (fun x=>q49 lo x.1 x.2.1 x.2.2.1 x.2.2.2.1 x.2.2.2.2.1 x.2.2.2.2.2.1 x.2.2.2.2.2.2.1 x.2.2.2.2.2.2.2.1 x.2.2.2.2.2.2.2.2.1 x.2.2.2.2.2.2.2.2.2.1 x.2.2.2.2.2.2.2.2.2.2.1 x.2.2.2.2.2.2.2.2.2.2.2.1 x.2.2.2.2.2.2.2.2.2.2.2.2.1 x.2.2.2.2.2.2.2.2.2.2.2.2.2.1 x.2.2.2.2.2.2.2.2.2.2.2.2.2.2:ByteArray×Zt5×Int×Zt4×Zt3×Zt0×Zt1×Int×Zt2×Bool×Bool× (List Int)×Int×Zt9×Bool->Option (Bool×Zt3×Zt0×Zt1×Int×Zt2×Bool×Bool× (List Int)×Int×Zt9×Bool×Zt3))
def fs50(lo:Lo):List FnE:=Ymc lo::fs49 lo
theorem Ywi(h:GZ P fm fs49 lo)(t:Ti P fm 543 Ywh):GZ P fm fs50 lo:=
  h.i (Ymc lo) (Ywg lo) t
end Go.Abs.G47
namespace Go.Abs.G47
open Go Go.Abs
set_option maxRecDepth 100000
set_option maxHeartbeats 1000000
variable{P:Program}{fm:FM}{lo:Lo}
def YgD(F:Zp38->Option (Bool×Zt3×Zt0×Zt1×Int×Zt2×Bool×Bool×Int×Zt9×Bool× (List Int))):FnE:=⟨515,false,(Zsg [0,1] [.ptr 0 0 0,.j] [.st [.l (cs [.s]),.l Zc7,.ref 1,.np 2,.ref 3,.clo 513 [.ptr 4 0 0,.ptr 5 0 0]],.sq Zc6,.st [.j,.l Zc14,.b,.b],.sq (cs [I]),.st [.ptr 0 0 0],.st [.np 6],.st [.j,.l Zc18,.b]]),.b,[.st [.l (cs [.s]),.l Zc7,.ref 1,.np 2,.ref 7,.clo 513 [.ptr 4 0 0,.ptr 5 0 0]],.sq Zc6,.st [.j,.l Zc14,.b,.b],.dd,.st [.ptr 0 0 0],.st [.np 6],.st [.j,.l Zc18,.b],.sq (cs [I])],(cs [.b,.l (cs [.s]),.l Zc7,.l Zc6,I,.l Zc14,.b,.b,I,.l Zc18,.b,.l (cs [I])]),F⟩
def q50_L8_b:VCode:=
 (Rg [oR 83 .lss 82 81]
 (.seq (Ce 83 2)
 (.seq (.blk 3 (Rg [oI 84 1 80 82,oL 85 84,oM 11 85]
 (.reg [oM 86 0,o 87 (.nilc 86),oF 88 3 87,oL 89 88,oM 90 11,on (.mdel none I (cs [I,.s]) 89 90)])))
 (.reg [oR 91 .add 82 (k 1),oM 82 91]))))
def Yei(lo:Lo)(rec:Zp38->Option (Bool×Zt3×Zt0×Zt1×Int×Zt2×Bool×Bool×Int×Zt9×Bool× (List Int))):Zp26->Option (Zp26⊕ ((Int×Bool×Zt12×Int×Int×Zt3×Zt0×Zt1×Int×Zt2×Bool×Bool×Int×Zt9×Bool× (List Int)))):=fun x=>match x with
  | (i1,on9,v32,v33,v34,v81,v82,m0_0,m0_1,h1,h2_0,h2_1,h2_2,h2_3,h6_0,h6_1,h6_2,v80,h8)=>bif(decide (v82<v81))then(chk (0<=v82/\v82< (v80.length:Int)) (some (.inl (i1,on9,v32,v33,v34,v81,(YIV .i64 (v82+1)),m0_0,m0_1,h1,h2_0,(mdl eqS (v80.getD v82.toNat (YIU #[])) h2_1),h2_2,h2_3,h6_0,h6_1,h6_2,v80,h8))))else(some (.inr (i1,on9,v32,v33,v34,m0_0,m0_1,h1,h2_0,h2_1,h2_2,h2_3,h6_0,h6_1,h6_2,h8)))
def Yej(lo:Lo)(rec:Zp38->Option (Bool×Zt3×Zt0×Zt1×Int×Zt2×Bool×Bool×Int×Zt9×Bool× (List Int))):Zp26->Option ((Int×Bool×Zt12×Int×Int×Zt3×Zt0×Zt1×Int×Zt2×Bool×Bool×Int×Zt9×Bool× (List Int))):=lo.run (Yei lo rec)
def Ywj(lo:Lo)(rec:Zp38->Option (Bool×Zt3×Zt0×Zt1×Int×Zt2×Bool×Bool×Int×Zt9×Bool× (List Int))):LpE:=⟨8,[(0,some 2,false),(0,some 4,false)],(Zsg [0,1,9,32,33,34,80,81,82] [.ptr 0 0 0,.j,.b,.l Zc15,.j,.j,.ref 7,.j,.j] [.st [.l (cs [.s]),.l Zc7,.ref 1,.np 2,.ref 8,.clo 513 [.ptr 4 0 0,.ptr 5 0 0]],.sq Zc6,.st [.j,.l Zc14,.b,.b],.dd,.st [.ptr 0 0 0],.st [.np 6],.st [.j,.l Zc18,.b],.sq (cs [.s]),.sq (cs [I])]),[⟨.exit 2,(Zsg [0,1,9,32,33,34] [.ptr 0 0 0,.j,.b,.l Zc15,.j,.j] [.st [.l (cs [.s]),.l Zc7,.ref 1,.np 2,.ref 7,.clo 513 [.ptr 4 0 0,.ptr 5 0 0]],.sq Zc6,.st [.j,.l Zc14,.b,.b],.dd,.st [.ptr 0 0 0],.st [.np 6],.st [.j,.l Zc18,.b],.sq (cs [I])])⟩],Yej lo rec⟩
def Ymd(lo:Lo)(rec:Zp38->Option (Bool×Zt3×Zt0×Zt1×Int×Zt2×Bool×Bool×Int×Zt9×Bool× (List Int))):LL:=(Ywj lo rec,.loop q50_L8_b.er)::[]
theorem Ywk(lo:Lo)(rec:Zp38->Option (Bool×Zt3×Zt0×Zt1×Int×Zt2×Bool×Bool×Int×Zt9×Bool× (List Int))):Lk lo pf (YgD rec::fs50 lo) 7 (Ymd lo rec):=.l .n (Yei lo rec)
def q50_L3_b:VCode:=
 (Rg [oR 35 .lss 34 33]
 (.seq (Ce 35 0)
 (.seq (.blk 1 (Rg [oI 36 2 32 34,oT 37 2 36,o 6 (.alloc [.i .i64 0,.e Zc10]),oS 2 6 37]
 (Rg [oM 39 0,oM 40 0,o 41 (.nilc 40),oF 42 0 41,oF 43 1 42,oL 44 43,oM 45 1,oI 46 2 44 45,oT 47 2 46,oT 48 2 6,oC 49 543 [39,47,48],oM 38 49,oE 50 38 0,oE 51 38 1,oM 7 50,oM 8 51]
 (Rg [oM 52 0,oM 53 0,o 54 (.nilc 53),oF 55 4 54,oL 56 55,oF 57 0 6,oL 58 57,o 59 (.bsl (cs [I]) 1 [(0,58)]),o 60 (.app (cs [I]) 0 56 59),o 61 (.nilc 52),oF 62 4 61,oS 1 62 60]
 (Rg [oM 63 8,oX 64 63,oM 65 64,gF 66 65 (.mv 0),gF 67 65 (.mv 1),gF 68 65 (.bin .add 67 (k 1)),gF 69 65 (.call 515 [66,68]),oP 70 65 (kb true) 69,oM 9 70]
 (Rg [oM 71 0,oM 72 0,o 73 (.nilc 72),oF 74 4 73,oL 75 74,oM 76 1,o 77 (.slcR 1 75 none (some 76)),o 78 (.nilc 71),oF 79 4 78,oS 1 79 77]
 (.seq (Rg [oM 80 7,oN 81 80,oK 82 0]
 (.blk 2 (.loop 8 q50_L8_b)))
 (Rg [oM 92 9,oX 93 92]
 (.cond 93 (Rg [oB 4 false]
 (.ow [(1000003,none,true),(0,some 4,false),(0,some 2,false)] .ret))
 .skip)))))))))
 (.reg [oR 94 .add 34 (k 1),oM 34 94]))))
def Yb5(lo:Lo)(rec:Zp38->Option (Bool×Zt3×Zt0×Zt1×Int×Zt2×Bool×Bool×Int×Zt9×Bool× (List Int))):Zp32->Option (Zp32⊕ ((Bool×Zt3×Zt0×Zt1×Int×Zt2×Bool×Bool×Int×Zt9×Bool× (List Int))⊕ (Zt3×Zt0×Zt1×Int×Zt2×Bool×Bool×Int×Zt9×Bool× (List Int)))):=fun x=>match x with
  | (i1,v32,v33,v34,m0_0,m0_1,h1,h2_0,h2_1,h2_2,h2_3,h6_0,h6_1,h6_2,h7)=>bif(decide (v34<v33))then(chk (0<=v34/\v34< (v32.length:Int)) (chk (0<=i1/\i1< (m0_1.length:Int)) (YIC (q49 lo ((m0_1.getD i1.toNat ((YIU #[]),[])).1) ((m0_1.getD i1.toNat ((YIU #[]),[])).2) ((v32.getD v34.toNat ((0:Int),[])).1) ((v32.getD v34.toNat ((0:Int),[])).2) m0_0 m0_1 h1 h2_0 h2_1 h2_2 h2_3 h7 h6_0 h6_1 h6_2) fun y156=>chk (y156.2.2.2.1.length=h1.length) (chk (y156.2.2.2.2.2.2.2.2.1.length=h7.length) (chk (y156.2.2.2.2.2.2.2.2.1.length+([(v32.getD v34.toNat ((0:Int),[])).1]).length<=maxEl) (bif(!y156.1)then(chk ((0:Int)=0/\0<=i1/\i1<=((y156.2.2.2.2.2.2.2.2.1++([(v32.getD v34.toNat ((0:Int),[])).1])).length:Int)) (YIC (Yej lo rec (i1,true,v32,v33,v34,(y156.2.2.2.2.2.2.2.2.2.2.2.2.length:Int),(0:Int),y156.2.1,y156.2.2.1,y156.2.2.2.1,y156.2.2.2.2.1,y156.2.2.2.2.2.1,y156.2.2.2.2.2.2.1,y156.2.2.2.2.2.2.2.1,y156.2.2.2.2.2.2.2.2.2.1,y156.2.2.2.2.2.2.2.2.2.2.1,y156.2.2.2.2.2.2.2.2.2.2.2.1,y156.2.2.2.2.2.2.2.2.2.2.2.2,((y156.2.2.2.2.2.2.2.2.1++([(v32.getD v34.toNat ((0:Int),[])).1])).take i1.toNat))) fun y157=>bif(!y157.2.1)then(some (.inr (.inl (false,y157.2.2.2.2.2.1,y157.2.2.2.2.2.2.1,y157.2.2.2.2.2.2.2.1,y157.2.2.2.2.2.2.2.2.1,y157.2.2.2.2.2.2.2.2.2.1,y157.2.2.2.2.2.2.2.2.2.2.1,y157.2.2.2.2.2.2.2.2.2.2.2.1,y157.2.2.2.2.2.2.2.2.2.2.2.2.1,y157.2.2.2.2.2.2.2.2.2.2.2.2.2.1,y157.2.2.2.2.2.2.2.2.2.2.2.2.2.2.1,y157.2.2.2.2.2.2.2.2.2.2.2.2.2.2.2))))else(some (.inl (y157.1,y157.2.2.1,y157.2.2.2.1,(YIV .i64 (y157.2.2.2.2.1+(1:Int))),y157.2.2.2.2.2.1,y157.2.2.2.2.2.2.1,y157.2.2.2.2.2.2.2.1,y157.2.2.2.2.2.2.2.2.1,y157.2.2.2.2.2.2.2.2.2.1,y157.2.2.2.2.2.2.2.2.2.2.1,y157.2.2.2.2.2.2.2.2.2.2.2.1,y157.2.2.2.2.2.2.2.2.2.2.2.2.1,y157.2.2.2.2.2.2.2.2.2.2.2.2.2.1,y157.2.2.2.2.2.2.2.2.2.2.2.2.2.2.1,y157.2.2.2.2.2.2.2.2.2.2.2.2.2.2.2)))))else(YIC (rec ((YIV .i64 (i1+1)),y156.2.1,y156.2.2.1,y156.2.2.2.1,y156.2.2.2.2.1,y156.2.2.2.2.2.1,y156.2.2.2.2.2.2.1,y156.2.2.2.2.2.2.2.1,(y156.2.2.2.2.2.2.2.2.1++([(v32.getD v34.toNat ((0:Int),[])).1])),y156.2.2.2.2.2.2.2.2.2.1,y156.2.2.2.2.2.2.2.2.2.2.1,y156.2.2.2.2.2.2.2.2.2.2.2.1)) fun y158=>chk (y158.2.2.2.1.length=y156.2.2.2.1.length) (chk ((0:Int)=0/\0<=i1/\i1<=(y158.2.2.2.2.2.2.2.2.2.2.2.length:Int)) (YIC (Yej lo rec (i1,y158.1,v32,v33,v34,(y156.2.2.2.2.2.2.2.2.2.2.2.2.length:Int),(0:Int),y158.2.1,y158.2.2.1,y158.2.2.2.1,y158.2.2.2.2.1,y158.2.2.2.2.2.1,y158.2.2.2.2.2.2.1,y158.2.2.2.2.2.2.2.1,y158.2.2.2.2.2.2.2.2.1,y158.2.2.2.2.2.2.2.2.2.1,y158.2.2.2.2.2.2.2.2.2.2.1,y156.2.2.2.2.2.2.2.2.2.2.2.2,(y158.2.2.2.2.2.2.2.2.2.2.2.take i1.toNat))) fun y159=>bif(!y159.2.1)then(some (.inr (.inl (false,y159.2.2.2.2.2.1,y159.2.2.2.2.2.2.1,y159.2.2.2.2.2.2.2.1,y159.2.2.2.2.2.2.2.2.1,y159.2.2.2.2.2.2.2.2.2.1,y159.2.2.2.2.2.2.2.2.2.2.1,y159.2.2.2.2.2.2.2.2.2.2.2.1,y159.2.2.2.2.2.2.2.2.2.2.2.2.1,y159.2.2.2.2.2.2.2.2.2.2.2.2.2.1,y159.2.2.2.2.2.2.2.2.2.2.2.2.2.2.1,y159.2.2.2.2.2.2.2.2.2.2.2.2.2.2.2))))else(some (.inl (y159.1,y159.2.2.1,y159.2.2.2.1,(YIV .i64 (y159.2.2.2.2.1+(1:Int))),y159.2.2.2.2.2.1,y159.2.2.2.2.2.2.1,y159.2.2.2.2.2.2.2.1,y159.2.2.2.2.2.2.2.2.1,y159.2.2.2.2.2.2.2.2.2.1,y159.2.2.2.2.2.2.2.2.2.2.1,y159.2.2.2.2.2.2.2.2.2.2.2.1,y159.2.2.2.2.2.2.2.2.2.2.2.2.1,y159.2.2.2.2.2.2.2.2.2.2.2.2.2.1,y159.2.2.2.2.2.2.2.2.2.2.2.2.2.2.1,y159.2.2.2.2.2.2.2.2.2.2.2.2.2.2.2))))))))))))else(some (.inr (.inr (m0_0,m0_1,h1,h2_0,h2_1,h2_2,h2_3,h6_0,h6_1,h6_2,h7))))
def YcS(lo:Lo)(rec:Zp38->Option (Bool×Zt3×Zt0×Zt1×Int×Zt2×Bool×Bool×Int×Zt9×Bool× (List Int))):Zp32->Option ((Bool×Zt3×Zt0×Zt1×Int×Zt2×Bool×Bool×Int×Zt9×Bool× (List Int))⊕ (Zt3×Zt0×Zt1×Int×Zt2×Bool×Bool×Int×Zt9×Bool× (List Int))):=lo.run (Yb5 lo rec)
def Ywl(lo:Lo)(rec:Zp38->Option (Bool×Zt3×Zt0×Zt1×Int×Zt2×Bool×Bool×Int×Zt9×Bool× (List Int))):LpE:=⟨3,[(1000003,none,true),(0,some 2,false),(0,some 4,false)],(Zsg [0,1,32,33,34] [.ptr 0 0 0,.j,.l Zc15,.j,.j] [.st [.l (cs [.s]),.l Zc7,.ref 1,.np 2,.ref 7,.clo 513 [.ptr 4 0 0,.ptr 5 0 0]],.sq Zc6,.st [.j,.l Zc14,.b,.b],.dd,.st [.ptr 0 0 0],.st [.np 6],.st [.j,.l Zc18,.b],.sq (cs [I])]),[⟨.ret,(Zsg [4,0] [.b,.ptr 0 0 0] [.st [.l (cs [.s]),.l Zc7,.ref 1,.np 2,.ref 7,.clo 513 [.ptr 4 0 0,.ptr 5 0 0]],.sq Zc6,.st [.j,.l Zc14,.b,.b],.dd,.st [.ptr 0 0 0],.st [.np 6],.st [.j,.l Zc18,.b],.sq (cs [I])])⟩,⟨.exit 0,(Zsg [0] [.ptr 0 0 0] [.st [.l (cs [.s]),.l Zc7,.ref 1,.np 2,.ref 7,.clo 513 [.ptr 4 0 0,.ptr 5 0 0]],.sq Zc6,.st [.j,.l Zc14,.b,.b],.dd,.st [.ptr 0 0 0],.st [.np 6],.st [.j,.l Zc18,.b],.sq (cs [I])])⟩],YcS lo rec⟩
def Yme(lo:Lo)(rec:Zp38->Option (Bool×Zt3×Zt0×Zt1×Int×Zt2×Bool×Bool×Int×Zt9×Bool× (List Int))):LL:=(Ywl lo rec,.loop q50_L3_b.er)::Ymd lo rec
theorem Ywm(lo:Lo)(rec:Zp38->Option (Bool×Zt3×Zt0×Zt1×Int×Zt2×Bool×Bool×Int×Zt9×Bool× (List Int))):Lk lo pf (YgD rec::fs50 lo) 7 (Yme lo rec):=.l (Ywk lo rec) (Yb5 lo rec)
def Yb6(lo:Lo)(rec:Zp38->Option (Bool×Zt3×Zt0×Zt1×Int×Zt2×Bool×Bool×Int×Zt9×Bool× (List Int)))(i1:Int)(m0_0:List ByteArray)(m0_1:List (ByteArray×Zt5))(h1:List (ByteArray×Zt3×Zt12))(h2_0:Int)(h2_1:List (Int×ByteArray×Int×Int×ByteArray))(h2_2:Bool)(h2_3:Bool)(h3:List Int)(h6_0:Int)(h6_1:List (Int×ByteArray×Zt4))(h6_2:Bool):Option (Bool×Zt3×Zt0×Zt1×Int×Zt2×Bool×Bool×Int×Zt9×Bool× (List Int)):=
  bif(decide (i1=(m0_1.length:Int)))then(YIC (q48 lo m0_0 m0_1 h6_0 h6_1 h6_2 h1 h2_0 h2_1 h2_2 h2_3 h3) fun y155=>chk (y155.2.2.2.2.2.2.1.length=h1.length) (chk (y155.2.2.2.2.2.2.2.2.2.2.2.length=h3.length) (some (y155.1,y155.2.1,y155.2.2.1,y155.2.2.2.2.2.2.1,y155.2.2.2.2.2.2.2.1,y155.2.2.2.2.2.2.2.2.1,y155.2.2.2.2.2.2.2.2.2.1,y155.2.2.2.2.2.2.2.2.2.2.1,y155.2.2.2.1,y155.2.2.2.2.1,y155.2.2.2.2.2.1,y155.2.2.2.2.2.2.2.2.2.2.2))))else(chk (0<=i1/\i1< (h1.length:Int)) (YIC (YcS lo rec (i1,(h1.getD i1.toNat ((YIU #[]),[],[])).2.2,(((h1.getD i1.toNat ((YIU #[]),[],[])).2.2).length:Int),(0:Int),m0_0,m0_1,h1,h2_0,h2_1,h2_2,h2_3,h6_0,h6_1,h6_2,h3)) fun y160=>alt2 y160 (fun y161=>some (y161.1,y161.2.1,y161.2.2.1,y161.2.2.2.1,y161.2.2.2.2.1,y161.2.2.2.2.2.1,y161.2.2.2.2.2.2.1,y161.2.2.2.2.2.2.2.1,y161.2.2.2.2.2.2.2.2.1,y161.2.2.2.2.2.2.2.2.2.1,y161.2.2.2.2.2.2.2.2.2.2.1,y161.2.2.2.2.2.2.2.2.2.2.2)) (fun y162=>some (true,y162.1,y162.2.1,y162.2.2.1,y162.2.2.2.1,y162.2.2.2.2.1,y162.2.2.2.2.2.1,y162.2.2.2.2.2.2.1,y162.2.2.2.2.2.2.2.1,y162.2.2.2.2.2.2.2.2.1,y162.2.2.2.2.2.2.2.2.2.1,y162.2.2.2.2.2.2.2.2.2.2))))
def YaZ(lo:Lo):Nat->Int×Zt3×Zt0×Zt1×Int×Zt2×Bool×Bool× (List Int)×Int×Zt9×Bool->Option (Bool×Zt3×Zt0×Zt1×Int×Zt2×Bool×Bool×Int×Zt9×Bool× (List Int))
  |0,_=>none
  |n+1,x=>Yb6 lo (YaZ lo n) x.1 x.2.1 x.2.2.1 x.2.2.2.1 x.2.2.2.2.1 x.2.2.2.2.2.1 x.2.2.2.2.2.2.1 x.2.2.2.2.2.2.2.1 x.2.2.2.2.2.2.2.2.1 x.2.2.2.2.2.2.2.2.2.1 x.2.2.2.2.2.2.2.2.2.2.1 x.2.2.2.2.2.2.2.2.2.2.2
def q50(lo:Lo)(i1:Int)(m0_0:List ByteArray)(m0_1:List (ByteArray×Zt5))(h1:List (ByteArray×Zt3×Zt12))(h2_0:Int)(h2_1:List (Int×ByteArray×Int×Int×ByteArray))(h2_2:Bool)(h2_3:Bool)(h3:List Int)(h6_0:Int)(h6_1:List (Int×ByteArray×Zt4))(h6_2:Bool):Option (Bool×Zt3×Zt0×Zt1×Int×Zt2×Bool×Bool×Int×Zt9×Bool× (List Int)):=lo.run (fixS (YaZ lo)) (0,(i1,m0_0,m0_1,h1,h2_0,h2_1,h2_2,h2_3,h3,h6_0,h6_1,h6_2))
def Ywn:VFn:=⟨true,95,[.t 4],
 (Rg [oB 4 false]
 (.seq (Rg [oM 12 1,oM 13 0,o 14 (.nilc 13),oF 15 0 14,oF 16 1 15,oL 17 16,oN 18 17,oR 19 .eql 12 18]
 (.cond 19 (Rg [oM 20 0,o 21 (.nilc 20),oF 22 5 21,oL 23 22,o 24 (.dyn 23 []),oM 4 24]
 (.ow [(1000003,none,true),(0,some 4,false),(0,some 2,false)] .ret))
 .skip))
 (.seq (Rg [oM 25 0,o 26 (.nilc 25),oF 27 2 26,oL 28 27,oM 29 1,oI 30 3 28 29,oF 31 2 30,oL 32 31,oN 33 32,oK 34 0]
 (.blk 0 (.loop 3 q50_L3_b)))
 (Rg [oB 4 true]
 (.ow [(1000003,none,true),(0,some 4,false),(0,some 2,false)] .ret)))))⟩
def Ymf(lo:Lo):FnE:=YgD (fun x=>q50 lo x.1 x.2.1 x.2.2.1 x.2.2.2.1 x.2.2.2.2.1 x.2.2.2.2.2.1 x.2.2.2.2.2.2.1 x.2.2.2.2.2.2.2.1 x.2.2.2.2.2.2.2.2.1 x.2.2.2.2.2.2.2.2.2.1 x.2.2.2.2.2.2.2.2.2.2.1 x.2.2.2.2.2.2.2.2.2.2.2)
def fs51(lo:Lo):List FnE:=Ymf lo::fs50 lo
theorem Ywo(h:GZ P fm fs50 lo)(t:Ti P fm 515 Ywn):GZ P fm fs51 lo:=
  h.ir (Ymf lo) (YaZ lo) (ls:=fun rec=>Yme lo rec) (fun rec=>(Ywm lo rec)) t (by kernel_rfl) (fun _=>rfl) rfl (fun _=>by kernel_rfl) fun n x=>by kernel_rfl
def q51_J9_b:VCode:=
 (.seq (Rg [oM 13 0,oR 14 .geq 13 (ki .u64 256)]
 (.cond 14 (Rg [oM 15 0,oR 16 .shr 15 (ki .u64 8),oM 0 16]
 (.reg [oM 17 2,oR 18 .add 17 (k 8),oM 2 18]))
 .skip))
 (Rg [oM 19 2,oM 20 0,o 21 (.conv .u8 20),o 22 (.idx (ks (⟨#[0,1,2,2,3,3,3,3,4,4,4,4,4,4,4,4,5,5,5,5,5,5,5,5,5,5,5,5,5,5,5,5,6,6,6,6,6,6,6,6,6,6,6,6,6,6,6,6,6,6,6,6,6,6,6,6,6,6,6,6,6,6,6,6,7,7,7,7,7,7,7,7,7,7,7,7,7,7,7,7,7,7,7,7,7,7,7,7,7,7,7,7,7,7,7,7,7,7,7,7,7,7,7,7,7,7,7,7,7,7,7,7,7,7,7,7,7,7,7,7,7,7,7,7,7,7,7,7,8,8,8,8,8,8,8,8,8,8,8,8,8,8,8,8,8,8,8,8,8,8,8,8,8,8,8,8,8,8,8,8,8,8,8,8,8,8,8,8,8,8,8,8,8,8,8,8,8,8,8,8,8,8,8,8,8,8,8,8,8,8,8,8,8,8,8,8,8,8,8,8,8,8,8,8,8,8,8,8,8,8,8,8,8,8,8,8,8,8,8,8,8,8,8,8,8,8,8,8,8,8,8,8,8,8,8,8,8,8,8,8,8,8,8,8,8,8,8,8,8,8,8,8,8,8,8,8]⟩)) 21),o 23 (.conv .i64 22),oR 24 .add 19 23,oM 2 24]
 (Fr 2)))
def YcT(lo:Lo):Int×Int->Option Int:=fun x=>match x with
  | (x0,n2)=>bif(decide (256<=x0))then(chk (0<=(8:Int)) (chk (0<=(YIV .u8 (x0.fdiv (2^(min (8:Int).toNat (IntKind.bits .u64)))))/\ (YIV .u8 (x0.fdiv (2^(min (8:Int).toNat (IntKind.bits .u64)))))< ((YIU #[0,1,2,2,3,3,3,3,4,4,4,4,4,4,4,4,5,5,5,5,5,5,5,5,5,5,5,5,5,5,5,5,6,6,6,6,6,6,6,6,6,6,6,6,6,6,6,6,6,6,6,6,6,6,6,6,6,6,6,6,6,6,6,6,7,7,7,7,7,7,7,7,7,7,7,7,7,7,7,7,7,7,7,7,7,7,7,7,7,7,7,7,7,7,7,7,7,7,7,7,7,7,7,7,7,7,7,7,7,7,7,7,7,7,7,7,7,7,7,7,7,7,7,7,7,7,7,7,8,8,8,8,8,8,8,8,8,8,8,8,8,8,8,8,8,8,8,8,8,8,8,8,8,8,8,8,8,8,8,8,8,8,8,8,8,8,8,8,8,8,8,8,8,8,8,8,8,8,8,8,8,8,8,8,8,8,8,8,8,8,8,8,8,8,8,8,8,8,8,8,8,8,8,8,8,8,8,8,8,8,8,8,8,8,8,8,8,8,8,8,8,8,8,8,8,8,8,8,8,8,8,8,8,8,8,8,8,8,8,8,8,8,8,8,8,8,8,8,8,8,8,8,8,8,8,8]).size:Int)) (some (YIV .i64 ((YIV .i64 (n2+8))+(YIV .i64 (YCZ (YIU #[0,1,2,2,3,3,3,3,4,4,4,4,4,4,4,4,5,5,5,5,5,5,5,5,5,5,5,5,5,5,5,5,6,6,6,6,6,6,6,6,6,6,6,6,6,6,6,6,6,6,6,6,6,6,6,6,6,6,6,6,6,6,6,6,7,7,7,7,7,7,7,7,7,7,7,7,7,7,7,7,7,7,7,7,7,7,7,7,7,7,7,7,7,7,7,7,7,7,7,7,7,7,7,7,7,7,7,7,7,7,7,7,7,7,7,7,7,7,7,7,7,7,7,7,7,7,7,7,8,8,8,8,8,8,8,8,8,8,8,8,8,8,8,8,8,8,8,8,8,8,8,8,8,8,8,8,8,8,8,8,8,8,8,8,8,8,8,8,8,8,8,8,8,8,8,8,8,8,8,8,8,8,8,8,8,8,8,8,8,8,8,8,8,8,8,8,8,8,8,8,8,8,8,8,8,8,8,8,8,8,8,8,8,8,8,8,8,8,8,8,8,8,8,8,8,8,8,8,8,8,8,8,8,8,8,8,8,8,8,8,8,8,8,8,8,8,8,8,8,8,8,8,8,8,8,8]) (YIV .u8 (x0.fdiv (2^(min (8:Int).toNat (IntKind.bits .u64))))))))))))else(chk (0<=(YIV .u8 x0)/\ (YIV .u8 x0)< ((YIU #[0,1,2,2,3,3,3,3,4,4,4,4,4,4,4,4,5,5,5,5,5,5,5,5,5,5,5,5,5,5,5,5,6,6,6,6,6,6,6,6,6,6,6,6,6,6,6,6,6,6,6,6,6,6,6,6,6,6,6,6,6,6,6,6,7,7,7,7,7,7,7,7,7,7,7,7,7,7,7,7,7,7,7,7,7,7,7,7,7,7,7,7,7,7,7,7,7,7,7,7,7,7,7,7,7,7,7,7,7,7,7,7,7,7,7,7,7,7,7,7,7,7,7,7,7,7,7,7,8,8,8,8,8,8,8,8,8,8,8,8,8,8,8,8,8,8,8,8,8,8,8,8,8,8,8,8,8,8,8,8,8,8,8,8,8,8,8,8,8,8,8,8,8,8,8,8,8,8,8,8,8,8,8,8,8,8,8,8,8,8,8,8,8,8,8,8,8,8,8,8,8,8,8,8,8,8,8,8,8,8,8,8,8,8,8,8,8,8,8,8,8,8,8,8,8,8,8,8,8,8,8,8,8,8,8,8,8,8,8,8,8,8,8,8,8,8,8,8,8,8,8,8,8,8,8,8]).size:Int)) (some (YIV .i64 (n2+(YIV .i64 (YCZ (YIU #[0,1,2,2,3,3,3,3,4,4,4,4,4,4,4,4,5,5,5,5,5,5,5,5,5,5,5,5,5,5,5,5,6,6,6,6,6,6,6,6,6,6,6,6,6,6,6,6,6,6,6,6,6,6,6,6,6,6,6,6,6,6,6,6,7,7,7,7,7,7,7,7,7,7,7,7,7,7,7,7,7,7,7,7,7,7,7,7,7,7,7,7,7,7,7,7,7,7,7,7,7,7,7,7,7,7,7,7,7,7,7,7,7,7,7,7,7,7,7,7,7,7,7,7,7,7,7,7,8,8,8,8,8,8,8,8,8,8,8,8,8,8,8,8,8,8,8,8,8,8,8,8,8,8,8,8,8,8,8,8,8,8,8,8,8,8,8,8,8,8,8,8,8,8,8,8,8,8,8,8,8,8,8,8,8,8,8,8,8,8,8,8,8,8,8,8,8,8,8,8,8,8,8,8,8,8,8,8,8,8,8,8,8,8,8,8,8,8,8,8,8,8,8,8,8,8,8,8,8,8,8,8,8,8,8,8,8,8,8,8,8,8,8,8,8,8,8,8,8,8,8,8,8,8,8,8]) (YIV .u8 x0)))))))
def Ywp(lo:Lo):LpE:=⟨9,[],(Zsg [0,2] [.i .u64,.j] []),[⟨.ret,(Zsg [2] [.j] [])⟩],YcT lo⟩
def Ywq(lo:Lo):LL:=(Ywp lo,q51_J9_b.er)::[]
theorem Ywr(lo:Lo):Lk lo pf (fs51 lo) 0 (Ywq lo):=.j .n
def q51(lo:Lo)(x0:Int):Option Int:=
  bif(decide (4294967296<=x0))then(chk (0<=(32:Int)) (bif(decide ((65536:Int)<=(x0.fdiv (2^(min (32:Int).toNat (IntKind.bits .u64))))))then(chk (0<=(16:Int)) (YIC (YcT lo (((x0.fdiv (2^(min (32:Int).toNat (IntKind.bits .u64)))).fdiv (2^(min (16:Int).toNat (IntKind.bits .u64)))),(YIV .i64 ((32:Int)+(16:Int))))) fun y167=>some y167))else(YIC (YcT lo ((x0.fdiv (2^(min (32:Int).toNat (IntKind.bits .u64)))),(32:Int))) fun y168=>some y168)))else(bif(decide (65536<=x0))then(chk (0<=(16:Int)) (YIC (YcT lo ((x0.fdiv (2^(min (16:Int).toNat (IntKind.bits .u64)))),(YIV .i64 ((0:Int)+(16:Int))))) fun y169=>some y169))else(YIC (YcT lo (x0,(0:Int))) fun y170=>some y170))
def Yws:VFn:=⟨true,25,[.t 2],
 (Rg [oK 2 0]
 (.seq (Rg [oM 3 0,oR 4 .geq 3 (ki .u64 4294967296)]
 (.cond 4 (Rg [oM 5 0,oR 6 .shr 5 (ki .u64 32),oM 0 6]
 (.reg [oK 2 32]))
 .skip))
 (.seq (Rg [oM 7 0,oR 8 .geq 7 (ki .u64 65536)]
 (.cond 8 (Rg [oM 9 0,oR 10 .shr 9 (ki .u64 16),oM 0 10]
 (.reg [oM 11 2,oR 12 .add 11 (k 16),oM 2 12]))
 .skip))
 (.jn 9 q51_J9_b))))⟩
def Ymg(lo:Lo):FnE:=Zfe 187 true (Zsg [0] [.i .u64] []) (.i .i64) [] (fun x=>q51 lo x:Int->Option Int)
def fs52(lo:Lo):List FnE:=Ymg lo::fs51 lo
theorem Ywt(h:GZ P fm fs51 lo)(t:Ti P fm 187 Yws):GZ P fm fs52 lo:=
  h.p (Ymg lo) (Ywr lo) t
def q52(lo:Lo)(x0:Int):Option Int:=
  YIC (q51 lo x0) fun y171=>some y171
def Ywu:VFn:=⟨true,8,[.t 2],
 (Rg [oK 2 0]
 (.seq (.cond (kb false) (Rg [oM 3 0,o 4 (.conv .u32 3),oC 5 186 [4],oM 2 5]
 (Fr 2))
 .skip)
 (Rg [oM 6 0,oC 7 187 [6],oM 2 7]
 (Fr 2))))⟩
def Ymh(lo:Lo):FnE:=Zfe 163 true (Zsg [0] [.i .u64] []) (.i .i64) [] (fun x=>q52 lo x:Int->Option Int)
def fs53(lo:Lo):List FnE:=Ymh lo::fs52 lo
theorem Ywv(h:GZ P fm fs52 lo)(t:Ti P fm 163 Ywu):GZ P fm fs53 lo:=
  h.p (Ymh lo) .n t
def q53(lo:Lo)(x0:ByteArray):Option Bool:=
  some (!decide (x0=x0))
def Yww:VFn:=⟨true,6,[.t 2],
 (Rg [oB 2 false]
 (Rg [oM 3 0,oM 4 0,oR 5 .neq 3 4,oM 2 5]
 (Fr 2)))⟩
def Ymi(lo:Lo):FnE:=Zfe 325 true (Zsg [0] [.s] []) .b [] (fun x=>q53 lo x:ByteArray->Option Bool)
def fs54(lo:Lo):List FnE:=Ymi lo::fs53 lo
theorem Ywx(h:GZ P fm fs53 lo)(t:Ti P fm 325 Yww):GZ P fm fs54 lo:=
  h.p (Ymi lo) .n t
def q54(lo:Lo)(x0:ByteArray)(y1:ByteArray):Option Bool:=
  YIC (q53 lo x0) fun y173=>bif y173 then(YIC (q53 lo y1) fun y174=>bif(!y174)then(some true)else(some (Op.bytesLess x0.toList y1.toList)))else(some (Op.bytesLess x0.toList y1.toList))
def Ywy:VFn:=⟨true,17,[.t 4],
 (Rg [oB 4 false]
 (Rg [oM 5 0,oC 6 325 [5],oM 7 6,gT 8 7 (.mv 1),gT 9 7 (.call 325 [8]),gT 10 7 (.not 9),oP 11 7 10 (kb false),oM 12 11,gF 13 12 (.mv 0),gF 14 12 (.mv 1),gF 15 12 (.bin .lss 13 14),oP 16 12 (kb true) 15,oM 4 16]
 (Fr 4)))⟩
def Ymj(lo:Lo):FnE:=Zfe 317 true (Zsg [0,1] [.s,.s] []) .b [] (fun x=>q54 lo x.1 x.2:ByteArray×ByteArray->Option Bool)
def fs55(lo:Lo):List FnE:=Ymj lo::fs54 lo
theorem Ywz(h:GZ P fm fs54 lo)(t:Ti P fm 317 Ywy):GZ P fm fs55 lo:=
  h.p (Ymj lo) .n t
def q55_L3_b:VCode:=
 (.seq (Rg [oM 16 7,oM 17 1,oR 18 .gtr 16 17,oM 19 18,gT 20 19 (.mv 0),gT 21 19 (.mv 7),gT 22 19 (.iad 1 20 21),gT 23 19 (.load false 1 22),gT 24 19 (.mv 0),gT 25 19 (.mv 7),gT 26 19 (.bin .sub 25 (k 1)),gT 27 19 (.iad 1 24 26),gT 28 19 (.load false 1 27),gT 29 19 (.call 317 [23,28]),oP 30 19 29 (kb false)]
 (Ce 30 2))
 (.seq (.blk 3 (.reg [oM 33 0,oM 34 7,oM 35 0,oM 36 7,oR 37 .sub 36 (k 1),oM 38 0,oM 39 7,oR 40 .sub 39 (k 1),oI 41 1 38 40,oL 42 41,oM 43 0,oM 44 7,oI 45 1 43 44,oL 46 45,oI 47 1 33 34,oS 1 47 42,oI 48 1 35 37,oS 1 48 46]))
 (.reg [oM 31 7,oR 32 .sub 31 (k 1),oM 7 32])))
def Ymk(lo:Lo):Int×Int×Int×Int×Zt3->Option ((Int×Int×Int×Int×Zt3)⊕ ((Int×Int×Int×Zt3))):=fun x=>match x with
  | (a1,b2,i6,j7,data0)=>bif(decide (a1<j7))then(chk (0<=j7/\j7< (data0.length:Int)) (chk (0<=(YIV .i64 (j7-1))/\ (YIV .i64 (j7-1))< (data0.length:Int)) (YIC (q54 lo (data0.getD j7.toNat (YIU #[])) (data0.getD ((YIV .i64 (j7-1)).toNat) (YIU #[]))) fun y175=>bif y175 then(chk (0<=(YIV .i64 (j7-1))/\ (YIV .i64 (j7-1))< (data0.length:Int)) (chk (0<=j7/\j7< (data0.length:Int)) (chk (0<=j7/\j7< (data0.length:Int)) (chk (0<=(YIV .i64 (j7-1))/\ (YIV .i64 (j7-1))< ((data0.set j7.toNat (data0.getD ((YIV .i64 (j7-1)).toNat) (YIU #[]))).length:Int)) (some (.inl (a1,b2,i6,(YIV .i64 (j7-1)),((data0.set j7.toNat (data0.getD ((YIV .i64 (j7-1)).toNat) (YIU #[]))).set ((YIV .i64 (j7-1)).toNat) (data0.getD j7.toNat (YIU #[]))))))))))else(some (.inr (a1,b2,i6,data0))))))else(some (.inr (a1,b2,i6,data0)))
def Yml(lo:Lo):Int×Int×Int×Int×Zt3->Option ((Int×Int×Int×Zt3)):=lo.run (Ymk lo)
def YwA(lo:Lo):LpE:=⟨3,[],(Zsg [0,1,2,6,7] [.ref 0,.j,.j,.j,.j] [.sq (cs [.s])]),[⟨.exit 2,(Zsg [0,1,2,6] [.ref 0,.j,.j,.j] [.sq (cs [.s])])⟩],Yml lo⟩
def Ymm(lo:Lo):LL:=(YwA lo,.loop q55_L3_b.er)::[]
theorem YwB(lo:Lo):Lk lo pf (fs55 lo) 1 (Ymm lo):=.l .n (Ymk lo)
def q55_L1_b:VCode:=
 (.seq (Rg [oM 10 6,oM 11 2,oR 12 .lss 10 11]
 (Ce 12 0))
 (.seq (.blk 1 (Rg [oM 15 6,oM 7 15]
 (.blk 2 (.loop 3 q55_L3_b))))
 (.reg [oM 13 6,oR 14 .add 13 (k 1),oM 6 14])))
def Ymn(lo:Lo):Int×Int×Int×Zt3->Option ((Int×Int×Int×Zt3)⊕ ((Zt3))):=fun x=>match x with
  | (a1,b2,i6,data0)=>bif(decide (i6<b2))then(YIC (Yml lo (a1,b2,i6,i6,data0)) fun y176=>some (.inl (y176.1,y176.2.1,(YIV .i64 (y176.2.2.1+(1:Int))),y176.2.2.2)))else(some (.inr data0))
def Ymo(lo:Lo):Int×Int×Int×Zt3->Option ((Zt3)):=lo.run (Ymn lo)
def YwC(lo:Lo):LpE:=⟨1,[],(Zsg [0,1,2,6] [.ref 0,.j,.j,.j] [.sq (cs [.s])]),[⟨.exit 0,(Zsg [] [] [.sq (cs [.s])])⟩],Ymo lo⟩
def YwD(lo:Lo):LL:=(YwC lo,.loop q55_L1_b.er)::Ymm lo
theorem YwE(lo:Lo):Lk lo pf (fs55 lo) 1 (YwD lo):=.l (YwB lo) (Ymn lo)
def q55(lo:Lo)(a1:Int)(b2:Int)(data0:List ByteArray):Option (Zt3):=
  YIC (Ymo lo (a1,b2,(YIV .i64 (a1+1)),data0)) fun y177=>some y177
def YwF:VFn:=⟨true,49,[],
 (Rg [oM 8 1,oR 9 .add 8 (k 1),oM 6 9]
 (.blk 0 (.loop 1 q55_L1_b)))⟩
def Ymp(lo:Lo):FnE:=Zfe 311 false (Zsg [0,1,2] [.ref 0,.j,.j] [.sq (cs [.s])]) (.tp []) [.sq (cs [.s])] (fun x=>q55 lo x.1 x.2.1 x.2.2:Int×Int×Zt3->Option (Zt3))
def fs56(lo:Lo):List FnE:=Ymp lo::fs55 lo
theorem YwG(h:GZ P fm fs55 lo)(t:Ti P fm 311 YwF):GZ P fm fs56 lo:=
  h.i (Ymp lo) (YwE lo) t
def q56(lo:Lo)(x0:Int)(x1:Int)(x2:List ByteArray):Option (Zt3):=none
def Ymq(lo:Lo):FnE:=Zfe 312 false (Zsg [0,1,2] [.ref 0,.j,.j] [.sq (cs [.s])]) (.tp []) [.sq (cs [.s])] (fun x=>q56 lo x.1 x.2.1 x.2.2:Int×Int×Zt3->Option (Zt3))
def fs57(lo:Lo):List FnE:=Ymq lo::fs56 lo
theorem YwH(h:GZ P fm fs56 lo)(hN:True):GZ P fm fs57 lo:=
  ⟨h.1,h.2,YbK h.S (Ymq lo) (fun _=>rfl)⟩
def q57(lo:Lo)(x0:Int)(x1:Int)(x2:List ByteArray):Option (Zt3):=none
def Ymr(lo:Lo):FnE:=Zfe 313 false (Zsg [0,1,2] [.ref 0,.j,.j] [.sq (cs [.s])]) (.tp []) [.sq (cs [.s])] (fun x=>q57 lo x.1 x.2.1 x.2.2:Int×Int×Zt3->Option (Zt3))
def fs58(lo:Lo):List FnE:=Ymr lo::fs57 lo
theorem YwI(h:GZ P fm fs57 lo)(hN:True):GZ P fm fs58 lo:=
  ⟨h.1,h.2,YbK h.S (Ymr lo) (fun _=>rfl)⟩
def q58(lo:Lo)(x0:List ByteArray)(x1:Int)(x2:Int):Option (Int×Int):=none
def Yms(lo:Lo):FnE:=Zfe 314 true (Zsg [0,1,2] [.l (cs [.s]),.j,.j] []) (.tp [.j,.j]) [] (fun x=>q58 lo x.1 x.2.1 x.2.2:Zt3×Int×Int->Option (Int×Int))
def fs59(lo:Lo):List FnE:=Yms lo::fs58 lo
theorem YwJ(h:GZ P fm fs58 lo)(hN:True):GZ P fm fs59 lo:=
  ⟨h.1,h.2,YbK h.S (Yms lo) (fun _=>rfl)⟩
def q59(lo:Lo)(x0:Int)(x1:Int)(x2:List ByteArray):Option (Zt3):=none
def Ymt(lo:Lo):FnE:=Zfe 315 false (Zsg [0,1,2] [.ref 0,.j,.j] [.sq (cs [.s])]) (.tp []) [.sq (cs [.s])] (fun x=>q59 lo x.1 x.2.1 x.2.2:Int×Int×Zt3->Option (Zt3))
def fs60(lo:Lo):List FnE:=Ymt lo::fs59 lo
theorem YwK(h:GZ P fm fs59 lo)(hN:True):GZ P fm fs60 lo:=
  ⟨h.1,h.2,YbK h.S (Ymt lo) (fun _=>rfl)⟩
def q60(lo:Lo)(x0:Int)(x1:Int)(x2:List ByteArray):Option (Bool×Zt3):=none
def Ymu(lo:Lo):FnE:=Zfe 316 false (Zsg [0,1,2] [.ref 0,.j,.j] [.sq (cs [.s])]) .b [.sq (cs [.s])] (fun x=>q60 lo x.1 x.2.1 x.2.2:Int×Int×Zt3->Option (Bool×Zt3))
def fs61(lo:Lo):List FnE:=Ymu lo::fs60 lo
theorem YwL(h:GZ P fm fs60 lo)(hN:True):GZ P fm fs61 lo:=
  ⟨h.1,h.2,YbK h.S (Ymu lo) (fun _=>rfl)⟩
def q61(lo:Lo)(x0:Int)(x1:Int)(x2:Int)(x3:List ByteArray):Option (Int×Zt3):=none
def Ymv(lo:Lo):FnE:=Zfe 318 false (Zsg [0,1,2,3] [.ref 0,.j,.j,.j] [.sq (cs [.s])]) (.i .i64) [.sq (cs [.s])] (fun x=>q61 lo x.1 x.2.1 x.2.2.1 x.2.2.2:Int×Int×Int×Zt3->Option (Int×Zt3))
def fs62(lo:Lo):List FnE:=Ymv lo::fs61 lo
theorem YwM(h:GZ P fm fs61 lo)(hN:True):GZ P fm fs62 lo:=
  ⟨h.1,h.2,YbK h.S (Ymv lo) (fun _=>rfl)⟩
def q62(lo:Lo)(x0:Int)(x1:Int)(x2:Int)(x3:List ByteArray):Option (Int×Bool×Zt3):=none
def Ymw(lo:Lo):FnE:=Zfe 319 false (Zsg [0,1,2,3] [.ref 0,.j,.j,.j] [.sq (cs [.s])]) (.tp [.j,.b]) [.sq (cs [.s])] (fun x=>q62 lo x.1 x.2.1 x.2.2.1 x.2.2.2:Int×Int×Int×Zt3->Option (Int×Bool×Zt3))
def fs63(lo:Lo):List FnE:=Ymw lo::fs62 lo
theorem YwN(h:GZ P fm fs62 lo)(hN:True):GZ P fm fs63 lo:=
  ⟨h.1,h.2,YbK h.S (Ymw lo) (fun _=>rfl)⟩
end Go.Abs.G47
namespace Go.Abs.G47
open Go Go.Abs
set_option maxRecDepth 100000
set_option maxHeartbeats 1000000
variable{P:Program}{fm:FM}{lo:Lo}
def YcU(F:Int×Int×Int×Zt3->Option (Zt3)):FnE:=⟨301,false,(Zsg [0,1,2,3] [.ref 0,.j,.j,.j] [.sq (cs [.s])]),.tp [],[.sq (cs [.s])],(cs [.l (cs [.s])]),F⟩
def q63_J20_b:VCode:=
 (.seq (Rg [oM 73 1,oR 74 .gtr 73 (k 0),oM 75 74,gT 76 75 (.mv 0),gT 77 75 (.mv 1),gT 78 75 (.bin .sub 77 (k 1)),gT 79 75 (.iad 1 76 78),gT 80 75 (.load false 1 79),gT 81 75 (.mv 0),gT 82 75 (.mv 11),gT 83 75 (.iad 1 81 82),gT 84 75 (.load false 1 83),gT 85 75 (.call 317 [80,84]),gT 86 75 (.not 85),oP 87 75 86 (kb false)]
 (.cond 87 (Rg [oM 88 0,oM 89 1,oM 90 2,oM 91 11,oC 92 318 [88,89,90,91],oM 13 92]
 (Rg [oM 93 13,oM 1 93]
 (.exit 1)))
 .skip))
 (Rg [oM 95 0,oM 96 1,oM 97 2,oM 98 11,oC 99 319 [95,96,97,98],oM 94 99,oE 100 94 0,oE 101 94 1,oM 14 100,oM 15 101]
 (Rg [oM 102 15,oM 9 102]
 (Rg [oM 103 14,oM 104 1,oR 105 .sub 103 104,oM 106 2,oM 107 14,oR 108 .sub 106 107,oM 16 105,oM 17 108]
 (Rg [oM 109 10,oR 110 .quo 109 (k 8),oM 18 110]
 (Rg [oM 111 16,oM 112 17,oR 113 .lss 111 112]
 (.cond 113 (Rg [oM 114 16,oM 115 18,oR 116 .geq 114 115,oM 8 116]
 (Rg [oM 117 0,oM 118 1,oM 119 14,oM 120 3,oC 121 301 [117,118,119,120]]
 (.reg [oM 122 14,oR 123 .add 122 (k 1),oM 1 123])))
 (Rg [oM 124 17,oM 125 18,oR 126 .geq 124 125,oM 8 126]
 (Rg [oM 127 0,oM 128 14,oR 129 .add 128 (k 1),oM 130 2,oM 131 3,oC 132 301 [127,129,130,131]]
 (.reg [oM 133 14,oM 2 133]))))))))))
def YcV(lo:Lo)(rec:Int×Int×Int×Zt3->Option (Zt3)):Int×Int×Int×Bool×Bool×Int×Int×Zt3->Option (Zp66⊕Zp66):=fun x=>match x with
  | (a1,b2,limit3,wasBalanced8,wasPartitioned9,length10,pivot11,data0)=>bif(decide (0<a1))then(chk (0<=(YIV .i64 (a1-1))/\ (YIV .i64 (a1-1))< (data0.length:Int)) (chk (0<=pivot11/\pivot11< (data0.length:Int)) (YIC (q54 lo (data0.getD ((YIV .i64 (a1-1)).toNat) (YIU #[])) (data0.getD pivot11.toNat (YIU #[]))) fun y184=>bif(!y184)then(YIC (q61 lo a1 b2 pivot11 data0) fun y185=>chk (y185.2.length=data0.length) (some (.inl (y185.1,b2,limit3,wasBalanced8,wasPartitioned9,y185.2))))else(YIC (q62 lo a1 b2 pivot11 data0) fun y186=>chk (y186.2.2.length=data0.length) (chk ((8:Int)≠0) (bif(decide ((YIV .i64 (y186.1-a1))< (YIV .i64 (b2-y186.1))))then(YIC (rec (a1,y186.1,limit3,y186.2.2)) fun y187=>chk (y187.length=y186.2.2.length) (some (.inr ((YIV .i64 (y186.1+(1:Int))),b2,limit3,(decide ((YIV .i64 (length10.tdiv (8:Int)))<=(YIV .i64 (y186.1-a1)))),y186.2.1,y187))))else(YIC (rec ((YIV .i64 (y186.1+(1:Int))),b2,limit3,y186.2.2)) fun y188=>chk (y188.length=y186.2.2.length) (some (.inr (a1,y186.1,limit3,(decide ((YIV .i64 (length10.tdiv (8:Int)))<=(YIV .i64 (b2-y186.1)))),y186.2.1,y188))))))))))else(YIC (q62 lo a1 b2 pivot11 data0) fun y189=>chk (y189.2.2.length=data0.length) (chk ((8:Int)≠0) (bif(decide ((YIV .i64 (y189.1-a1))< (YIV .i64 (b2-y189.1))))then(YIC (rec (a1,y189.1,limit3,y189.2.2)) fun y190=>chk (y190.length=y189.2.2.length) (some (.inr ((YIV .i64 (y189.1+(1:Int))),b2,limit3,(decide ((YIV .i64 (length10.tdiv (8:Int)))<=(YIV .i64 (y189.1-a1)))),y189.2.1,y190))))else(YIC (rec ((YIV .i64 (y189.1+(1:Int))),b2,limit3,y189.2.2)) fun y191=>chk (y191.length=y189.2.2.length) (some (.inr (a1,y189.1,limit3,(decide ((YIV .i64 (length10.tdiv (8:Int)))<=(YIV .i64 (b2-y189.1)))),y189.2.1,y191)))))))
def YwO(lo:Lo)(rec:Int×Int×Int×Zt3->Option (Zt3)):LpE:=⟨20,[],(Zsg [0,1,2,3,8,9,10,11] [.ref 0,.j,.j,.j,.b,.b,.j,.j] [.sq (cs [.s])]),[⟨.exit 1,(Zsg [0,1,2,3,8,9] [.ref 0,.j,.j,.j,.b,.b] [.sq (cs [.s])])⟩,⟨.nor,(Zsg [0,1,2,3,8,9] [.ref 0,.j,.j,.j,.b,.b] [.sq (cs [.s])])⟩],YcV lo rec⟩
def Ymx(lo:Lo)(rec:Int×Int×Int×Zt3->Option (Zt3)):LL:=(YwO lo rec,q63_J20_b.er)::[]
theorem YwP(lo:Lo)(rec:Int×Int×Int×Zt3->Option (Zt3)):Lk lo pf (YcU rec::fs63 lo) 1 (Ymx lo rec):=.j .n
def q63_J25_b:VCode:=
 (.seq (Rg [oM 61 8,oM 62 61,gT 63 62 (.mv 9),oP 64 62 63 (kb false),oM 65 64,gT 66 65 (.mv 12),gT 67 65 (.bin .eql 66 (k 1)),oP 68 65 67 (kb false)]
 (.cond 68 (Rg [oM 69 0,oM 70 1,oM 71 2,oC 72 316 [69,70,71]]
 (.cond 72 .ret
 .skip))
 .skip))
 (.jn 20 q63_J20_b))
def YgE(lo:Lo)(rec:Int×Int×Int×Zt3->Option (Zt3)):Int×Int×Int×Bool×Bool×Int×Int×Int×Zt3->Option ((Zt3)⊕Zp66⊕Zp66):=fun x=>match x with
  | (a1,b2,limit3,wasBalanced8,wasPartitioned9,length10,pivot11,hint12,data0)=>bif wasBalanced8 then(bif wasPartitioned9 then(bif(decide (hint12=1))then(YIC (q60 lo a1 b2 data0) fun y183=>chk (y183.2.length=data0.length) (bif y183.1 then(some (.inl y183.2))else(YIC (YcV lo rec (a1,b2,limit3,wasBalanced8,wasPartitioned9,length10,pivot11,y183.2)) fun y192=>alt2 y192 (fun y193=>some (.inr (.inl (y193.1,y193.2.1,y193.2.2.1,y193.2.2.2.1,y193.2.2.2.2.1,y193.2.2.2.2.2)))) (fun y194=>some (.inr (.inr (y194.1,y194.2.1,y194.2.2.1,y194.2.2.2.1,y194.2.2.2.2.1,y194.2.2.2.2.2)))))))else(YIC (YcV lo rec (a1,b2,limit3,wasBalanced8,wasPartitioned9,length10,pivot11,data0)) fun y195=>alt2 y195 (fun y196=>some (.inr (.inl (y196.1,y196.2.1,y196.2.2.1,y196.2.2.2.1,y196.2.2.2.2.1,y196.2.2.2.2.2)))) (fun y197=>some (.inr (.inr (y197.1,y197.2.1,y197.2.2.1,y197.2.2.2.1,y197.2.2.2.2.1,y197.2.2.2.2.2))))))else(YIC (YcV lo rec (a1,b2,limit3,wasBalanced8,wasPartitioned9,length10,pivot11,data0)) fun y198=>alt2 y198 (fun y199=>some (.inr (.inl (y199.1,y199.2.1,y199.2.2.1,y199.2.2.2.1,y199.2.2.2.2.1,y199.2.2.2.2.2)))) (fun y200=>some (.inr (.inr (y200.1,y200.2.1,y200.2.2.1,y200.2.2.2.1,y200.2.2.2.2.1,y200.2.2.2.2.2))))))else(YIC (YcV lo rec (a1,b2,limit3,wasBalanced8,wasPartitioned9,length10,pivot11,data0)) fun y201=>alt2 y201 (fun y202=>some (.inr (.inl (y202.1,y202.2.1,y202.2.2.1,y202.2.2.2.1,y202.2.2.2.2.1,y202.2.2.2.2.2)))) (fun y203=>some (.inr (.inr (y203.1,y203.2.1,y203.2.2.1,y203.2.2.2.1,y203.2.2.2.2.1,y203.2.2.2.2.2)))))
def YwQ(lo:Lo)(rec:Int×Int×Int×Zt3->Option (Zt3)):LpE:=⟨25,[],(Zsg [0,1,2,3,8,9,10,11,12] [.ref 0,.j,.j,.j,.b,.b,.j,.j,.j] [.sq (cs [.s])]),[⟨.ret,(Zsg [] [] [.sq (cs [.s])])⟩,⟨.exit 1,(Zsg [0,1,2,3,8,9] [.ref 0,.j,.j,.j,.b,.b] [.sq (cs [.s])])⟩,⟨.nor,(Zsg [0,1,2,3,8,9] [.ref 0,.j,.j,.j,.b,.b] [.sq (cs [.s])])⟩],YgE lo rec⟩
def Ymy(lo:Lo)(rec:Int×Int×Int×Zt3->Option (Zt3)):LL:=(YwQ lo rec,q63_J25_b.er)::Ymx lo rec
theorem YwR(lo:Lo)(rec:Int×Int×Int×Zt3->Option (Zt3)):Lk lo pf (YcU rec::fs63 lo) 1 (Ymy lo rec):=.j (YwP lo rec)
def q63_J30_b:VCode:=
 (Rg [oM 43 0,oM 44 1,oM 45 2,oC 46 314 [43,44,45],oM 42 46,oE 47 42 0,oE 48 42 1,oM 11 47,oM 12 48]
 (.seq (Rg [oM 49 12,oR 50 .eql 49 (k 2)]
 (.cond 50 (Rg [oM 51 0,oM 52 1,oM 53 2,oC 54 315 [51,52,53]]
 (Rg [oM 55 2,oR 56 .sub 55 (k 1),oM 57 11,oM 58 1,oR 59 .sub 57 58,oR 60 .sub 56 59,oM 11 60]
 (.reg [oK 12 1])))
 .skip))
 (.jn 25 q63_J25_b)))
def YgF(lo:Lo)(rec:Int×Int×Int×Zt3->Option (Zt3)):Int×Int×Int×Bool×Bool×Int×Zt3->Option ((Zt3)⊕Zp66⊕Zp66):=fun x=>match x with
  | (a1,b2,limit3,wasBalanced8,wasPartitioned9,length10,data0)=>YIC (q58 lo data0 a1 b2) fun y181=>bif(decide (y181.2=(2:Int)))then(YIC (q59 lo a1 b2 data0) fun y182=>chk (y182.length=data0.length) (YIC (YgE lo rec (a1,b2,limit3,wasBalanced8,wasPartitioned9,length10,(YIV .i64 ((YIV .i64 (b2-1))-(YIV .i64 (y181.1-a1)))),(1:Int),y182)) fun y204=>alt2 y204 (fun y205=>some (.inl y205)) (fun y206=>alt2 y206 (fun y207=>some (.inr (.inl (y207.1,y207.2.1,y207.2.2.1,y207.2.2.2.1,y207.2.2.2.2.1,y207.2.2.2.2.2)))) (fun y208=>some (.inr (.inr (y208.1,y208.2.1,y208.2.2.1,y208.2.2.2.1,y208.2.2.2.2.1,y208.2.2.2.2.2)))))))else(YIC (YgE lo rec (a1,b2,limit3,wasBalanced8,wasPartitioned9,length10,y181.1,y181.2,data0)) fun y209=>alt2 y209 (fun y210=>some (.inl y210)) (fun y211=>alt2 y211 (fun y212=>some (.inr (.inl (y212.1,y212.2.1,y212.2.2.1,y212.2.2.2.1,y212.2.2.2.2.1,y212.2.2.2.2.2)))) (fun y213=>some (.inr (.inr (y213.1,y213.2.1,y213.2.2.1,y213.2.2.2.1,y213.2.2.2.2.1,y213.2.2.2.2.2))))))
def YwS(lo:Lo)(rec:Int×Int×Int×Zt3->Option (Zt3)):LpE:=⟨30,[],(Zsg [0,1,2,3,8,9,10] [.ref 0,.j,.j,.j,.b,.b,.j] [.sq (cs [.s])]),[⟨.ret,(Zsg [] [] [.sq (cs [.s])])⟩,⟨.exit 1,(Zsg [0,1,2,3,8,9] [.ref 0,.j,.j,.j,.b,.b] [.sq (cs [.s])])⟩,⟨.nor,(Zsg [0,1,2,3,8,9] [.ref 0,.j,.j,.j,.b,.b] [.sq (cs [.s])])⟩],YgF lo rec⟩
def Ymz(lo:Lo)(rec:Int×Int×Int×Zt3->Option (Zt3)):LL:=(YwS lo rec,q63_J30_b.er)::Ymy lo rec
theorem YwT(lo:Lo)(rec:Int×Int×Int×Zt3->Option (Zt3)):Lk lo pf (YcU rec::fs63 lo) 1 (Ymz lo rec):=.j (YwR lo rec)
def q63_L1_b:VCode:=
 (.blk 1 (Rg [oM 19 2,oM 20 1,oR 21 .sub 19 20,oM 10 21]
 (.seq (Rg [oM 22 10,oR 23 .leq 22 (k 12)]
 (.cond 23 (Rg [oM 24 0,oM 25 1,oM 26 2,oC 27 311 [24,25,26]]
 .ret)
 .skip))
 (.seq (Rg [oM 28 3,oR 29 .eql 28 (k 0)]
 (.cond 29 (Rg [oM 30 0,oM 31 1,oM 32 2,oC 33 312 [30,31,32]]
 .ret)
 .skip))
 (.seq (Rg [oM 34 8,oX 35 34]
 (.cond 35 (Rg [oM 36 0,oM 37 1,oM 38 2,oC 39 313 [36,37,38]]
 (.reg [oM 40 3,oR 41 .sub 40 (k 1),oM 3 41]))
 .skip))
 (.jn 30 q63_J30_b))))))
def YmA(lo:Lo)(rec:Int×Int×Int×Zt3->Option (Zt3)):Zp66->Option (Zp66⊕ ((Zt3))):=fun x=>match x with
  | (a1,b2,limit3,wasBalanced8,wasPartitioned9,data0)=>bif(decide ((YIV .i64 (b2-a1))<=(12:Int)))then(YIC (q55 lo a1 b2 data0) fun y178=>chk (y178.length=data0.length) (some (.inr y178)))else(bif(decide (limit3=0))then(YIC (q56 lo a1 b2 data0) fun y179=>chk (y179.length=data0.length) (some (.inr y179)))else(bif(!wasBalanced8)then(YIC (q57 lo a1 b2 data0) fun y180=>chk (y180.length=data0.length) (YIC (YgF lo rec (a1,b2,(YIV .i64 (limit3-1)),wasBalanced8,wasPartitioned9,(YIV .i64 (b2-a1)),y180)) fun y214=>alt2 y214 (fun y215=>some (.inr y215)) (fun y216=>alt2 y216 (fun y217=>some (.inl (y217.1,y217.2.1,y217.2.2.1,y217.2.2.2.1,y217.2.2.2.2.1,y217.2.2.2.2.2))) (fun y218=>some (.inl (y218.1,y218.2.1,y218.2.2.1,y218.2.2.2.1,y218.2.2.2.2.1,y218.2.2.2.2.2))))))else(YIC (YgF lo rec (a1,b2,limit3,wasBalanced8,wasPartitioned9,(YIV .i64 (b2-a1)),data0)) fun y219=>alt2 y219 (fun y220=>some (.inr y220)) (fun y221=>alt2 y221 (fun y222=>some (.inl (y222.1,y222.2.1,y222.2.2.1,y222.2.2.2.1,y222.2.2.2.2.1,y222.2.2.2.2.2))) (fun y223=>some (.inl (y223.1,y223.2.1,y223.2.2.1,y223.2.2.2.1,y223.2.2.2.2.1,y223.2.2.2.2.2)))))))
def YmB(lo:Lo)(rec:Int×Int×Int×Zt3->Option (Zt3)):Zp66->Option ((Zt3)):=lo.run (YmA lo rec)
def YwU(lo:Lo)(rec:Int×Int×Int×Zt3->Option (Zt3)):LpE:=⟨1,[],(Zsg [0,1,2,3,8,9] [.ref 0,.j,.j,.j,.b,.b] [.sq (cs [.s])]),[⟨.ret,(Zsg [] [] [.sq (cs [.s])])⟩],YmB lo rec⟩
def YmC(lo:Lo)(rec:Int×Int×Int×Zt3->Option (Zt3)):LL:=(YwU lo rec,.loop q63_L1_b.er)::Ymz lo rec
theorem YwV(lo:Lo)(rec:Int×Int×Int×Zt3->Option (Zt3)):Lk lo pf (YcU rec::fs63 lo) 1 (YmC lo rec):=.l (YwT lo rec) (YmA lo rec)
def YwW(lo:Lo)(rec:Int×Int×Int×Zt3->Option (Zt3))(a1:Int)(b2:Int)(limit3:Int)(data0:List ByteArray):Option (Zt3):=
  YIC (YmB lo rec (a1,b2,limit3,true,true,data0)) fun y224=>some y224
def YgG(lo:Lo):Nat->Int×Int×Int×Zt3->Option (Zt3)
  |0,_=>none
  |n+1,x=>YwW lo (YgG lo n) x.1 x.2.1 x.2.2.1 x.2.2.2
def q63(lo:Lo)(a1:Int)(b2:Int)(limit3:Int)(data0:List ByteArray):Option (Zt3):=lo.run (fixS (YgG lo)) (0,(a1,b2,limit3,data0))
def YwX:VFn:=⟨true,134,[],
 (Rg [oB 8 true]
 (Rg [oB 9 true]
 (.blk 0 (.loop 1 q63_L1_b))))⟩
def YmD(lo:Lo):FnE:=YcU (fun x=>q63 lo x.1 x.2.1 x.2.2.1 x.2.2.2)
def fs64(lo:Lo):List FnE:=YmD lo::fs63 lo
theorem YwY(h:GZ P fm fs63 lo)(t:Ti P fm 301 YwX):GZ P fm fs64 lo:=
  h.ir (YmD lo) (YgG lo) (ls:=fun rec=>YmC lo rec) (fun rec=>(YwV lo rec)) t (by kernel_rfl) (fun _=>rfl) rfl (fun _=>by kernel_rfl) fun n x=>by kernel_rfl
def q64(lo:Lo)(x0:List ByteArray):Option (Zt3):=
  YIC (q52 lo (YIV .u64 (x0.length:Int))) fun y172=>YIC (q63 lo (0:Int) (x0.length:Int) y172 x0) fun y225=>chk (y225.length=x0.length) (some y225)
def YwZ:VFn:=⟨true,11,[],
 (Rg [oM 3 0,oN 4 3,oM 2 4]
 (.reg [oM 5 0,oM 6 2,oM 7 2,o 8 (.conv .u64 7),oC 9 163 [8],oC 10 301 [5,(k 0),6,9]]))⟩
def YmE(lo:Lo):FnE:=Zfe 271 false (Zsg [0] [.ref 0] [.sq (cs [.s])]) (.tp []) [.sq (cs [.s])] (fun x=>q64 lo x:Zt3->Option (Zt3))
def fs65(lo:Lo):List FnE:=YmE lo::fs64 lo
theorem Yw0(h:GZ P fm fs64 lo)(t:Ti P fm 271 YwZ):GZ P fm fs65 lo:=
  h.i (YmE lo) .n t
def q65(lo:Lo)(l:List ByteArray):Option Zt3:=YET (q64 lo) l
def Yw1(lo:Lo):FnE:=vsortE 271 (.cons (.s) .nil) (q65 lo)
def fs66(lo:Lo):List FnE:=Yw1 lo::fs65 lo
theorem Yw2(h:GZ P fm fs65 lo)(hG: ∀f,fm f=271->YC2 P f=true/\ ∃ρ:Go.Shelf.Ren,Go.Proofs.Lays.n190 P ρ/\ρ.f 190=f):GZ P fm fs66 lo:=
  ⟨h.1,h.2,Yto h.S rfl (F0:=q64 lo) (YH5 ..) hG⟩
def q66_L3_b:VCode:=
 (Rg [oR 46 .lss 45 44]
 (.seq (Ce 46 2)
 (.seq (.blk 3 (Rg [oI 47 1 43 45,oL 48 47,oM 13 48]
 (.reg [oM 49 11,oL 50 7,oM 51 13,o 52 (.mget none (.l Zc10) (cs []) false false 50 51),o 53 (.bsl (cs [.l Zc10]) 1 [(0,52)]),o 54 (.app (cs [.l Zc10]) 0 49 53),oM 11 54])))
 (.reg [oR 55 .add 45 (k 1),oM 45 55]))))
def YmF(lo:Lo):Zp56->Option (Zp56⊕ (((List (Zt4))))):=fun x=>match x with
  | (v44,v45,out11,v43,h3_0,h3_1,h3_2)=>bif(decide (v45<v44))then(chk (0<=v45/\v45< (v43.length:Int)) (chk (out11.length+([(mgt eqS (v43.getD v45.toNat (YIU #[])) h3_1 [])]).length<=maxEl) (some (.inl (v44,(YIV .i64 (v45+1)),(out11++([(mgt eqS (v43.getD v45.toNat (YIU #[])) h3_1 [])])),v43,h3_0,h3_1,h3_2)))))else(some (.inr out11))
def YmG(lo:Lo):Zp56->Option (((List (Zt4)))):=lo.run (YmF lo)
def Yw3(lo:Lo):LpE:=⟨3,[(11,none,false)],(Zsg [7,11,43,44,45] [.ptr 0 0 0,.ref 1,.ref 2,.j,.j] [.st [.np 3],.sq (cs [.l Zc10]),.sq (cs [.s]),.st [.j,.l Zc18,.b]]),[⟨.exit 2,(Zsg [11] [.ref 0] [.sq (cs [.l Zc10])])⟩],YmG lo⟩
def YmH(lo:Lo):LL:=(Yw3 lo,.loop q66_L3_b.er)::[]
theorem Yw4(lo:Lo):Lk lo pf (fs66 lo) 0 (YmH lo):=.l .n (YmF lo)
def YmI:VCode:=
 (.reg [oL 31 7,o 32 (.mrng 31)])
def YmJ:VCode:=
 (.blk 1 (Rg [o 35 (.ment none (.l Zc10) (cs []) false 32),oE 36 35 0,oM 10 36]
 (.reg [oM 37 9,oM 38 10,o 39 (.bsl (cs [.s]) 1 [(0,38)]),o 40 (.app (cs [.s]) 0 37 39),oM 9 40])))
def YmK:VCode:=
 (Rg [oM 41 9,oC 42 271 [41]]
 (Rg [o 11 (.mv (ke (cs [.l Zc10])))]
 (.seq (Rg [oM 43 9,oN 44 43,oK 45 0]
 (.blk 2 (.loop 3 q66_L3_b)))
 (Rg [oM 56 11,oM 4 56,oK 5 0]
 (.fz [4,5] .ret)))))
def q66_J18_b:VCode:=.seq (.seq YmI (.blk 0 (.loop 12 (Rg [o 33 (.mnxt 32),oE 34 33 0] (YEC 34 0 YmJ))))) YmK
def Yw5:Sg:=(Zsg [7,9,32] [.ptr 0 0 0,.ref 1,.np 2] [.st [.np 3],.sq (cs [.s]),.st [.np 3,.j,.j,.l (cs [I]),.b],.st [.j,.l Zc18,.b]])
def YmL(lo:Lo):(Zt3×Int×Zt9×Bool)->Option (Zt3×Int×Int× (List Int)×Bool×Int×Zt9×Bool):=fun x=>match x with
  | (keys9,h2_0,h2_1,h2_2)=>some (keys9,h2_0,h2_0,([]:List Int),false,h2_0,h2_1,h2_2)
def Yek:Zp51->ItP:=fun x=>match x with
  | (keys9,v32_0,v32_1,v32_2,v32_3,h3_0,h3_1,h3_2)=>(h3_1.map (fun e=>e.1),v32_2,h3_0,v32_0,v32_1)
def YcW(lo:Lo):Zp51->Int->Option (Zt3×Int×Int× (List Int)×Bool×Int×Zt9×Bool):=fun x b=>match x with
  | (keys9,v32_0,v32_1,v32_2,v32_3,h3_0,h3_1,h3_2)=>chk (v32_1=h3_0) (YIC (addI v32_2 b).getLast? fun y165=>YIC (mbf y165 h3_1) fun y166=>chk (keys9.length+[y166.1].length<=maxEl) (some ((keys9++[y166.1]),v32_0,v32_1,(addI v32_2 b),v32_3,h3_0,h3_1,h3_2)))
def Yb7(lo:Lo):Zp51->Option (((List (Zt4))×Int)):=fun x=>match x with
  | (keys9,v32_0,v32_1,v32_2,v32_3,h3_0,h3_1,h3_2)=>YIC (q65 lo keys9) fun y226=>chk (y226.length=keys9.length) (YIC (YmG lo ((y226.length:Int),(0:Int),[],y226,h3_0,h3_1,h3_2)) fun y227=>some (y227,(0:Int)))
noncomputable def Yel(lo:Lo):(Zt3×Int×Zt9×Bool)->Option (((List (Zt4))×Int)):=fun x=>YIC (YmL lo x) (rngF Yek (YcW lo) (Yb7 lo))
noncomputable def Yem(lo:Lo):LpE:=⟨18,[(9,none,false)],(Zsg [7,9] [.ptr 0 0 0,.ref 1] [.st [.np 2],.sq (cs [.s]),.st [.j,.l Zc18,.b]]),[⟨.ret,(Zsg [4,5] [.l (cs [.l Zc10]),.j] [])⟩],Yel lo⟩
noncomputable def Yw6(lo:Lo):LL:=(Yem lo,q66_J18_b.er)::YmH lo
theorem Yw7(lo:Lo):Lk lo pf (fs66 lo) 0 (Yw6 lo):=
  .m (Yw4 lo) (it:=32) (nx:=33) (mo:=34) (out:=0) (own:=(Yem lo).own) (g0:=(Yem lo).g) (outs:=(Yem lo).outs) (g:=Yw5) (pre:=YmI) (bb:=YmJ) (rest:=YmK) (p:=Yek) (t:=YcW lo) (r:=Yb7 lo) (u:=YmL lo) (by kernel_rfl) (fun x=>by kernel_rfl) (fun x b=>by kernel_rfl) (fun x=>by kernel_rfl) (fun x=>by kernel_rfl) rfl
noncomputable def q66(lo:Lo)(db0:List (ByteArray×Zt3×Zt12))(q1_0:List ByteArray)(q1_1:List (ByteArray×Zt5)):Option ((List (Zt4))×Int):=
  YIC (q40 lo db0 q1_0 q1_1) fun y105=>bif(!decide (y105=0))then(some (([]:List (Zt4)),y105))else(YIC (q41 lo db0 q1_0 q1_1) fun y108=>YIC (q50 lo (0:Int) y108.1 y108.2.1 y108.2.2.1 y108.2.2.2.1 y108.2.2.2.2.1 y108.2.2.2.2.2.1 y108.2.2.2.2.2.2.1 y108.2.2.2.2.2.2.2 (0:Int) ([]:List (Int×ByteArray×Zt4)) false) fun y163=>chk (y163.2.2.2.1.length=y108.2.2.1.length) (bif(!y163.1)then(some (([]:List (Zt4)),(3:Int)))else(YIC (Yel lo ([],y163.2.2.2.2.2.2.2.2.1,y163.2.2.2.2.2.2.2.2.2.1,y163.2.2.2.2.2.2.2.2.2.2.1)) fun y228=>some (y228.1,y228.2))))
def Yw8:VFn:=⟨true,57,[.t 4,.t 5],
 (Rg [oG 2 0,oG 3 1,o 4 (.mv (ke (cs [.l Zc10]))),oK 5 0]
 (.seq (Rg [oT 14 1 2,oT 15 2 3,oC 16 472 [14,15],oM 6 16]
 (Rg [oM 17 6,oR 18 .neq 17 (k 0)]
 (.cond 18 (Rg [oM 19 6,o 4 (.mv (ke (cs [.l Zc10]))),oM 5 19]
 (.fz [4,5] .ret))
 .skip)))
 (Rg [o 20 (.mkm none (.l Zc10) (cs []) false),o 7 (.alloc [.v (.map none)]),oS 1 7 20]
 (Rg [oT 21 1 2,oT 22 2 3,oC 23 512 [21,22],o 8 (.alloc [.nl]),oS 1 8 23]
 (Rg [oL 24 8,o 25 (.mkf 513 [8,7]),o 26 (.nilc 24),oF 27 5 26,oS 1 27 25]
 (.seq (Rg [oL 28 8,oC 29 515 [28,(k 0)],oX 30 29]
 (.cond 30 (Rg [o 4 (.mv (ke (cs [.l Zc10]))),oK 5 3]
 (.fz [4,5] .ret))
 .skip))
 (Rg [o 9 (.mv (ke (cs [.s])))]
 (.jn 18 q66_J18_b))))))))⟩
noncomputable def YmM(lo:Lo):FnE:=Zfe 476 true (Zsg [0,1] [.ag [.l Zc6],.ag [.l (cs [.s]),.l Zc7]] []) (.tp [.l (cs [.l Zc10]),.j]) [] (fun x=>q66 lo x.1 x.2.1 x.2.2:Zt1×Zt3×Zt0->Option ((List (Zt4))×Int))
noncomputable def fs67(lo:Lo):List FnE:=YmM lo::fs66 lo
theorem Yw9(h:GZ P fm fs66 lo)(t:Ti P fm 476 Yw8):GZ P fm fs67 lo:=
  h.p (YmM lo) (Yw7 lo) t
def q67_L3_b:VCode:=
 (Rg [oR 31 .lss 30 29]
 (.seq (Ce 31 0)
 (.seq (.blk 1 (Rg [oM 32 30,oI 33 1 28 30,oL 34 33,oM 10 32,oM 11 34]
 (.reg [oM 35 9,o 36 (.nilc 35),oF 37 3 36,oL 38 37,oM 39 11,oM 40 2,oM 41 10,oI 42 3 40 41,oT 43 3 42,on (.mput none I (cs [I,.s]) true 38 39 43)])))
 (.reg [oR 44 .add 30 (k 1),oM 30 44]))))
def YmN(lo:Lo):Zp41->Option (Zp41⊕ ((Zt3×Zt0×Zt1×Int×Zt2×Bool×Bool× (List Int)))):=fun x=>match x with
  | (answer2,v28,v29,v30,m9_0,m9_1,h1,h2_0,h2_1,h2_2,h2_3,h3)=>bif(decide (v30<v29))then(chk (0<=v30/\v30< (v28.length:Int)) (chk (0<=v30/\v30< (answer2.length:Int)) (some (.inl (answer2,v28,v29,(YIV .i64 (v30+1)),m9_0,m9_1,h1,(mck eqS h2_0 (v28.getD v30.toNat (YIU #[])) h2_1),(mpt eqS h2_0 (v28.getD v30.toNat (YIU #[])) (answer2.getD v30.toNat Zd1) h2_1),h2_2,h2_3,h3)))))else(some (.inr (m9_0,m9_1,h1,h2_0,h2_1,h2_2,h2_3,h3)))
def YmO(lo:Lo):Zp41->Option ((Zt3×Zt0×Zt1×Int×Zt2×Bool×Bool× (List Int))):=lo.run (YmN lo)
def Yxa(lo:Lo):LpE:=⟨3,[(9,some 2,false),(9,some 4,false)],(Zsg [2,9,28,29,30] [.l Zc10,.ptr 0 0 0,.l (cs [.s]),.j,.j] [.st [.l (cs [.s]),.l Zc7,.ref 1,.np 2,.ref 3,.u],.sq Zc6,.st [.j,.l Zc14,.b,.b],.sq (cs [I])]),[⟨.exit 0,(Zsg [9] [.ptr 0 0 0] [.st [.l (cs [.s]),.l Zc7,.ref 1,.np 2,.ref 3,.u],.sq Zc6,.st [.j,.l Zc14,.b,.b],.sq (cs [I])])⟩],YmO lo⟩
def Yxb(lo:Lo):LL:=(Yxa lo,.loop q67_L3_b.er)::[]
theorem Yxc(lo:Lo):Lk lo pf (fs67 lo) 0 (Yxb lo):=.l .n (YmN lo)
def q67(lo:Lo)(db0:List (ByteArray×Zt3×Zt12))(q1_0:List ByteArray)(q1_1:List (ByteArray×Zt5))(answer2:List (Int×Int×ByteArray)):Option Int:=
  YIC (q40 lo db0 q1_0 q1_1) fun y234=>bif(!decide (y234=0))then(some y234)else(bif(!decide ((answer2.length:Int)=(q1_0.length:Int)))then(some (6:Int))else(YIC (q41 lo db0 q1_0 q1_1) fun y235=>YIC (YmO lo (answer2,q1_0,(q1_0.length:Int),(0:Int),y235.1,y235.2.1,y235.2.2.1,y235.2.2.2.1,y235.2.2.2.2.1,y235.2.2.2.2.2.1,y235.2.2.2.2.2.2.1,y235.2.2.2.2.2.2.2)) fun y236=>none))
def Yxd:VFn:=⟨true,46,[.t 6,.t 7],
 (Rg [oG 3 0,oG 4 1,o 6 (.mv (.c (.one .nl))),oK 7 0]
 (.seq (Rg [oT 12 1 3,oT 13 2 4,oC 14 472 [12,13],oM 8 14]
 (Rg [oM 15 8,oR 16 .neq 15 (k 0)]
 (.cond 16 (Rg [oM 17 8,o 6 (.mv (.c (.one .nl))),oM 7 17]
 (.fz [6] (.ow [(6,some 4,false),(6,some 2,false)] .ret)))
 .skip)))
 (.seq (Rg [oM 18 2,oN 19 18,oF 20 0 4,oL 21 20,oN 22 21,oR 23 .neq 19 22]
 (.cond 23 (Rg [o 6 (.mv (.c (.one .nl))),oK 7 6]
 (.fz [6] (.ow [(6,some 4,false),(6,some 2,false)] .ret)))
 .skip))
 (Rg [oT 24 1 3,oT 25 2 4,oC 26 512 [24,25],oM 9 26]
 (.seq (Rg [oF 27 0 4,oL 28 27,oN 29 28,oK 30 0]
 (.blk 0 (.loop 3 q67_L3_b)))
 (Rg [oM 45 9,oM 6 45,oK 7 0]
 (.fz [6] (.ow [(6,some 4,false),(6,some 2,false)] .ret))))))))⟩
def YmP(lo:Lo):FnE:=Zfe 532 false (Zsg [0,1,2] [.ag [.l Zc6],.ag [.l (cs [.s]),.l Zc7],.l Zc10] []) (.tp [.nl,.j]) [] (fun x=>q67 lo x.1 x.2.1 x.2.2.1 x.2.2.2:Zt1×Zt3×Zt0×Zt4->Option Int)
noncomputable def fs68(lo:Lo):List FnE:=YmP lo::fs67 lo
theorem Yxe(h:GZ P fm fs67 lo)(t:Ti P fm 532 Yxd):GZ P fm fs68 lo:=
  h.i (YmP lo) (Yxc lo) t
def q68_L3_b:VCode:=
 (Rg [oR 31 .lss 30 29]
 (.seq (Ce 31 0)
 (.seq (.blk 1 (Rg [oM 32 30,oI 33 1 28 30,oL 34 33,oM 10 32,oM 11 34]
 (.reg [oM 35 9,o 36 (.nilc 35),oF 37 3 36,oL 38 37,oM 39 11,oM 40 2,oM 41 10,oI 42 3 40 41,oT 43 3 42,on (.mput none I (cs [I,.s]) true 38 39 43)])))
 (.reg [oR 44 .add 30 (k 1),oM 30 44]))))
def Yen(lo:Lo):Zp41->Option (Zp41⊕ ((Zt3×Zt0×Zt1×Int×Zt2×Bool×Bool× (List Int)))):=fun x=>match x with
  | (answer2,v28,v29,v30,m9_0,m9_1,h1,h2_0,h2_1,h2_2,h2_3,h3)=>bif(decide (v30<v29))then(chk (0<=v30/\v30< (v28.length:Int)) (chk (0<=v30/\v30< (answer2.length:Int)) (some (.inl (answer2,v28,v29,(YIV .i64 (v30+1)),m9_0,m9_1,h1,(mck eqS h2_0 (v28.getD v30.toNat (YIU #[])) h2_1),(mpt eqS h2_0 (v28.getD v30.toNat (YIU #[])) (answer2.getD v30.toNat Zd1) h2_1),h2_2,h2_3,h3)))))else(some (.inr (m9_0,m9_1,h1,h2_0,h2_1,h2_2,h2_3,h3)))
def YgH(lo:Lo):Zp41->Option ((Zt3×Zt0×Zt1×Int×Zt2×Bool×Bool× (List Int))):=lo.run (Yen lo)
def Yxf(lo:Lo):LpE:=⟨3,[(9,some 2,false),(9,some 4,false)],(Zsg [2,9,28,29,30] [.l Zc10,.ptr 0 0 0,.l (cs [.s]),.j,.j] [.st [.l (cs [.s]),.l Zc7,.ref 1,.np 2,.ref 3,.u],.sq Zc6,.st [.j,.l Zc14,.b,.b],.sq (cs [I])]),[⟨.exit 0,(Zsg [9] [.ptr 0 0 0] [.st [.l (cs [.s]),.l Zc7,.ref 1,.np 2,.ref 3,.u],.sq Zc6,.st [.j,.l Zc14,.b,.b],.sq (cs [I])])⟩],YgH lo⟩
def Yxg(lo:Lo):LL:=(Yxf lo,.loop q68_L3_b.er)::[]
theorem Yxh(lo:Lo):Lk lo pf (fs68 lo) 0 (Yxg lo):=.l .n (Yen lo)
def q68(lo:Lo)(db0:List (ByteArray×Zt3×Zt12))(q1_0:List ByteArray)(q1_1:List (ByteArray×Zt5))(answer2:List (Int×Int×ByteArray)):Option Zp49:=
  YIC (q40 lo db0 q1_0 q1_1) fun y237=>bif(!decide (y237=0))then(none)else(bif(!decide ((answer2.length:Int)=(q1_0.length:Int)))then(none)else(YIC (q41 lo db0 q1_0 q1_1) fun y238=>YIC (YgH lo (answer2,q1_0,(q1_0.length:Int),(0:Int),y238.1,y238.2.1,y238.2.2.1,y238.2.2.2.1,y238.2.2.2.2.1,y238.2.2.2.2.2.1,y238.2.2.2.2.2.2.1,y238.2.2.2.2.2.2.2)) fun y239=>some ((0:Int),y239.1,y239.2.1,y239.2.2.1,y239.2.2.2.1,y239.2.2.2.2.1,y239.2.2.2.2.2.1,y239.2.2.2.2.2.2.1,y239.2.2.2.2.2.2.2)))
def Yxi:VFn:=⟨true,46,[.t 6,.t 7],
 (Rg [oG 3 0,oG 4 1,o 6 (.mv (.c (.one .nl))),oK 7 0]
 (.seq (Rg [oT 12 1 3,oT 13 2 4,oC 14 472 [12,13],oM 8 14]
 (Rg [oM 15 8,oR 16 .neq 15 (k 0)]
 (.cond 16 (Rg [oM 17 8,o 6 (.mv (.c (.one .nl))),oM 7 17]
 (.ow [(6,some 4,false),(6,some 2,false)] .ret))
 .skip)))
 (.seq (Rg [oM 18 2,oN 19 18,oF 20 0 4,oL 21 20,oN 22 21,oR 23 .neq 19 22]
 (.cond 23 (Rg [o 6 (.mv (.c (.one .nl))),oK 7 6]
 (.ow [(6,some 4,false),(6,some 2,false)] .ret))
 .skip))
 (Rg [oT 24 1 3,oT 25 2 4,oC 26 512 [24,25],oM 9 26]
 (.seq (Rg [oF 27 0 4,oL 28 27,oN 29 28,oK 30 0]
 (.blk 0 (.loop 3 q68_L3_b)))
 (Rg [oM 45 9,oM 6 45,oK 7 0]
 (.ow [(6,some 4,false),(6,some 2,false)] .ret)))))))⟩
def YmQ(lo:Lo):FnE:=Zfe 532 false (Zsg [0,1,2] [.ag [.l Zc6],.ag [.l (cs [.s]),.l Zc7],.l Zc10] []) (.tp [.ptr 0 0 0,.j]) [.st [.l (cs [.s]),.l Zc7,.ref 1,.np 2,.ref 3,.u],.sq Zc6,.st [.j,.l Zc14,.b,.b],.sq (cs [I])] (fun x=>q68 lo x.1 x.2.1 x.2.2.1 x.2.2.2:Zt1×Zt3×Zt0×Zt4->Option Zp49)
noncomputable def fs69(lo:Lo):List FnE:=YmQ lo::fs68 lo
theorem Yxj(h:GZ P fm fs68 lo)(t:Ti P fm 532 Yxi):GZ P fm fs69 lo:=
  h.i (YmQ lo) (Yxh lo) t
def q69(lo:Lo)(l:List Int):Option (List Int):=bif YIs l.length maxEl&&YIs 1 1 then some l else none
def Yxk(lo:Lo):FnE:=vcloneE 245 (cs [I])
noncomputable def fs70(lo:Lo):List FnE:=Yxk lo::fs69 lo
theorem Yxl(h:GZ P fm fs69 lo)(htie: ∀f,fm f=245->fnTr P fm pf f=some (8,[.t 2],YDr 1 [(.int .i64 0)])):GZ P fm fs70 lo:=
  ⟨h.1,h.2,Ygf h.S h.mx (cs [I]) rfl [(.int .i64 0)] 8 (by decide) htie⟩
def q70(lo:Lo)(h2:List ((List Int)))(h3_0:List ByteArray)(h3_1:List (ByteArray×Zt5))(h4:List (ByteArray×Zt3×Zt12))(h5_0:Int)(h5_1:List (Int×ByteArray×Int×Int×ByteArray))(h5_2:Bool)(h5_3:Bool)(h6:List Int):Option (Bool×Zt3×Zt0×Zt1×Int×Zt2×Bool×Bool× (List Int)×Zt13):=
  YIC (q69 lo h6) fun y241=>chk (h2.length+[y241].length<=maxEl) (some ((decide (((h2++[y241]).length:Int)<=(1000:Int))),h3_0,h3_1,h4,h5_0,h5_1,h5_2,h5_3,h6,(h2++[y241])))
def Yxm:VFn:=⟨true,14,[.t 2],
 (Rg [oB 2 false]
 (Rg [⟨some 3,.load false 1 0,none,true,false⟩,oL 4 1,o 5 (.nilc 4),oF 6 4 5,oL 7 6,o 8 (.callN 245 [7] true),o 9 (.bsl Zc16 1 [(0,8)]),o 10 (.app Zc16 0 3 9),oS 1 0 10]
 (Rg [oL 11 0,oN 12 11,oR 13 .leq 12 (k 1000),oM 2 13]
 .ret)))⟩
def YmR(lo:Lo):FnE:=Zfe 534 false (Zsg [0,1] [.ptr 0 0 0,.ptr 1 0 0] [.st [.ref 2],.st [.ptr 3 0 0],.sq Zc16,.st [.l (cs [.s]),.l Zc7,.ref 4,.np 5,.ref 6,.clo 534 [.ptr 0 0 0,.ptr 1 0 0]],.sq Zc6,.st [.j,.l Zc14,.b,.b],.sq (cs [I])]) .b [.st [.ref 7],.st [.ptr 3 0 0],.dd,.st [.l (cs [.s]),.l Zc7,.ref 4,.np 5,.ref 6,.clo 534 [.ptr 0 0 0,.ptr 1 0 0]],.sq Zc6,.st [.j,.l Zc14,.b,.b],.sq (cs [I]),.sq Zc16] (fun x=>q70 lo x.1 x.2.1 x.2.2.1 x.2.2.2.1 x.2.2.2.2.1 x.2.2.2.2.2.1 x.2.2.2.2.2.2.1 x.2.2.2.2.2.2.2.1 x.2.2.2.2.2.2.2.2:Zt13×Zt3×Zt0×Zt1×Int×Zt2×Bool×Bool× (List Int)->Option (Bool×Zt3×Zt0×Zt1×Int×Zt2×Bool×Bool× (List Int)×Zt13))
noncomputable def fs71(lo:Lo):List FnE:=YmR lo::fs70 lo
theorem Yxn(h:GZ P fm fs70 lo)(t:Ti P fm 534 Yxm):GZ P fm fs71 lo:=
  h.i (YmR lo) .n t
end Go.Abs.G47
namespace Go.Abs.G47
open Go Go.Abs
set_option maxRecDepth 100000
set_option maxHeartbeats 1000000
variable{P:Program}{fm:FM}{lo:Lo}
def q71_J13_b:VCode:=
 (Rg [oM 36 12,oX 37 36]
 (.cond 37 (Rg [oM 38 0,o 39 (.nilc 38),oF 40 3 39,oL 41 40,oF 42 0 10,oL 43 42,oF 44 1 5,oL 45 44,oM 46 9,oI 47 3 45 46,oT 48 3 47,on (.mput none I (cs [I,.s]) true 41 43 48)]
 (.reg [oM 49 8,oF 50 0 10,oL 51 50,o 52 (.bsl (cs [.s]) 1 [(0,51)]),o 53 (.app (cs [.s]) 0 49 52),oM 8 53]))
 (Rg [oT 54 3 11,oF 55 1 5,oL 56 55,oM 57 9,oI 58 3 56 57,oT 59 3 58,o 60 (.eqa true [1,1,2] 54 59)]
 (.cond 60 (Rg [oM 61 8,oM 6 61,oB 7 false]
 (.ow [(0,some 4,false),(0,some 2,false)] .ret))
 .skip))))
def Yeo(lo:Lo):Int×Bool×Zt5×Int×Int×Zt3×Zt0×Zt1×Int×Zt2×Bool×Bool× (List Int)×Zt13×Int×Zt4×Zt3×ByteArray×Int×Int×ByteArray×Int×Int×ByteArray->Option (Zp34⊕ (Bool×Zt3×Zt0×Zt1×Int×Zt2×Bool×Bool× (List Int)×Zt13×Zt3)):=fun x=>match x with
  | (i9,known12,v14,v15,v16,m0_0,m0_1,h1,h2_0,h2_1,h2_2,h2_3,h3,h6,r5_0,r5_1,fresh8,t10_0,t10_1,t10_2,t10_3,v11_0,v11_1,v11_2)=>bif(!known12)then(chk (0<=i9/\i9< (r5_1.length:Int)) (chk (fresh8.length+[t10_0].length<=maxEl) (some (.inl (v14,v15,v16,m0_0,m0_1,h1,(mck eqS h2_0 t10_0 h2_1),(mpt eqS h2_0 t10_0 (r5_1.getD i9.toNat Zd1) h2_1),h2_2,h2_3,h3,h6,r5_0,r5_1,(fresh8++[t10_0]))))))else(chk (0<=i9/\i9< (r5_1.length:Int)) (bif(!((decide (v11_0=(r5_1.getD i9.toNat Zd1).1))&& ((decide (v11_1=(r5_1.getD i9.toNat Zd1).2.1))&& ((decide (v11_2=(r5_1.getD i9.toNat Zd1).2.2))&&true))))then(some (.inr (false,m0_0,m0_1,h1,h2_0,h2_1,h2_2,h2_3,h3,h6,fresh8)))else(some (.inl (v14,v15,v16,m0_0,m0_1,h1,h2_0,h2_1,h2_2,h2_3,h3,h6,r5_0,r5_1,fresh8)))))
def Yxo(lo:Lo):LpE:=⟨13,[(0,some 2,false),(0,some 4,false)],(Zsg [0,5,8,9,10,11,12,14,15,16] [.ptr 0 0 0,.ptr 7 0 0,.ref 8,.j,.ptr 9 0 0,.ptr 10 0 0,.b,.l Zc11,.j,.j] [.st [.l (cs [.s]),.l Zc7,.ref 1,.np 2,.ref 3,.clo 534 [.ptr 4 0 0,.ptr 5 0 0]],.sq Zc6,.st [.j,.l Zc14,.b,.b],.sq (cs [I]),.st [.ref 6],.st [.ptr 0 0 0],.sq Zc16,.st [.j,.l Zc10],.sq (cs [.s]),.st [.s,.j,.j,.s],.st [.j,.j,.s]]),[⟨.nor,(Zsg [0,5,8,14,15,16] [.ptr 0 0 0,.ptr 7 0 0,.ref 8,.l Zc11,.j,.j] [.st [.l (cs [.s]),.l Zc7,.ref 1,.np 2,.ref 3,.clo 534 [.ptr 4 0 0,.ptr 5 0 0]],.sq Zc6,.st [.j,.l Zc14,.b,.b],.sq (cs [I]),.st [.ref 6],.st [.ptr 0 0 0],.sq Zc16,.st [.j,.l Zc10],.sq (cs [.s])])⟩,⟨.ret,(Zsg [6,7,0] [.ref 7,.b,.ptr 0 0 0] [.st [.l (cs [.s]),.l Zc7,.ref 1,.np 2,.ref 3,.clo 534 [.ptr 4 0 0,.ptr 5 0 0]],.sq Zc6,.st [.j,.l Zc14,.b,.b],.sq (cs [I]),.st [.ref 6],.st [.ptr 0 0 0],.sq Zc16,.sq (cs [.s])])⟩],Yeo lo⟩
def YmS(lo:Lo):LL:=(Yxo lo,q71_J13_b.er)::[]
theorem Yxp(lo:Lo):Lk lo pf (fs71 lo) 7 (YmS lo):=.j .n
def q71_L3_b:VCode:=
 (Rg [oR 17 .lss 16 15]
 (.seq (Ce 17 0)
 (.seq (.blk 1 (Rg [oM 18 16,oI 19 4 14 16,oT 20 4 19,o 10 (.alloc [.s (⟨#[]⟩),.i .i64 0,.i .i64 0,.s (⟨#[]⟩)]),oM 9 18,oS 4 10 20]
 (Rg [oF 21 1 10,oT 22 3 21,o 11 (.alloc [.i .i64 0,.i .i64 0,.s (⟨#[]⟩)]),oS 3 11 22,oB 12 true]
 (.seq (Rg [oF 23 0 10,oL 24 23,oR 25 .neq 24 (ks (⟨#[]⟩))]
 (.cond 25 (.reg [oM 27 0,o 28 (.nilc 27),oF 29 3 28,oL 30 29,oF 31 0 10,oL 32 31,o 33 (.mget none I (cs [I,.s]) true true 30 32),oM 26 33,oE 34 26 0,oE 35 26 1,oS 3 11 34,oM 12 35])
 .skip))
 (.jn 13 q71_J13_b)))))
 (.reg [oR 62 .add 16 (k 1),oM 16 62]))))
def YcX(lo:Lo):Zp34->Option (Zp34⊕ ((Bool×Zt3×Zt0×Zt1×Int×Zt2×Bool×Bool× (List Int)×Zt13×Zt3)⊕ (Zt3×Zt0×Zt1×Int×Zt2×Bool×Bool× (List Int)×Zt13×Zt3))):=fun x=>match x with
  | (v14,v15,v16,m0_0,m0_1,h1,h2_0,h2_1,h2_2,h2_3,h3,h6,r5_0,r5_1,fresh8)=>bif(decide (v16<v15))then(chk (0<=v16/\v16< (v14.length:Int)) (bif(!decide ((v14.getD v16.toNat Zd0).1=(YIU #[])))then(YIC (Yeo lo (v16,(mhs eqS ((v14.getD v16.toNat Zd0).1) h2_1),v14,v15,v16,m0_0,m0_1,h1,h2_0,h2_1,h2_2,h2_3,h3,h6,r5_0,r5_1,fresh8,(v14.getD v16.toNat Zd0).1,(v14.getD v16.toNat Zd0).2.1,(v14.getD v16.toNat Zd0).2.2.1,(v14.getD v16.toNat Zd0).2.2.2,(mgt eqS ((v14.getD v16.toNat Zd0).1) h2_1 Zd1).1,(mgt eqS ((v14.getD v16.toNat Zd0).1) h2_1 Zd1).2.1,(mgt eqS ((v14.getD v16.toNat Zd0).1) h2_1 Zd1).2.2)) fun y243=>alt2 y243 (fun y244=>some (.inl (y244.1,y244.2.1,(YIV .i64 (y244.2.2.1+(1:Int))),y244.2.2.2.1,y244.2.2.2.2.1,y244.2.2.2.2.2.1,y244.2.2.2.2.2.2.1,y244.2.2.2.2.2.2.2.1,y244.2.2.2.2.2.2.2.2.1,y244.2.2.2.2.2.2.2.2.2.1,y244.2.2.2.2.2.2.2.2.2.2.1,y244.2.2.2.2.2.2.2.2.2.2.2.1,y244.2.2.2.2.2.2.2.2.2.2.2.2.1,y244.2.2.2.2.2.2.2.2.2.2.2.2.2.1,y244.2.2.2.2.2.2.2.2.2.2.2.2.2.2))) (fun y245=>some (.inr (.inl (y245.1,y245.2.1,y245.2.2.1,y245.2.2.2.1,y245.2.2.2.2.1,y245.2.2.2.2.2.1,y245.2.2.2.2.2.2.1,y245.2.2.2.2.2.2.2.1,y245.2.2.2.2.2.2.2.2.1,y245.2.2.2.2.2.2.2.2.2.1,y245.2.2.2.2.2.2.2.2.2.2)))))else(YIC (Yeo lo (v16,true,v14,v15,v16,m0_0,m0_1,h1,h2_0,h2_1,h2_2,h2_3,h3,h6,r5_0,r5_1,fresh8,(v14.getD v16.toNat Zd0).1,(v14.getD v16.toNat Zd0).2.1,(v14.getD v16.toNat Zd0).2.2.1,(v14.getD v16.toNat Zd0).2.2.2,(v14.getD v16.toNat Zd0).2.1,(v14.getD v16.toNat Zd0).2.2.1,(v14.getD v16.toNat Zd0).2.2.2)) fun y246=>alt2 y246 (fun y247=>some (.inl (y247.1,y247.2.1,(YIV .i64 (y247.2.2.1+(1:Int))),y247.2.2.2.1,y247.2.2.2.2.1,y247.2.2.2.2.2.1,y247.2.2.2.2.2.2.1,y247.2.2.2.2.2.2.2.1,y247.2.2.2.2.2.2.2.2.1,y247.2.2.2.2.2.2.2.2.2.1,y247.2.2.2.2.2.2.2.2.2.2.1,y247.2.2.2.2.2.2.2.2.2.2.2.1,y247.2.2.2.2.2.2.2.2.2.2.2.2.1,y247.2.2.2.2.2.2.2.2.2.2.2.2.2.1,y247.2.2.2.2.2.2.2.2.2.2.2.2.2.2))) (fun y248=>some (.inr (.inl (y248.1,y248.2.1,y248.2.2.1,y248.2.2.2.1,y248.2.2.2.2.1,y248.2.2.2.2.2.1,y248.2.2.2.2.2.2.1,y248.2.2.2.2.2.2.2.1,y248.2.2.2.2.2.2.2.2.1,y248.2.2.2.2.2.2.2.2.2.1,y248.2.2.2.2.2.2.2.2.2.2)))))))else(some (.inr (.inr (m0_0,m0_1,h1,h2_0,h2_1,h2_2,h2_3,h3,h6,fresh8))))
def YgI(lo:Lo):Zp34->Option ((Bool×Zt3×Zt0×Zt1×Int×Zt2×Bool×Bool× (List Int)×Zt13×Zt3)⊕ (Zt3×Zt0×Zt1×Int×Zt2×Bool×Bool× (List Int)×Zt13×Zt3)):=lo.run (YcX lo)
def Yxq(lo:Lo):LpE:=⟨3,[(0,some 2,false),(0,some 4,false),(8,none,false)],(Zsg [0,5,8,14,15,16] [.ptr 0 0 0,.ptr 7 0 0,.ref 8,.l Zc11,.j,.j] [.st [.l (cs [.s]),.l Zc7,.ref 1,.np 2,.ref 3,.clo 534 [.ptr 4 0 0,.ptr 5 0 0]],.sq Zc6,.st [.j,.l Zc14,.b,.b],.sq (cs [I]),.st [.ref 6],.st [.ptr 0 0 0],.sq Zc16,.st [.j,.l Zc10],.sq (cs [.s])]),[⟨.ret,(Zsg [6,7,0] [.ref 7,.b,.ptr 0 0 0] [.st [.l (cs [.s]),.l Zc7,.ref 1,.np 2,.ref 3,.clo 534 [.ptr 4 0 0,.ptr 5 0 0]],.sq Zc6,.st [.j,.l Zc14,.b,.b],.sq (cs [I]),.st [.ref 6],.st [.ptr 0 0 0],.sq Zc16,.sq (cs [.s])])⟩,⟨.exit 0,(Zsg [0,8] [.ptr 0 0 0,.ref 7] [.st [.l (cs [.s]),.l Zc7,.ref 1,.np 2,.ref 3,.clo 534 [.ptr 4 0 0,.ptr 5 0 0]],.sq Zc6,.st [.j,.l Zc14,.b,.b],.sq (cs [I]),.st [.ref 6],.st [.ptr 0 0 0],.sq Zc16,.sq (cs [.s])])⟩],YgI lo⟩
def Yxr(lo:Lo):LL:=(Yxq lo,.loop q71_L3_b.er)::YmS lo
theorem Yxs(lo:Lo):Lk lo pf (fs71 lo) 7 (Yxr lo):=.l (Yxp lo) (YcX lo)
def q71(lo:Lo)(a1_0:ByteArray)(a1_1:List Zp69)(r2_0:Int)(r2_1:List (Int×Int×ByteArray))(m0_0:List ByteArray)(m0_1:List (ByteArray×Zt5))(h1:List (ByteArray×Zt3×Zt12))(h2_0:Int)(h2_1:List (Int×ByteArray×Int×Int×ByteArray))(h2_2:Bool)(h2_3:Bool)(h3:List Int)(h6:List ((List Int))):Option (Bool×Zt3×Zt0×Zt1×Int×Zt2×Bool×Bool× (List Int)×Zt13×Zt3):=
  YIC (YgI lo (a1_1,(a1_1.length:Int),(0:Int),m0_0,m0_1,h1,h2_0,h2_1,h2_2,h2_3,h3,h6,r2_0,r2_1,[])) fun y249=>alt2 y249 (fun y250=>some (y250.1,y250.2.1,y250.2.2.1,y250.2.2.2.1,y250.2.2.2.2.1,y250.2.2.2.2.2.1,y250.2.2.2.2.2.2.1,y250.2.2.2.2.2.2.2.1,y250.2.2.2.2.2.2.2.2.1,y250.2.2.2.2.2.2.2.2.2.1,y250.2.2.2.2.2.2.2.2.2.2)) (fun y251=>some (true,y251.1,y251.2.1,y251.2.2.1,y251.2.2.2.1,y251.2.2.2.2.1,y251.2.2.2.2.2.1,y251.2.2.2.2.2.2.1,y251.2.2.2.2.2.2.2.1,y251.2.2.2.2.2.2.2.2.1,y251.2.2.2.2.2.2.2.2.2))
def Yxt:VFn:=⟨true,64,[.t 6,.t 7],
 (Rg [oG 4 1,oG 5 2,o 6 (.mv (ke (cs [.s]))),oB 7 false]
 (Rg [o 8 (.mv (ke (cs [.s])))]
 (.seq (Rg [oF 13 1 4,oL 14 13,oN 15 14,oK 16 0]
 (.blk 0 (.loop 3 q71_L3_b)))
 (Rg [oM 63 8,oM 6 63,oB 7 true]
 (.ow [(0,some 4,false),(0,some 2,false)] .ret)))))⟩
def YmT(lo:Lo):FnE:=Zfe 543 false (Zsg [0,1,2] [.ptr 0 0 0,.ag [.s,.l Zc11],.ag [.j,.l Zc10]] [.st [.l (cs [.s]),.l Zc7,.ref 1,.np 2,.ref 3,.clo 534 [.ptr 4 0 0,.ptr 5 0 0]],.sq Zc6,.st [.j,.l Zc14,.b,.b],.sq (cs [I]),.st [.ref 6],.st [.ptr 0 0 0],.sq Zc16]) (.tp [.ref 7,.b]) [.st [.l (cs [.s]),.l Zc7,.ref 1,.np 2,.ref 3,.clo 534 [.ptr 4 0 0,.ptr 5 0 0]],.sq Zc6,.st [.j,.l Zc14,.b,.b],.sq (cs [I]),.st [.ref 6],.st [.ptr 0 0 0],.sq Zc16,.sq (cs [.s])] (fun x=>q71 lo x.1 x.2.1 x.2.2.1 x.2.2.2.1 x.2.2.2.2.1 x.2.2.2.2.2.1 x.2.2.2.2.2.2.1 x.2.2.2.2.2.2.2.1 x.2.2.2.2.2.2.2.2.1 x.2.2.2.2.2.2.2.2.2.1 x.2.2.2.2.2.2.2.2.2.2.1 x.2.2.2.2.2.2.2.2.2.2.2.1 x.2.2.2.2.2.2.2.2.2.2.2.2:ByteArray×Zt5×Int×Zt4×Zt3×Zt0×Zt1×Int×Zt2×Bool×Bool× (List Int)×Zt13->Option (Bool×Zt3×Zt0×Zt1×Int×Zt2×Bool×Bool× (List Int)×Zt13×Zt3))
noncomputable def fs72(lo:Lo):List FnE:=YmT lo::fs71 lo
theorem Yxu(h:GZ P fm fs71 lo)(t:Ti P fm 543 Yxt):GZ P fm fs72 lo:=
  h.i (YmT lo) (Yxs lo) t
def YgJ(F:Zp46->Option (Bool×Zt3×Zt0×Zt1×Int×Zt2×Bool×Bool× (List Int)×Zt13)):FnE:=⟨515,false,(Zsg [0,1] [.ptr 0 0 0,.j] [.st [.l (cs [.s]),.l Zc7,.ref 1,.np 2,.ref 3,.clo 534 [.ptr 4 0 0,.ptr 5 0 0]],.sq Zc6,.st [.j,.l Zc14,.b,.b],.sq (cs [I]),.st [.ref 6],.st [.ptr 0 0 0],.sq Zc16]),.b,[.st [.l (cs [.s]),.l Zc7,.ref 1,.np 2,.ref 7,.clo 534 [.ptr 4 0 0,.ptr 5 0 0]],.sq Zc6,.st [.j,.l Zc14,.b,.b],.dd,.st [.ref 8],.st [.ptr 0 0 0],.dd,.sq (cs [I]),.sq Zc16],(cs [.b,.l (cs [.s]),.l Zc7,.l Zc6,I,.l Zc14,.b,.b,.l (cs [I]),.l Zc16]),F⟩
def q72_L8_b:VCode:=
 (Rg [oR 83 .lss 82 81]
 (.seq (Ce 83 2)
 (.seq (.blk 3 (Rg [oI 84 1 80 82,oL 85 84,oM 11 85]
 (.reg [oM 86 0,o 87 (.nilc 86),oF 88 3 87,oL 89 88,oM 90 11,on (.mdel none I (cs [I,.s]) 89 90)])))
 (.reg [oR 91 .add 82 (k 1),oM 82 91]))))
def Yep(lo:Lo)(rec:Zp46->Option (Bool×Zt3×Zt0×Zt1×Int×Zt2×Bool×Bool× (List Int)×Zt13)):Zp27->Option (Zp27⊕ ((Int×Bool×Zt12×Int×Int×Zt3×Zt0×Zt1×Int×Zt2×Bool×Bool× (List Int)×Zt13))):=fun x=>match x with
  | (i1,on9,v32,v33,v34,v81,v82,m0_0,m0_1,h1,h2_0,h2_1,h2_2,h2_3,v80,h8,h9)=>bif(decide (v82<v81))then(chk (0<=v82/\v82< (v80.length:Int)) (some (.inl (i1,on9,v32,v33,v34,v81,(YIV .i64 (v82+1)),m0_0,m0_1,h1,h2_0,(mdl eqS (v80.getD v82.toNat (YIU #[])) h2_1),h2_2,h2_3,v80,h8,h9))))else(some (.inr (i1,on9,v32,v33,v34,m0_0,m0_1,h1,h2_0,h2_1,h2_2,h2_3,h8,h9)))
def Yeq(lo:Lo)(rec:Zp46->Option (Bool×Zt3×Zt0×Zt1×Int×Zt2×Bool×Bool× (List Int)×Zt13)):Zp27->Option ((Int×Bool×Zt12×Int×Int×Zt3×Zt0×Zt1×Int×Zt2×Bool×Bool× (List Int)×Zt13)):=lo.run (Yep lo rec)
def Yxv(lo:Lo)(rec:Zp46->Option (Bool×Zt3×Zt0×Zt1×Int×Zt2×Bool×Bool× (List Int)×Zt13)):LpE:=⟨8,[(1000006,none,true),(0,some 2,false),(0,some 4,false)],(Zsg [0,1,9,32,33,34,80,81,82] [.ptr 0 0 0,.j,.b,.l Zc15,.j,.j,.ref 7,.j,.j] [.st [.l (cs [.s]),.l Zc7,.ref 1,.np 2,.ref 8,.clo 534 [.ptr 4 0 0,.ptr 5 0 0]],.sq Zc6,.st [.j,.l Zc14,.b,.b],.dd,.st [.ref 9],.st [.ptr 0 0 0],.dd,.sq (cs [.s]),.sq (cs [I]),.sq Zc16]),[⟨.exit 2,(Zsg [0,1,9,32,33,34] [.ptr 0 0 0,.j,.b,.l Zc15,.j,.j] [.st [.l (cs [.s]),.l Zc7,.ref 1,.np 2,.ref 7,.clo 534 [.ptr 4 0 0,.ptr 5 0 0]],.sq Zc6,.st [.j,.l Zc14,.b,.b],.dd,.st [.ref 8],.st [.ptr 0 0 0],.dd,.sq (cs [I]),.sq Zc16])⟩],Yeq lo rec⟩
def YmU(lo:Lo)(rec:Zp46->Option (Bool×Zt3×Zt0×Zt1×Int×Zt2×Bool×Bool× (List Int)×Zt13)):LL:=(Yxv lo rec,.loop q72_L8_b.er)::[]
theorem Yxw(lo:Lo)(rec:Zp46->Option (Bool×Zt3×Zt0×Zt1×Int×Zt2×Bool×Bool× (List Int)×Zt13)):Lk lo pf (YgJ rec::fs72 lo) 7 (YmU lo rec):=.l .n (Yep lo rec)
def q72_L3_b:VCode:=
 (Rg [oR 35 .lss 34 33]
 (.seq (Ce 35 0)
 (.seq (.blk 1 (Rg [oI 36 2 32 34,oT 37 2 36,o 6 (.alloc [.i .i64 0,.e Zc10]),oS 2 6 37]
 (Rg [oM 39 0,oM 40 0,o 41 (.nilc 40),oF 42 0 41,oF 43 1 42,oL 44 43,oM 45 1,oI 46 2 44 45,oT 47 2 46,oT 48 2 6,oC 49 543 [39,47,48],oM 38 49,oE 50 38 0,oE 51 38 1,oM 7 50,oM 8 51]
 (Rg [oM 52 0,oM 53 0,o 54 (.nilc 53),oF 55 4 54,oL 56 55,oF 57 0 6,oL 58 57,o 59 (.bsl (cs [I]) 1 [(0,58)]),o 60 (.app (cs [I]) 0 56 59),o 61 (.nilc 52),oF 62 4 61,oS 1 62 60]
 (Rg [oM 63 8,oX 64 63,oM 65 64,gF 66 65 (.mv 0),gF 67 65 (.mv 1),gF 68 65 (.bin .add 67 (k 1)),gF 69 65 (.call 515 [66,68]),oP 70 65 (kb true) 69,oM 9 70]
 (Rg [oM 71 0,oM 72 0,o 73 (.nilc 72),oF 74 4 73,oL 75 74,oM 76 1,o 77 (.slcR 1 75 none (some 76)),o 78 (.nilc 71),oF 79 4 78,oS 1 79 77]
 (.seq (Rg [oM 80 7,oN 81 80,oK 82 0]
 (.blk 2 (.loop 8 q72_L8_b)))
 (Rg [oM 92 9,oX 93 92]
 (.cond 93 (Rg [oB 4 false]
 (.ow [(1000003,none,true),(1000006,none,true),(0,some 4,false),(0,some 2,false)] .ret))
 .skip)))))))))
 (.reg [oR 94 .add 34 (k 1),oM 34 94]))))
def YbL(lo:Lo)(rec:Zp46->Option (Bool×Zt3×Zt0×Zt1×Int×Zt2×Bool×Bool× (List Int)×Zt13)):Zp37->Option (Zp37⊕ ((Bool×Zt3×Zt0×Zt1×Int×Zt2×Bool×Bool× (List Int)×Zt13)⊕ (Zt3×Zt0×Zt1×Int×Zt2×Bool×Bool× (List Int)×Zt13))):=fun x=>match x with
  | (i1,v32,v33,v34,m0_0,m0_1,h1,h2_0,h2_1,h2_2,h2_3,h7,h8)=>bif(decide (v34<v33))then(chk (0<=v34/\v34< (v32.length:Int)) (chk (0<=i1/\i1< (m0_1.length:Int)) (YIC (q71 lo ((m0_1.getD i1.toNat ((YIU #[]),[])).1) ((m0_1.getD i1.toNat ((YIU #[]),[])).2) ((v32.getD v34.toNat ((0:Int),[])).1) ((v32.getD v34.toNat ((0:Int),[])).2) m0_0 m0_1 h1 h2_0 h2_1 h2_2 h2_3 h7 h8) fun y286=>chk (y286.2.2.2.1.length=h1.length) (chk (y286.2.2.2.2.2.2.2.2.1.length=h7.length) (chk (y286.2.2.2.2.2.2.2.2.2.1.length=h8.length) (chk (y286.2.2.2.2.2.2.2.2.1.length+([(v32.getD v34.toNat ((0:Int),[])).1]).length<=maxEl) (bif(!y286.1)then(chk ((0:Int)=0/\0<=i1/\i1<=((y286.2.2.2.2.2.2.2.2.1++([(v32.getD v34.toNat ((0:Int),[])).1])).length:Int)) (YIC (Yeq lo rec (i1,true,v32,v33,v34,(y286.2.2.2.2.2.2.2.2.2.2.length:Int),(0:Int),y286.2.1,y286.2.2.1,y286.2.2.2.1,y286.2.2.2.2.1,y286.2.2.2.2.2.1,y286.2.2.2.2.2.2.1,y286.2.2.2.2.2.2.2.1,y286.2.2.2.2.2.2.2.2.2.2,((y286.2.2.2.2.2.2.2.2.1++([(v32.getD v34.toNat ((0:Int),[])).1])).take i1.toNat),y286.2.2.2.2.2.2.2.2.2.1)) fun y287=>bif(!y287.2.1)then(some (.inr (.inl (false,y287.2.2.2.2.2.1,y287.2.2.2.2.2.2.1,y287.2.2.2.2.2.2.2.1,y287.2.2.2.2.2.2.2.2.1,y287.2.2.2.2.2.2.2.2.2.1,y287.2.2.2.2.2.2.2.2.2.2.1,y287.2.2.2.2.2.2.2.2.2.2.2.1,y287.2.2.2.2.2.2.2.2.2.2.2.2.1,y287.2.2.2.2.2.2.2.2.2.2.2.2.2))))else(some (.inl (y287.1,y287.2.2.1,y287.2.2.2.1,(YIV .i64 (y287.2.2.2.2.1+(1:Int))),y287.2.2.2.2.2.1,y287.2.2.2.2.2.2.1,y287.2.2.2.2.2.2.2.1,y287.2.2.2.2.2.2.2.2.1,y287.2.2.2.2.2.2.2.2.2.1,y287.2.2.2.2.2.2.2.2.2.2.1,y287.2.2.2.2.2.2.2.2.2.2.2.1,y287.2.2.2.2.2.2.2.2.2.2.2.2.1,y287.2.2.2.2.2.2.2.2.2.2.2.2.2)))))else(YIC (rec ((YIV .i64 (i1+1)),y286.2.1,y286.2.2.1,y286.2.2.2.1,y286.2.2.2.2.1,y286.2.2.2.2.2.1,y286.2.2.2.2.2.2.1,y286.2.2.2.2.2.2.2.1,(y286.2.2.2.2.2.2.2.2.1++([(v32.getD v34.toNat ((0:Int),[])).1])),y286.2.2.2.2.2.2.2.2.2.1)) fun y288=>chk (y288.2.2.2.1.length=y286.2.2.2.1.length) (chk ((0:Int)=0/\0<=i1/\i1<=(y288.2.2.2.2.2.2.2.2.1.length:Int)) (YIC (Yeq lo rec (i1,y288.1,v32,v33,v34,(y286.2.2.2.2.2.2.2.2.2.2.length:Int),(0:Int),y288.2.1,y288.2.2.1,y288.2.2.2.1,y288.2.2.2.2.1,y288.2.2.2.2.2.1,y288.2.2.2.2.2.2.1,y288.2.2.2.2.2.2.2.1,y286.2.2.2.2.2.2.2.2.2.2,(y288.2.2.2.2.2.2.2.2.1.take i1.toNat),y288.2.2.2.2.2.2.2.2.2)) fun y289=>bif(!y289.2.1)then(some (.inr (.inl (false,y289.2.2.2.2.2.1,y289.2.2.2.2.2.2.1,y289.2.2.2.2.2.2.2.1,y289.2.2.2.2.2.2.2.2.1,y289.2.2.2.2.2.2.2.2.2.1,y289.2.2.2.2.2.2.2.2.2.2.1,y289.2.2.2.2.2.2.2.2.2.2.2.1,y289.2.2.2.2.2.2.2.2.2.2.2.2.1,y289.2.2.2.2.2.2.2.2.2.2.2.2.2))))else(some (.inl (y289.1,y289.2.2.1,y289.2.2.2.1,(YIV .i64 (y289.2.2.2.2.1+(1:Int))),y289.2.2.2.2.2.1,y289.2.2.2.2.2.2.1,y289.2.2.2.2.2.2.2.1,y289.2.2.2.2.2.2.2.2.1,y289.2.2.2.2.2.2.2.2.2.1,y289.2.2.2.2.2.2.2.2.2.2.1,y289.2.2.2.2.2.2.2.2.2.2.2.1,y289.2.2.2.2.2.2.2.2.2.2.2.2.1,y289.2.2.2.2.2.2.2.2.2.2.2.2.2)))))))))))))else(some (.inr (.inr (m0_0,m0_1,h1,h2_0,h2_1,h2_2,h2_3,h7,h8))))
def YcY(lo:Lo)(rec:Zp46->Option (Bool×Zt3×Zt0×Zt1×Int×Zt2×Bool×Bool× (List Int)×Zt13)):Zp37->Option ((Bool×Zt3×Zt0×Zt1×Int×Zt2×Bool×Bool× (List Int)×Zt13)⊕ (Zt3×Zt0×Zt1×Int×Zt2×Bool×Bool× (List Int)×Zt13)):=lo.run (YbL lo rec)
def Yxx(lo:Lo)(rec:Zp46->Option (Bool×Zt3×Zt0×Zt1×Int×Zt2×Bool×Bool× (List Int)×Zt13)):LpE:=⟨3,[(1000003,none,true),(1000006,none,true),(0,some 2,false),(0,some 4,false)],(Zsg [0,1,32,33,34] [.ptr 0 0 0,.j,.l Zc15,.j,.j] [.st [.l (cs [.s]),.l Zc7,.ref 1,.np 2,.ref 7,.clo 534 [.ptr 4 0 0,.ptr 5 0 0]],.sq Zc6,.st [.j,.l Zc14,.b,.b],.dd,.st [.ref 8],.st [.ptr 0 0 0],.dd,.sq (cs [I]),.sq Zc16]),[⟨.ret,(Zsg [4,0] [.b,.ptr 0 0 0] [.st [.l (cs [.s]),.l Zc7,.ref 1,.np 2,.ref 7,.clo 534 [.ptr 4 0 0,.ptr 5 0 0]],.sq Zc6,.st [.j,.l Zc14,.b,.b],.dd,.st [.ref 8],.st [.ptr 0 0 0],.dd,.sq (cs [I]),.sq Zc16])⟩,⟨.exit 0,(Zsg [0] [.ptr 0 0 0] [.st [.l (cs [.s]),.l Zc7,.ref 1,.np 2,.ref 7,.clo 534 [.ptr 4 0 0,.ptr 5 0 0]],.sq Zc6,.st [.j,.l Zc14,.b,.b],.dd,.st [.ref 8],.st [.ptr 0 0 0],.dd,.sq (cs [I]),.sq Zc16])⟩],YcY lo rec⟩
def YmV(lo:Lo)(rec:Zp46->Option (Bool×Zt3×Zt0×Zt1×Int×Zt2×Bool×Bool× (List Int)×Zt13)):LL:=(Yxx lo rec,.loop q72_L3_b.er)::YmU lo rec
theorem Yxy(lo:Lo)(rec:Zp46->Option (Bool×Zt3×Zt0×Zt1×Int×Zt2×Bool×Bool× (List Int)×Zt13)):Lk lo pf (YgJ rec::fs72 lo) 7 (YmV lo rec):=.l (Yxw lo rec) (YbL lo rec)
def Ybm(lo:Lo)(rec:Zp46->Option (Bool×Zt3×Zt0×Zt1×Int×Zt2×Bool×Bool× (List Int)×Zt13))(i1:Int)(m0_0:List ByteArray)(m0_1:List (ByteArray×Zt5))(h1:List (ByteArray×Zt3×Zt12))(h2_0:Int)(h2_1:List (Int×ByteArray×Int×Int×ByteArray))(h2_2:Bool)(h2_3:Bool)(h3:List Int)(h6:List ((List Int))):Option (Bool×Zt3×Zt0×Zt1×Int×Zt2×Bool×Bool× (List Int)×Zt13):=
  bif(decide (i1=(m0_1.length:Int)))then(YIC (q70 lo h6 m0_0 m0_1 h1 h2_0 h2_1 h2_2 h2_3 h3) fun y285=>chk (y285.2.2.2.1.length=h1.length) (chk (y285.2.2.2.2.2.2.2.2.1.length=h3.length) (some (y285.1,y285.2.1,y285.2.2.1,y285.2.2.2.1,y285.2.2.2.2.1,y285.2.2.2.2.2.1,y285.2.2.2.2.2.2.1,y285.2.2.2.2.2.2.2.1,y285.2.2.2.2.2.2.2.2.1,y285.2.2.2.2.2.2.2.2.2))))else(chk (0<=i1/\i1< (h1.length:Int)) (YIC (YcY lo rec (i1,(h1.getD i1.toNat ((YIU #[]),[],[])).2.2,(((h1.getD i1.toNat ((YIU #[]),[],[])).2.2).length:Int),(0:Int),m0_0,m0_1,h1,h2_0,h2_1,h2_2,h2_3,h3,h6)) fun y290=>alt2 y290 (fun y291=>some (y291.1,y291.2.1,y291.2.2.1,y291.2.2.2.1,y291.2.2.2.2.1,y291.2.2.2.2.2.1,y291.2.2.2.2.2.2.1,y291.2.2.2.2.2.2.2.1,y291.2.2.2.2.2.2.2.2.1,y291.2.2.2.2.2.2.2.2.2)) (fun y292=>some (true,y292.1,y292.2.1,y292.2.2.1,y292.2.2.2.1,y292.2.2.2.2.1,y292.2.2.2.2.2.1,y292.2.2.2.2.2.2.1,y292.2.2.2.2.2.2.2.1,y292.2.2.2.2.2.2.2.2))))
def YaQ(lo:Lo):Nat->Int×Zt3×Zt0×Zt1×Int×Zt2×Bool×Bool× (List Int)×Zt13->Option (Bool×Zt3×Zt0×Zt1×Int×Zt2×Bool×Bool× (List Int)×Zt13)
  |0,_=>none
  |n+1,x=>Ybm lo (YaQ lo n) x.1 x.2.1 x.2.2.1 x.2.2.2.1 x.2.2.2.2.1 x.2.2.2.2.2.1 x.2.2.2.2.2.2.1 x.2.2.2.2.2.2.2.1 x.2.2.2.2.2.2.2.2.1 x.2.2.2.2.2.2.2.2.2
def q72(lo:Lo)(i1:Int)(m0_0:List ByteArray)(m0_1:List (ByteArray×Zt5))(h1:List (ByteArray×Zt3×Zt12))(h2_0:Int)(h2_1:List (Int×ByteArray×Int×Int×ByteArray))(h2_2:Bool)(h2_3:Bool)(h3:List Int)(h6:List ((List Int))):Option (Bool×Zt3×Zt0×Zt1×Int×Zt2×Bool×Bool× (List Int)×Zt13):=lo.run (fixS (YaQ lo)) (0,(i1,m0_0,m0_1,h1,h2_0,h2_1,h2_2,h2_3,h3,h6))
def Yxz:VFn:=⟨true,95,[.t 4],
 (Rg [oB 4 false]
 (.seq (Rg [oM 12 1,oM 13 0,o 14 (.nilc 13),oF 15 0 14,oF 16 1 15,oL 17 16,oN 18 17,oR 19 .eql 12 18]
 (.cond 19 (Rg [oM 20 0,o 21 (.nilc 20),oF 22 5 21,oL 23 22,o 24 (.dyn 23 []),oM 4 24]
 (.ow [(1000003,none,true),(1000006,none,true),(0,some 4,false),(0,some 2,false)] .ret))
 .skip))
 (.seq (Rg [oM 25 0,o 26 (.nilc 25),oF 27 2 26,oL 28 27,oM 29 1,oI 30 3 28 29,oF 31 2 30,oL 32 31,oN 33 32,oK 34 0]
 (.blk 0 (.loop 3 q72_L3_b)))
 (Rg [oB 4 true]
 (.ow [(1000003,none,true),(1000006,none,true),(0,some 4,false),(0,some 2,false)] .ret)))))⟩
def YmW(lo:Lo):FnE:=YgJ (fun x=>q72 lo x.1 x.2.1 x.2.2.1 x.2.2.2.1 x.2.2.2.2.1 x.2.2.2.2.2.1 x.2.2.2.2.2.2.1 x.2.2.2.2.2.2.2.1 x.2.2.2.2.2.2.2.2.1 x.2.2.2.2.2.2.2.2.2)
noncomputable def fs73(lo:Lo):List FnE:=YmW lo::fs72 lo
theorem YxA(h:GZ P fm fs72 lo)(t:Ti P fm 515 Yxz):GZ P fm fs73 lo:=
  h.ir (YmW lo) (YaQ lo) (ls:=fun rec=>YmV lo rec) (fun rec=>(Yxy lo rec)) t (by kernel_rfl) (fun _=>rfl) rfl (fun _=>by kernel_rfl) fun n x=>by kernel_rfl
def q73(lo:Lo)(db0:List (ByteArray×Zt3×Zt12))(q1_0:List ByteArray)(q1_1:List (ByteArray×Zt5))(answer2:List (Int×Int×ByteArray)):Option (Zt13×Int):=
  altO (q68 lo db0 q1_0 q1_1 answer2) (fun y240=>bif(!decide (y240.1=(0:Int)))then(some (([]:List ((List Int))),y240.1))else(YIC (q72 lo (0:Int) y240.2.1 y240.2.2.1 y240.2.2.2.1 y240.2.2.2.2.1 y240.2.2.2.2.2.1 y240.2.2.2.2.2.2.1 y240.2.2.2.2.2.2.2.1 y240.2.2.2.2.2.2.2.2 []) fun y293=>chk (y293.2.2.2.1.length=y240.2.2.2.1.length) (bif(!y293.1)then(some (([]:List ((List Int))),(3:Int)))else(some (y293.2.2.2.2.2.2.2.2.2,(0:Int)))))) (YIC (q67 lo db0 q1_0 q1_1 answer2) fun y294=>bif(!decide (y294=0))then(some (([]:List ((List Int))),y294))else(none))
def YxB:VFn:=⟨true,29,[.t 6,.t 7],
 (Rg [oG 3 0,oG 4 1,o 6 (.mv (ke Zc16)),oK 7 0]
 (Rg [oT 12 1 3,oT 13 2 4,oM 14 2,oC 15 532 [12,13,14],oM 11 15,oE 16 11 0,oE 17 11 1,o 8 (.alloc [.nl]),oS 1 8 16,oM 9 17]
 (.seq (Rg [oM 18 9,oR 19 .neq 18 (k 0)]
 (.cond 19 (Rg [oM 20 9,o 6 (.mv (ke Zc16)),oM 7 20]
 (.fz [6,7] .ret))
 .skip))
 (Rg [o 10 (.alloc [.e Zc16])]
 (Rg [oL 21 8,o 22 (.mkf 534 [10,8]),o 23 (.nilc 21),oF 24 5 23,oS 1 24 22]
 (.ow [(10,some 0,false)] (.seq (Rg [oL 25 8,oC 26 515 [25,(k 0)],oX 27 26]
 (.cond 27 (Rg [o 6 (.mv (ke Zc16)),oK 7 3]
 (.fz [6,7] .ret))
 .skip))
 (Rg [oL 28 10,oM 6 28,oK 7 0]
 (.fz [6,7] .ret)))))))))⟩
def YmX(lo:Lo):FnE:=Zfe 495 true (Zsg [0,1,2] [.ag [.l Zc6],.ag [.l (cs [.s]),.l Zc7],.l Zc10] []) (.tp [.l Zc16,.j]) [] (fun x=>q73 lo x.1 x.2.1 x.2.2.1 x.2.2.2:Zt1×Zt3×Zt0×Zt4->Option (Zt13×Int))
noncomputable def fs74(lo:Lo):List FnE:=YmX lo::fs73 lo
theorem YxC(h:GZ P fm fs73 lo)(t:Ti P fm 495 YxB):GZ P fm fs74 lo:=
  h.p (YmX lo) .n t
def q74(lo:Lo)(t0_0:ByteArray)(t0_1:Int)(t0_2:Int)(t0_3:ByteArray):Option Bool:=
  YIC (q29 lo t0_0 t0_1 t0_2 t0_3) fun y301=>some (!y301)
def YxD:VFn:=⟨true,6,[.t 2],
 (Rg [oG 1 0,oB 2 false]
 (Rg [oT 3 4 1,oC 4 504 [3],oX 5 4,oM 2 5]
 (Fr 2)))⟩
def YmY(lo:Lo):FnE:=Zfe 545 true (Zsg [0] [.ag [.s,.j,.j,.s]] []) .b [] (fun x=>q74 lo x.1 x.2.1 x.2.2.1 x.2.2.2:Zp69->Option Bool)
noncomputable def fs75(lo:Lo):List FnE:=YmY lo::fs74 lo
theorem YxE(h:GZ P fm fs74 lo)(t:Ti P fm 545 YxD):GZ P fm fs75 lo:=
  h.p (YmY lo) .n t
def q75_L3_b:VCode:=
 (Rg [oR 9 .lss 8 7]
 (.seq (Ce 9 0)
 (.seq (.blk 1 (Rg [oM 10 8,oM 5 10]
 (Rg [oM 11 1,oM 12 0,oM 13 5,oI 14 4 12 13,oT 15 4 14,o 16 (.dyn 11 [15])]
 (.cond 16 (Rg [oM 17 5,oM 4 17]
 .ret)
 .skip))))
 (.reg [oR 18 .add 8 (k 1),oM 8 18]))))
def YmZ(lo:Lo):Zt5×Int×Int->Option ((Zt5×Int×Int)⊕ (Int⊕Unit)):=fun x=>match x with
  | (s0,v7,v8)=>bif(decide (v8<v7))then(chk (0<=v8/\v8< (s0.length:Int)) (YIC (q74 lo ((s0.getD v8.toNat Zd0).1) ((s0.getD v8.toNat Zd0).2.1) ((s0.getD v8.toNat Zd0).2.2.1) ((s0.getD v8.toNat Zd0).2.2.2)) fun y302=>bif y302 then(some (.inr (.inl v8)))else(some (.inl (s0,v7,(YIV .i64 (v8+1)))))))else(some (.inr (.inr ())))
def Ym0(lo:Lo):Zt5×Int×Int->Option (Int⊕Unit):=lo.run (YmZ lo)
def YxF(lo:Lo):LpE:=⟨3,[],(Zsg [0,1,7,8] [.l Zc11,.clo 545 [],.j,.j] []),[⟨.ret,(Zsg [4] [.j] [])⟩,⟨.exit 0,(Zsg [] [] [])⟩],Ym0 lo⟩
def YxG(lo:Lo):LL:=(YxF lo,.loop q75_L3_b.er)::[]
theorem YxH(lo:Lo):Lk lo pf (fs75 lo) 0 (YxG lo):=.l .n (YmZ lo)
def q75(lo:Lo)(s0:List Zp69):Option Int:=
  YIC (Ym0 lo (s0,(s0.length:Int),(0:Int))) fun y303=>alt2 y303 (fun y304=>some y304) (fun y305=>some (-1:Int))
def YxI:VFn:=⟨true,19,[.t 4],
 (Rg [oK 4 0]
 (.seq (Rg [oM 6 0,oN 7 6,oK 8 0]
 (.blk 0 (.loop 3 q75_L3_b)))
 (Rg [oK 4 (-1)]
 .ret)))⟩
def Ym1(lo:Lo):FnE:=Zfe 537 false (Zsg [0,1] [.l Zc11,.clo 545 []] []) (.i .i64) [] (fun x=>q75 lo x:Zt5->Option Int)
noncomputable def fs76(lo:Lo):List FnE:=Ym1 lo::fs75 lo
theorem YxJ(h:GZ P fm fs75 lo)(t:Ti P fm 537 YxI):GZ P fm fs76 lo:=
  h.i (Ym1 lo) (YxH lo) t
def q76(lo:Lo)(s0:List Zp69):Option Bool:=
  YIC (q75 lo s0) fun y306=>some (decide (0<=y306))
def YxK:VFn:=⟨true,9,[.t 4],
 (Rg [oB 4 false]
 (Rg [oM 5 0,oM 6 1,oC 7 537 [5,6],oR 8 .geq 7 (k 0),oM 4 8]
 .ret))⟩
def Ym2(lo:Lo):FnE:=Zfe 502 false (Zsg [0,1] [.l Zc11,.clo 545 []] []) .b [] (fun x=>q76 lo x:Zt5->Option Bool)
noncomputable def fs77(lo:Lo):List FnE:=Ym2 lo::fs76 lo
theorem YxL(h:GZ P fm fs76 lo)(t:Ti P fm 502 YxK):GZ P fm fs77 lo:=
  h.i (Ym2 lo) .n t
end Go.Abs.G47
namespace Go.Abs.G47
open Go Go.Abs
set_option maxRecDepth 100000
set_option maxHeartbeats 1000000
variable{P:Program}{fm:FM}{lo:Lo}
def q77_L3_b:VCode:=
 (Rg [oR 19 .lss 18 17]
 (.seq (Ce 19 0)
 (.seq (.blk 1 (Rg [oI 20 2 16 18,oT 21 2 20,o 4 (.alloc [.s (⟨#[]⟩),.e Zc11]),oS 2 4 21]
 (Rg [oF 22 0 4,oL 23 22,oC 24 538 [23],oX 25 24,oM 26 25,gF 27 26 (.fad 1 4),gF 28 26 (.load false 1 27),gF 29 26 (.call 502 [28,(.c (.f 545))]),oP 30 26 (kb true) 29]
 (.cond 30 (Rg [oB 2 false]
 (Fr 2))
 .skip))))
 (.reg [oR 31 .add 18 (k 1),oM 18 31]))))
def Ym3(lo:Lo):Zt0×Int×Int×Zt3×Zt0->Option ((Zt0×Int×Int×Zt3×Zt0)⊕ (Bool⊕ (Zt3×Zt0))):=fun x=>match x with
  | (v16,v17,v18,q1_0,q1_1)=>bif(decide (v18<v17))then(chk (0<=v18/\v18< (v16.length:Int)) (YIC (q28 lo ((v16.getD v18.toNat ((YIU #[]),[])).1)) fun y300=>bif(!y300)then(some (.inr (.inl false)))else(YIC (q76 lo ((v16.getD v18.toNat ((YIU #[]),[])).2)) fun y307=>bif y307 then(some (.inr (.inl false)))else(some (.inl (v16,v17,(YIV .i64 (v18+1)),q1_0,q1_1))))))else(some (.inr (.inr (q1_0,q1_1))))
def Ym4(lo:Lo):Zt0×Int×Int×Zt3×Zt0->Option (Bool⊕ (Zt3×Zt0)):=lo.run (Ym3 lo)
def YxM(lo:Lo):LpE:=⟨3,[],(Zsg [1,16,17,18] [.ptr 0 0 0,.l Zc7,.j,.j] [.st [.l (cs [.s]),.l Zc7]]),[⟨.ret,(Zsg [2] [.b] [])⟩,⟨.exit 0,(Zsg [1] [.ptr 0 0 0] [.st [.l (cs [.s]),.l Zc7]])⟩],Ym4 lo⟩
def YxN(lo:Lo):LL:=(YxM lo,.loop q77_L3_b.er)::[]
theorem YxO(lo:Lo):Lk lo pf (fs77 lo) 0 (YxN lo):=.l .n (Ym3 lo)
def q77(lo:Lo)(q0_0:List ByteArray)(q0_1:List (ByteArray×Zt5)):Option Bool:=
  bif(decide ((q0_1.length:Int)<1))then(some false)else(bif(decide ((6:Int)< (q0_1.length:Int)))then(some false)else(YIC (Ym4 lo (q0_1,(q0_1.length:Int),(0:Int),q0_0,q0_1)) fun y308=>alt2 y308 (fun y309=>some y309) (fun y310=>YIC (q39 lo y310.1 y310.2) fun y311=>some y311)))
def YxP:VFn:=⟨true,34,[.t 2],
 (Rg [oG 1 0,oB 2 false]
 (.seq (Rg [oF 5 1 1,oL 6 5,oN 7 6,oR 8 .lss 7 (k 1),oM 9 8,gF 10 9 (.fad 1 1),gF 11 9 (.load false 1 10),gF 12 9 (.len 11),gF 13 9 (.bin .gtr 12 (k 6)),oP 14 9 (kb true) 13]
 (.cond 14 (Rg [oB 2 false]
 (Fr 2))
 .skip))
 (.seq (Rg [oF 15 1 1,oL 16 15,oN 17 16,oK 18 0]
 (.blk 0 (.loop 3 q77_L3_b)))
 (Rg [oT 32 2 1,oC 33 505 [32],oM 2 33]
 (Fr 2)))))⟩
def Ym5(lo:Lo):FnE:=Zfe 519 true (Zsg [0] [.ag [.l (cs [.s]),.l Zc7]] []) .b [] (fun x=>q77 lo x.1 x.2:Zt3×Zt0->Option Bool)
noncomputable def fs78(lo:Lo):List FnE:=Ym5 lo::fs77 lo
theorem YxQ(h:GZ P fm fs77 lo)(t:Ti P fm 519 YxP):GZ P fm fs78 lo:=
  h.p (Ym5 lo) (YxO lo) t
def q78(lo:Lo)(l:List ByteArray):Option Zt3:=bif YIs l.length maxEl&&YIs 1 1 then some l else none
def YxR(lo:Lo):FnE:=vcloneE 269 (cs [.s])
noncomputable def fs79(lo:Lo):List FnE:=YxR lo::fs78 lo
theorem YxS(h:GZ P fm fs78 lo)(htie: ∀f,fm f=269->fnTr P fm pf f=some (8,[.t 2],YDr 1 [(.string (⟨#[]⟩))])):GZ P fm fs79 lo:=
  ⟨h.1,h.2,Ygf h.S h.mx (cs [.s]) rfl [(.string (⟨#[]⟩))] 8 (by decide) htie⟩
def q79(lo:Lo)(l:List Zp69):Option Zt5:=bif YIs l.length maxEl&&YIs 1 4 then some l else none
def YxT(lo:Lo):FnE:=vcloneE 527 Zc11
noncomputable def fs80(lo:Lo):List FnE:=YxT lo::fs79 lo
theorem YxU(h:GZ P fm fs79 lo)(htie: ∀f,fm f=527->fnTr P fm pf f=some (8,[.t 2],YDr 4 [(.string (⟨#[]⟩)),(.int .i64 0),(.int .i64 0),(.string (⟨#[]⟩))])):GZ P fm fs80 lo:=
  ⟨h.1,h.2,Ygf h.S h.mx Zc11 rfl [(.string (⟨#[]⟩)),(.int .i64 0),(.int .i64 0),(.string (⟨#[]⟩))] 8 (by decide) htie⟩
def q80(lo:Lo)(n:Int):Option Zt0:=bif decide (0<=n)&&decide (n<=1048576)then some []else none
def YxV(lo:Lo):FnE:=vgrowE 548 Zc7
noncomputable def fs81(lo:Lo):List FnE:=YxV lo::fs80 lo
theorem YxW(h:GZ P fm fs80 lo)(hG: ∀f,fm f=548->YC2 P f=true/\ ∃ρ:Go.Shelf.Ren,Go.Proofs.Lays8.n4 P ρ/\ρ.f 4=f/\YEb P (ρ.t 25) 2=true):GZ P fm fs81 lo:=
  ⟨h.1,h.2,YsU h.S Zc7 rfl (by decide) hG⟩
def q81_L11_b:VCode:=
 (Rg [oR 12 .lss 11 10]
 (.seq (Ce 12 0)
 (.seq (.blk 1 (Rg [oI 13 1 9 11,oL 14 13,oM 5 14]
 (Rg [oM 15 3,oM 16 5,oN 17 16,oR 18 .add 15 17,oM 3 18]
 (Rg [oM 19 3,oR 20 .lss 19 (k 0)]
 (.cond 20 .bad
 .skip)))))
 (.reg [oR 22 .add 11 (k 1),oM 11 22]))))
def Ym6(lo:Lo):Zp62->Option (Zp62⊕ (((List (Zt0))×Int))):=fun x=>match x with
  | (slices0,size3,v9,v10,v11)=>bif(decide (v11<v10))then(chk (0<=v11/\v11< (v9.length:Int)) (bif(decide ((YIV .i64 (size3+((v9.getD v11.toNat []).length:Int)))< (0:Int)))then(none)else(some (.inl (slices0,(YIV .i64 (size3+((v9.getD v11.toNat []).length:Int))),v9,v10,(YIV .i64 (v11+1)))))))else(some (.inr (slices0,size3)))
def Ym7(lo:Lo):Zp62->Option (((List (Zt0))×Int)):=lo.run (Ym6 lo)
def YxX(lo:Lo):LpE:=⟨11,[],(Zsg [0,3,9,10,11] [.l (cs [.l Zc7]),.j,.l (cs [.l Zc7]),.j,.j] []),[⟨.exit 0,(Zsg [0,3] [.l (cs [.l Zc7]),.j] [])⟩],Ym7 lo⟩
def Ym8(lo:Lo):LL:=(YxX lo,.loop q81_L11_b.er)::[]
theorem YxY(lo:Lo):Lk lo pf (fs81 lo) 0 (Ym8 lo):=.l .n (Ym6 lo)
def q81_L3_b:VCode:=
 (Rg [oR 28 .lss 27 26]
 (.seq (Ce 28 2)
 (.seq (.blk 3 (Rg [oI 29 1 25 27,oL 30 29,oM 8 30]
 (.reg [oM 31 6,oM 32 8,o 33 (.app Zc7 0 31 32),oM 6 33])))
 (.reg [oR 34 .add 27 (k 1),oM 27 34]))))
def Ym9(lo:Lo):(List (Zt0))×Int×Int×Zt0->Option (((List (Zt0))×Int×Int×Zt0)⊕ ((Zt0))):=fun x=>match x with
  | (v25,v26,v27,newslice6)=>bif(decide (v27<v26))then(chk (0<=v27/\v27< (v25.length:Int)) (chk (newslice6.length+(v25.getD v27.toNat []).length<=maxEl) (some (.inl (v25,v26,(YIV .i64 (v27+1)),(newslice6++(v25.getD v27.toNat [])))))))else(some (.inr newslice6))
def Yna(lo:Lo):(List (Zt0))×Int×Int×Zt0->Option ((Zt0)):=lo.run (Ym9 lo)
def YxZ(lo:Lo):LpE:=⟨3,[],(Zsg [6,25,26,27] [.ref 0,.l (cs [.l Zc7]),.j,.j] [.sq Zc7]),[⟨.exit 2,(Zsg [6] [.ref 0] [.sq Zc7])⟩],Yna lo⟩
def Yx0(lo:Lo):LL:=(YxZ lo,.loop q81_L3_b.er)::Ym8 lo
theorem Yx1(lo:Lo):Lk lo pf (fs81 lo) 0 (Yx0 lo):=.l (YxY lo) (Ym9 lo)
def q81(lo:Lo)(slices0:List (Zt0)):Option (Zt0):=
  YIC (Ym7 lo (slices0,(0:Int),slices0,(slices0.length:Int),(0:Int))) fun y320=>YIC (q80 lo y320.2) fun y321=>YIC (Yna lo (y320.1,(y320.1.length:Int),(0:Int),y321)) fun y322=>some y322
def Yx2:VFn:=⟨true,36,[.t 2],
 (Rg [o 2 (.mv (ke Zc7))]
 (Rg [oK 3 0]
 (.seq (Rg [oM 9 0,oN 10 9,oK 11 0]
 (.blk 0 (.loop 11 q81_L11_b)))
 (Rg [oM 23 3,oC 24 548 [(ke Zc7),23],oM 6 24]
 (.seq (Rg [oM 25 0,oN 26 25,oK 27 0]
 (.blk 2 (.loop 3 q81_L3_b)))
 (Rg [oM 35 6,oM 2 35]
 (Fr 2)))))))⟩
def Ynb(lo:Lo):FnE:=Zfe 528 true (Zsg [0] [.l (cs [.l Zc7])] []) (.l Zc7) [] (fun x=>q81 lo x:(List (Zt0))->Option (Zt0))
noncomputable def fs82(lo:Lo):List FnE:=Ynb lo::fs81 lo
theorem Yx3(h:GZ P fm fs81 lo)(t:Ti P fm 528 Yx2):GZ P fm fs82 lo:=
  h.p (Ynb lo) (Yx1 lo) t
def q82_J13_b:VCode:=
 (Rg [oM 46 12,oX 47 46]
 (.cond 47 (Rg [oM 48 0,oF 49 0 10,oL 50 49,oF 51 1 5,oL 52 51,oM 53 9,oI 54 4 52 53,oT 55 4 54,on (.mput none .s Zc10 true 48 50 55)]
 (.reg [oM 56 8,oF 57 0 10,oL 58 57,o 59 (.bsl (cs [.s]) 1 [(0,58)]),o 60 (.app (cs [.s]) 0 56 59),oM 8 60]))
 (Rg [oT 61 4 11,oF 62 1 5,oL 63 62,oM 64 9,oI 65 4 63 64,oT 66 4 65,o 67 (.eqa true [2,1,1,2] 61 66)]
 (.cond 67 (Rg [oM 68 8,oM 6 68,oB 7 false]
 (Fr 6))
 .skip))))
def YgK(lo:Lo):Int×Bool×Zt5×Int×Int×Int×Zt8×Bool×Bool×ByteArray×Zt5×Zt3×ByteArray×Int×Int×ByteArray×ByteArray×Int×Int×ByteArray->Option (Zp47⊕ (Zt3×Bool×Int×Zt8×Bool×Bool)):=fun x=>match x with
  | (i9,known12,v28,v29,v30,h0_0,h0_1,h0_2,h0_3,b5_0,b5_1,fresh8,t10_0,t10_1,t10_2,t10_3,image11_0,image11_1,image11_2,image11_3)=>bif(!known12)then(chk (0<=i9/\i9< (b5_1.length:Int)) (chk (fresh8.length+[t10_0].length<=maxEl) (some (.inl (v28,v29,v30,(mck eqS h0_0 t10_0 h0_1),(mpt eqS h0_0 t10_0 (b5_1.getD i9.toNat Zd0) h0_1),h0_2,h0_3,b5_0,b5_1,(fresh8++[t10_0]))))))else(chk (0<=i9/\i9< (b5_1.length:Int)) (bif(!((decide (image11_0=(b5_1.getD i9.toNat Zd0).1))&& ((decide (image11_1=(b5_1.getD i9.toNat Zd0).2.1))&& ((decide (image11_2=(b5_1.getD i9.toNat Zd0).2.2.1))&& ((decide (image11_3=(b5_1.getD i9.toNat Zd0).2.2.2))&&true)))))then(some (.inr (fresh8,false,h0_0,h0_1,h0_2,h0_3)))else(some (.inl (v28,v29,v30,h0_0,h0_1,h0_2,h0_3,b5_0,b5_1,fresh8)))))
def Yx4(lo:Lo):LpE:=⟨13,[],(Zsg [0,5,8,9,10,11,12,28,29,30] [.np 0,.ptr 1 0 0,.ref 2,.j,.ptr 3 0 0,.ptr 4 0 0,.b,.l Zc11,.j,.j] [.st [.j,.l Zc19,.b,.b],.st [.s,.l Zc11],.sq (cs [.s]),.st [.s,.j,.j,.s],.st [.s,.j,.j,.s]]),[⟨.nor,(Zsg [0,5,8,28,29,30] [.np 0,.ptr 1 0 0,.ref 2,.l Zc11,.j,.j] [.st [.j,.l Zc19,.b,.b],.st [.s,.l Zc11],.sq (cs [.s])])⟩,⟨.ret,(Zsg [6,7] [.l (cs [.s]),.b] [.st [.j,.l Zc19,.b,.b]])⟩],YgK lo⟩
def Ync(lo:Lo):LL:=(Yx4 lo,q82_J13_b.er)::[]
theorem Yx5(lo:Lo):Lk lo pf (fs82 lo) 1 (Ync lo):=.j .n
def q82_L3_b:VCode:=
 (Rg [oR 31 .lss 30 29]
 (.seq (Ce 31 0)
 (.seq (.blk 1 (Rg [oM 32 30,oI 33 4 28 30,oT 34 4 33,o 10 (.alloc [.s (⟨#[]⟩),.i .i64 0,.i .i64 0,.s (⟨#[]⟩)]),oM 9 32,oS 4 10 34]
 (Rg [oT 35 4 10,o 11 (.alloc [.s (⟨#[]⟩),.i .i64 0,.i .i64 0,.s (⟨#[]⟩)]),oS 4 11 35,oB 12 true]
 (.seq (Rg [oF 36 0 10,oL 37 36,oR 38 .neq 37 (ks (⟨#[]⟩))]
 (.cond 38 (.reg [oM 40 0,oF 41 0 10,oL 42 41,o 43 (.mget none .s Zc10 true true 40 42),oM 39 43,oE 44 39 0,oE 45 39 1,oS 4 11 44,oM 12 45])
 .skip))
 (.jn 13 q82_J13_b)))))
 (.reg [oR 69 .add 30 (k 1),oM 30 69]))))
def Ynd(lo:Lo):Zp47->Option (Zp47⊕ ((Zt3×Bool×Int×Zt8×Bool×Bool)⊕ (Int×Zt8×Bool×Bool×Zt3))):=fun x=>match x with
  | (v28,v29,v30,h0_0,h0_1,h0_2,h0_3,b5_0,b5_1,fresh8)=>bif(decide (v30<v29))then(chk (0<=v30/\v30< (v28.length:Int)) (bif(!decide ((v28.getD v30.toNat Zd0).1=(YIU #[])))then(YIC (YgK lo (v30,(mhs eqS ((v28.getD v30.toNat Zd0).1) h0_1),v28,v29,v30,h0_0,h0_1,h0_2,h0_3,b5_0,b5_1,fresh8,(v28.getD v30.toNat Zd0).1,(v28.getD v30.toNat Zd0).2.1,(v28.getD v30.toNat Zd0).2.2.1,(v28.getD v30.toNat Zd0).2.2.2,(mgt eqS ((v28.getD v30.toNat Zd0).1) h0_1 Zd0).1,(mgt eqS ((v28.getD v30.toNat Zd0).1) h0_1 Zd0).2.1,(mgt eqS ((v28.getD v30.toNat Zd0).1) h0_1 Zd0).2.2.1,(mgt eqS ((v28.getD v30.toNat Zd0).1) h0_1 Zd0).2.2.2)) fun y337=>alt2 y337 (fun y338=>some (.inl (y338.1,y338.2.1,(YIV .i64 (y338.2.2.1+(1:Int))),y338.2.2.2.1,y338.2.2.2.2.1,y338.2.2.2.2.2.1,y338.2.2.2.2.2.2.1,y338.2.2.2.2.2.2.2.1,y338.2.2.2.2.2.2.2.2.1,y338.2.2.2.2.2.2.2.2.2))) (fun y339=>some (.inr (.inl (y339.1,y339.2.1,y339.2.2.1,y339.2.2.2.1,y339.2.2.2.2.1,y339.2.2.2.2.2)))))else(YIC (YgK lo (v30,true,v28,v29,v30,h0_0,h0_1,h0_2,h0_3,b5_0,b5_1,fresh8,(v28.getD v30.toNat Zd0).1,(v28.getD v30.toNat Zd0).2.1,(v28.getD v30.toNat Zd0).2.2.1,(v28.getD v30.toNat Zd0).2.2.2,(v28.getD v30.toNat Zd0).1,(v28.getD v30.toNat Zd0).2.1,(v28.getD v30.toNat Zd0).2.2.1,(v28.getD v30.toNat Zd0).2.2.2)) fun y340=>alt2 y340 (fun y341=>some (.inl (y341.1,y341.2.1,(YIV .i64 (y341.2.2.1+(1:Int))),y341.2.2.2.1,y341.2.2.2.2.1,y341.2.2.2.2.2.1,y341.2.2.2.2.2.2.1,y341.2.2.2.2.2.2.2.1,y341.2.2.2.2.2.2.2.2.1,y341.2.2.2.2.2.2.2.2.2))) (fun y342=>some (.inr (.inl (y342.1,y342.2.1,y342.2.2.1,y342.2.2.2.1,y342.2.2.2.2.1,y342.2.2.2.2.2)))))))else(some (.inr (.inr (h0_0,h0_1,h0_2,h0_3,fresh8))))
def Yne(lo:Lo):Zp47->Option ((Zt3×Bool×Int×Zt8×Bool×Bool)⊕ (Int×Zt8×Bool×Bool×Zt3)):=lo.run (Ynd lo)
def Yx6(lo:Lo):LpE:=⟨3,[(8,none,false)],(Zsg [0,5,8,28,29,30] [.np 0,.ptr 1 0 0,.ref 2,.l Zc11,.j,.j] [.st [.j,.l Zc19,.b,.b],.st [.s,.l Zc11],.sq (cs [.s])]),[⟨.ret,(Zsg [6,7] [.l (cs [.s]),.b] [.st [.j,.l Zc19,.b,.b]])⟩,⟨.exit 0,(Zsg [8] [.ref 1] [.st [.j,.l Zc19,.b,.b],.sq (cs [.s])])⟩],Yne lo⟩
def Yx7(lo:Lo):LL:=(Yx6 lo,.loop q82_L3_b.er)::Ync lo
theorem Yx8(lo:Lo):Lk lo pf (fs82 lo) 1 (Yx7 lo):=.l (Yx5 lo) (Ynd lo)
def q82(lo:Lo)(a1_0:ByteArray)(a1_1:List Zp69)(b2_0:ByteArray)(b2_1:List Zp69)(h0_0:Int)(h0_1:List (Int×ByteArray×ByteArray×Int×Int×ByteArray))(h0_2:Bool)(h0_3:Bool):Option (Zt3×Bool×Int×Zt8×Bool×Bool):=
  bif(!decide (a1_0=b2_0))then(some (([]:List ByteArray),false,h0_0,h0_1,h0_2,h0_3))else(bif(!decide ((a1_1.length:Int)=(b2_1.length:Int)))then(some (([]:List ByteArray),false,h0_0,h0_1,h0_2,h0_3))else(YIC (Yne lo (a1_1,(a1_1.length:Int),(0:Int),h0_0,h0_1,h0_2,h0_3,b2_0,b2_1,[])) fun y343=>alt2 y343 (fun y344=>some (y344.1,y344.2.1,y344.2.2.1,y344.2.2.2.1,y344.2.2.2.2.1,y344.2.2.2.2.2)) (fun y345=>some (y345.2.2.2.2,true,y345.1,y345.2.1,y345.2.2.1,y345.2.2.2.1))))
def Yx9:VFn:=⟨true,71,[.t 6,.t 7],
 (Rg [oG 4 1,oG 5 2,o 6 (.mv (ke (cs [.s]))),oB 7 false]
 (Rg [o 8 (.mv (ke (cs [.s])))]
 (.seq (Rg [oF 13 0 4,oL 14 13,oF 15 0 5,oL 16 15,oR 17 .neq 14 16,oM 18 17,gF 19 18 (.fad 1 4),gF 20 18 (.load false 1 19),gF 21 18 (.len 20),gF 22 18 (.fad 1 5),gF 23 18 (.load false 1 22),gF 24 18 (.len 23),gF 25 18 (.bin .neq 21 24),oP 26 18 (kb true) 25]
 (.cond 26 (Rg [o 6 (.mv (ke (cs [.s]))),oB 7 false]
 (Fr 6))
 .skip))
 (.seq (Rg [oF 27 1 4,oL 28 27,oN 29 28,oK 30 0]
 (.blk 0 (.loop 3 q82_L3_b)))
 (Rg [oM 70 8,oM 6 70,oB 7 true]
 (Fr 6))))))⟩
def Ynf(lo:Lo):FnE:=Zfe 546 false (Zsg [0,1,2] [.np 0,.ag [.s,.l Zc11],.ag [.s,.l Zc11]] [.st [.j,.l Zc19,.b,.b]]) (.tp [.l (cs [.s]),.b]) [.st [.j,.l Zc19,.b,.b]] (fun x=>q82 lo x.1 x.2.1 x.2.2.1 x.2.2.2.1 x.2.2.2.2.1 x.2.2.2.2.2.1 x.2.2.2.2.2.2.1 x.2.2.2.2.2.2.2:ByteArray×Zt5×ByteArray×Zt5×Int×Zt8×Bool×Bool->Option (Zt3×Bool×Int×Zt8×Bool×Bool))
noncomputable def fs83(lo:Lo):List FnE:=Ynf lo::fs82 lo
theorem Yya(h:GZ P fm fs82 lo)(t:Ti P fm 546 Yx9):GZ P fm fs83 lo:=
  h.i (Ynf lo) (Yx8 lo) t
def YgL(F:Zp67->Option (Bool×Int×Zt8×Bool×Bool)):FnE:=⟨520,false,(Zsg [0,1,2] [.np 0,.l Zc7,.l Zc7] [.st [.j,.l Zc19,.b,.b]]),.b,[.st [.j,.l Zc19,.b,.b]],(cs [.b,I,.l Zc19,.b,.b]),F⟩
def q83_L5_b:VCode:=
 (Rg [oR 42 .lss 41 40]
 (.seq (Ce 42 2)
 (.seq (.blk 3 (Rg [oI 43 1 39 41,oL 44 43,oM 12 44]
 (.reg [oM 45 0,oM 46 12,on (.mdel none .s Zc10 45 46)])))
 (.reg [oR 47 .add 41 (k 1),oM 41 47]))))
def Yng(lo:Lo)(rec:Zp67->Option (Bool×Int×Zt8×Bool×Bool)):Zp45->Option (Zp45⊕ (Zp52)):=fun x=>match x with
  | (rest1,to2,v16,v17,v18,v39,v40,v41,h0_0,h0_1,h0_2,h0_3)=>bif(decide (v41<v40))then(chk (0<=v41/\v41< (v39.length:Int)) (some (.inl (rest1,to2,v16,v17,v18,v39,v40,(YIV .i64 (v41+1)),h0_0,(mdl eqS (v39.getD v41.toNat (YIU #[])) h0_1),h0_2,h0_3))))else(some (.inr (rest1,to2,v16,v17,v18,h0_0,h0_1,h0_2,h0_3)))
def YgM(lo:Lo)(rec:Zp67->Option (Bool×Int×Zt8×Bool×Bool)):Zp45->Option (Zp52):=lo.run (Yng lo rec)
def Yyb(lo:Lo)(rec:Zp67->Option (Bool×Int×Zt8×Bool×Bool)):LpE:=⟨5,[],(Zsg [0,1,2,16,17,18,39,40,41] [.np 0,.l Zc7,.l Zc7,.l Zc7,.j,.j,.l (cs [.s]),.j,.j] [.st [.j,.l Zc19,.b,.b]]),[⟨.exit 2,(Zsg [0,1,2,16,17,18] [.np 0,.l Zc7,.l Zc7,.l Zc7,.j,.j] [.st [.j,.l Zc19,.b,.b]])⟩],YgM lo rec⟩
def Ynh(lo:Lo)(rec:Zp67->Option (Bool×Int×Zt8×Bool×Bool)):LL:=(Yyb lo rec,.loop q83_L5_b.er)::[]
theorem Yyc(lo:Lo)(rec:Zp67->Option (Bool×Int×Zt8×Bool×Bool)):Lk lo pf (YgL rec::fs83 lo) 1 (Ynh lo rec):=.l .n (Yng lo rec)
def q83_L3_b:VCode:=
 (Rg [oR 19 .lss 18 17]
 (.seq (Ce 19 0)
 (.seq (.blk 1 (Rg [oI 20 2 16 18,oT 21 2 20,o 8 (.alloc [.s (⟨#[]⟩),.e Zc11]),oS 2 8 21]
 (Rg [oM 23 0,oM 24 1,o 25 (.iad 2 24 (k 0)),oT 26 2 25,oT 27 2 8,oC 28 546 [23,26,27],oM 22 28,oE 29 22 0,oE 30 22 1,oM 9 29,oM 10 30]
 (.seq (Rg [oM 31 10,oM 32 31,gT 33 32 (.mv 0),gT 34 32 (.mv 1),gT 35 32 (.slcR 2 34 (some (k 1)) none),gT 36 32 (.mv 2),gT 37 32 (.call 520 [33,35,36]),oP 38 32 37 (kb false)]
 (.cond 38 (Rg [oB 6 true]
 .ret)
 .skip))
 (Rg [oM 39 9,oN 40 39,oK 41 0]
 (.blk 2 (.loop 5 q83_L5_b)))))))
 (.reg [oR 48 .add 18 (k 1),oM 18 48]))))
def Yni(lo:Lo)(rec:Zp67->Option (Bool×Int×Zt8×Bool×Bool)):Zp52->Option (Zp52⊕ ((Bool×Int×Zt8×Bool×Bool)⊕ (Int×Zt8×Bool×Bool))):=fun x=>match x with
  | (rest1,to2,v16,v17,v18,h0_0,h0_1,h0_2,h0_3)=>bif(decide (v18<v17))then(chk (0<=v18/\v18< (v16.length:Int)) (chk (0<=(0:Int)/\ (0:Int)< (rest1.length:Int)) (YIC (q82 lo ((rest1.getD 0 ((YIU #[]),[])).1) ((rest1.getD 0 ((YIU #[]),[])).2) ((v16.getD v18.toNat ((YIU #[]),[])).1) ((v16.getD v18.toNat ((YIU #[]),[])).2) h0_0 h0_1 h0_2 h0_3) fun y346=>bif y346.2.1 then(chk (0<=(1:Int)/\ (1:Int)<=(rest1.length:Int)/\ (rest1.length:Int)<=(rest1.length:Int)) (YIC (rec (((rest1.take (rest1.length:Int).toNat).drop 1),to2,y346.2.2.1,y346.2.2.2.1,y346.2.2.2.2.1,y346.2.2.2.2.2)) fun y347=>bif y347.1 then(some (.inr (.inl (true,y347.2.1,y347.2.2.1,y347.2.2.2.1,y347.2.2.2.2))))else(YIC (YgM lo rec (rest1,to2,v16,v17,v18,y346.1,(y346.1.length:Int),(0:Int),y347.2.1,y347.2.2.1,y347.2.2.2.1,y347.2.2.2.2)) fun y348=>some (.inl (y348.1,y348.2.1,y348.2.2.1,y348.2.2.2.1,(YIV .i64 (y348.2.2.2.2.1+(1:Int))),y348.2.2.2.2.2.1,y348.2.2.2.2.2.2.1,y348.2.2.2.2.2.2.2.1,y348.2.2.2.2.2.2.2.2)))))else(YIC (YgM lo rec (rest1,to2,v16,v17,v18,y346.1,(y346.1.length:Int),(0:Int),y346.2.2.1,y346.2.2.2.1,y346.2.2.2.2.1,y346.2.2.2.2.2)) fun y349=>some (.inl (y349.1,y349.2.1,y349.2.2.1,y349.2.2.2.1,(YIV .i64 (y349.2.2.2.2.1+(1:Int))),y349.2.2.2.2.2.1,y349.2.2.2.2.2.2.1,y349.2.2.2.2.2.2.2.1,y349.2.2.2.2.2.2.2.2))))))else(some (.inr (.inr (h0_0,h0_1,h0_2,h0_3))))
def Ynj(lo:Lo)(rec:Zp67->Option (Bool×Int×Zt8×Bool×Bool)):Zp52->Option ((Bool×Int×Zt8×Bool×Bool)⊕ (Int×Zt8×Bool×Bool)):=lo.run (Yni lo rec)
def Yyd(lo:Lo)(rec:Zp67->Option (Bool×Int×Zt8×Bool×Bool)):LpE:=⟨3,[],(Zsg [0,1,2,16,17,18] [.np 0,.l Zc7,.l Zc7,.l Zc7,.j,.j] [.st [.j,.l Zc19,.b,.b]]),[⟨.ret,(Zsg [6] [.b] [.st [.j,.l Zc19,.b,.b]])⟩,⟨.exit 0,(Zsg [] [] [.st [.j,.l Zc19,.b,.b]])⟩],Ynj lo rec⟩
def Ynk(lo:Lo)(rec:Zp67->Option (Bool×Int×Zt8×Bool×Bool)):LL:=(Yyd lo rec,.loop q83_L3_b.er)::Ynh lo rec
theorem Yye(lo:Lo)(rec:Zp67->Option (Bool×Int×Zt8×Bool×Bool)):Lk lo pf (YgL rec::fs83 lo) 1 (Ynk lo rec):=.l (Yyc lo rec) (Yni lo rec)
def Yyf(lo:Lo)(rec:Zp67->Option (Bool×Int×Zt8×Bool×Bool))(rest1:List (ByteArray×Zt5))(to2:List (ByteArray×Zt5))(h0_0:Int)(h0_1:List (Int×ByteArray×ByteArray×Int×Int×ByteArray))(h0_2:Bool)(h0_3:Bool):Option (Bool×Int×Zt8×Bool×Bool):=
  bif(decide ((rest1.length:Int)=0))then(some (true,h0_0,h0_1,h0_2,h0_3))else(YIC (Ynj lo rec (rest1,to2,to2,(to2.length:Int),(0:Int),h0_0,h0_1,h0_2,h0_3)) fun y350=>alt2 y350 (fun y351=>some (y351.1,y351.2.1,y351.2.2.1,y351.2.2.2.1,y351.2.2.2.2)) (fun y352=>some (false,y352.1,y352.2.1,y352.2.2.1,y352.2.2.2)))
def YgN(lo:Lo):Nat->Zt0×Zt0×Int×Zt8×Bool×Bool->Option (Bool×Int×Zt8×Bool×Bool)
  |0,_=>none
  |n+1,x=>Yyf lo (YgN lo n) x.1 x.2.1 x.2.2.1 x.2.2.2.1 x.2.2.2.2.1 x.2.2.2.2.2
def q83(lo:Lo)(rest1:List (ByteArray×Zt5))(to2:List (ByteArray×Zt5))(h0_0:Int)(h0_1:List (Int×ByteArray×ByteArray×Int×Int×ByteArray))(h0_2:Bool)(h0_3:Bool):Option (Bool×Int×Zt8×Bool×Bool):=lo.run (fixS (YgN lo)) (0,(rest1,to2,h0_0,h0_1,h0_2,h0_3))
def Yyg:VFn:=⟨true,49,[.t 6],
 (Rg [oB 6 false]
 (.seq (Rg [oM 13 1,oN 14 13,oR 15 .eql 14 (k 0)]
 (.cond 15 (Rg [oB 6 true]
 .ret)
 .skip))
 (.seq (Rg [oM 16 2,oN 17 16,oK 18 0]
 (.blk 0 (.loop 3 q83_L3_b)))
 (Rg [oB 6 false]
 .ret))))⟩
def Ynl(lo:Lo):FnE:=YgL (fun x=>q83 lo x.1 x.2.1 x.2.2.1 x.2.2.2.1 x.2.2.2.2.1 x.2.2.2.2.2)
noncomputable def fs84(lo:Lo):List FnE:=Ynl lo::fs83 lo
theorem Yyh(h:GZ P fm fs83 lo)(t:Ti P fm 520 Yyg):GZ P fm fs84 lo:=
  h.ir (Ynl lo) (YgN lo) (ls:=fun rec=>Ynk lo rec) (fun rec=>(Yye lo rec)) t (by kernel_rfl) (fun _=>rfl) rfl (fun _=>by kernel_rfl) fun n x=>by kernel_rfl
def q84_L5_b:VCode:=
 (Rg [oR 18 .lss 17 16]
 (.seq (Ce 18 2)
 (.seq (.blk 3 (Rg [oI 19 4 15 17,oT 20 4 19,o 7 (.alloc [.s (⟨#[]⟩),.i .i64 0,.i .i64 0,.s (⟨#[]⟩)]),oS 4 7 20]
 (Rg [oF 21 0 7,oL 22 21,oR 23 .neq 22 (ks (⟨#[]⟩)),oM 24 23,gT 25 24 (.mv 3),gT 26 24 (.fad 0 7),gT 27 24 (.load false 1 26),gT 28 24 (.call 256 [25,27]),gT 29 24 (.not 28),oP 30 24 29 (kb false)]
 (.cond 30 (.reg [oM 31 3,oF 32 0 7,oL 33 32,o 34 (.bsl (cs [.s]) 1 [(0,33)]),o 35 (.app (cs [.s]) 0 31 34),oM 3 35])
 .skip))))
 (.reg [oR 36 .add 17 (k 1),oM 17 36]))))
def Ynm(lo:Lo):Zp64->Option (Zp64⊕ ((Zt0×Int×Int×Zt3))):=fun x=>match x with
  | (v8,v9,v10,v15,v16,v17,out3)=>bif(decide (v17<v16))then(chk (0<=v17/\v17< (v15.length:Int)) (bif(!decide ((v15.getD v17.toNat Zd0).1=(YIU #[])))then(YIC (q5 lo out3 ((v15.getD v17.toNat Zd0).1)) fun y354=>bif(!y354)then(chk (out3.length+([(v15.getD v17.toNat Zd0).1]).length<=maxEl) (some (.inl (v8,v9,v10,v15,v16,(YIV .i64 (v17+1)),(out3++([(v15.getD v17.toNat Zd0).1]))))))else(some (.inl (v8,v9,v10,v15,v16,(YIV .i64 (v17+1)),out3))))else(some (.inl (v8,v9,v10,v15,v16,(YIV .i64 (v17+1)),out3)))))else(some (.inr (v8,v9,v10,out3)))
def Ynn(lo:Lo):Zp64->Option ((Zt0×Int×Int×Zt3)):=lo.run (Ynm lo)
def Yyi(lo:Lo):LpE:=⟨5,[],(Zsg [3,8,9,10,15,16,17] [.ref 0,.l Zc7,.j,.j,.l Zc11,.j,.j] [.sq (cs [.s])]),[⟨.exit 2,(Zsg [3,8,9,10] [.ref 0,.l Zc7,.j,.j] [.sq (cs [.s])])⟩],Ynn lo⟩
def Yno(lo:Lo):LL:=(Yyi lo,.loop q84_L5_b.er)::[]
theorem Yyj(lo:Lo):Lk lo pf (fs84 lo) 0 (Yno lo):=.l .n (Ynm lo)
def q84_L3_b:VCode:=
 (Rg [oR 11 .lss 10 9]
 (.seq (Ce 11 0)
 (.seq (.blk 1 (Rg [oI 12 2 8 10,oT 13 2 12,o 5 (.alloc [.s (⟨#[]⟩),.e Zc11]),oS 2 5 13]
 (Rg [oF 14 1 5,oL 15 14,oN 16 15,oK 17 0]
 (.blk 2 (.loop 5 q84_L5_b)))))
 (.reg [oR 37 .add 10 (k 1),oM 10 37]))))
def Ynp(lo:Lo):Zt0×Int×Int×Zt3->Option ((Zt0×Int×Int×Zt3)⊕ ((Zt3))):=fun x=>match x with
  | (v8,v9,v10,out3)=>bif(decide (v10<v9))then(chk (0<=v10/\v10< (v8.length:Int)) (YIC (Ynn lo (v8,v9,v10,(v8.getD v10.toNat ((YIU #[]),[])).2,(((v8.getD v10.toNat ((YIU #[]),[])).2).length:Int),(0:Int),out3)) fun y355=>some (.inl (y355.1,y355.2.1,(YIV .i64 (y355.2.2.1+(1:Int))),y355.2.2.2))))else(some (.inr out3))
def Ynq(lo:Lo):Zt0×Int×Int×Zt3->Option ((Zt3)):=lo.run (Ynp lo)
def Yyk(lo:Lo):LpE:=⟨3,[(3,none,false)],(Zsg [3,8,9,10] [.ref 0,.l Zc7,.j,.j] [.sq (cs [.s])]),[⟨.exit 0,(Zsg [3] [.ref 0] [.sq (cs [.s])])⟩],Ynq lo⟩
def Yyl(lo:Lo):LL:=(Yyk lo,.loop q84_L3_b.er)::Yno lo
theorem Yym(lo:Lo):Lk lo pf (fs84 lo) 0 (Yyl lo):=.l (Yyj lo) (Ynp lo)
def q84(lo:Lo)(l0:List (ByteArray×Zt5)):Option (Zt3):=
  YIC (Ynq lo (l0,(l0.length:Int),(0:Int),[])) fun y356=>some y356
def Yyn:VFn:=⟨true,39,[.t 2],
 (Rg [o 2 (.mv (ke (cs [.s])))]
 (Rg [o 3 (.mv (ke (cs [.s])))]
 (.seq (Rg [oM 8 0,oN 9 8,oK 10 0]
 (.blk 0 (.loop 3 q84_L3_b)))
 (Rg [oM 38 3,oM 2 38]
 (Fr 2)))))⟩
def Ynr(lo:Lo):FnE:=Zfe 521 true (Zsg [0] [.l Zc7] []) (.l (cs [.s])) [] (fun x=>q84 lo x:Zt0->Option (Zt3))
noncomputable def fs85(lo:Lo):List FnE:=Ynr lo::fs84 lo
theorem Yyo(h:GZ P fm fs84 lo)(t:Ti P fm 521 Yyn):GZ P fm fs85 lo:=
  h.p (Ynr lo) (Yym lo) t
end Go.Abs.G47
namespace Go.Abs.G47
open Go Go.Abs
set_option maxRecDepth 100000
set_option maxHeartbeats 1000000
variable{P:Program}{fm:FM}{lo:Lo}
def q85_L14_b:VCode:=
 (Rg [oR 34 .lss 33 32]
 (.seq (Ce 34 0)
 (.seq (.blk 1 (Rg [oM 35 33,oI 36 1 31 33,oL 37 36,oM 7 35,oM 8 37]
 (.reg [oM 38 6,oM 39 8,oF 40 0 3,oL 41 40,oM 42 7,oI 43 1 41 42,oL 44 43,o 45 (.build [.s (⟨#[]⟩),.i .i64 0,.i .i64 0,.s (⟨#[]⟩)] [(0,1,44)]),on (.mput none .s Zc10 true 38 39 45)])))
 (.reg [oR 46 .add 33 (k 1),oM 33 46]))))
def Yns(lo:Lo):Zp48->Option (Zp48⊕ ((Zt3×Zt0×Zt3×Zt0×Int×Zt8×Bool×Bool))):=fun x=>match x with
  | (v31,v32,v33,from2_0,from2_1,to3_0,to3_1,h2_0,h2_1,h2_2,h2_3)=>bif(decide (v33<v32))then(chk (0<=v33/\v33< (v31.length:Int)) (chk (0<=v33/\v33< (to3_0.length:Int)) (some (.inl (v31,v32,(YIV .i64 (v33+1)),from2_0,from2_1,to3_0,to3_1,(mck eqS h2_0 (v31.getD v33.toNat (YIU #[])) h2_1),(mpt eqS h2_0 (v31.getD v33.toNat (YIU #[])) ((to3_0.getD v33.toNat (YIU #[])),(0:Int),(0:Int),(YIU #[])) h2_1),h2_2,h2_3)))))else(some (.inr (from2_0,from2_1,to3_0,to3_1,h2_0,h2_1,h2_2,h2_3)))
def Ynt(lo:Lo):Zp48->Option ((Zt3×Zt0×Zt3×Zt0×Int×Zt8×Bool×Bool)):=lo.run (Yns lo)
def Yyp(lo:Lo):LpE:=⟨14,[],(Zsg [2,3,6,31,32,33] [.ptr 0 0 0,.ptr 1 0 0,.np 2,.l (cs [.s]),.j,.j] [.st [.l (cs [.s]),.l Zc7],.st [.l (cs [.s]),.l Zc7],.st [.j,.l Zc19,.b,.b]]),[⟨.exit 0,(Zsg [2,3,6] [.ptr 0 0 0,.ptr 1 0 0,.np 2] [.st [.l (cs [.s]),.l Zc7],.st [.l (cs [.s]),.l Zc7],.st [.j,.l Zc19,.b,.b]])⟩],Ynt lo⟩
def Ynu(lo:Lo):LL:=(Yyp lo,.loop q85_L14_b.er)::[]
theorem Yyq(lo:Lo):Lk lo pf (fs85 lo) 0 (Ynu lo):=.l .n (Yns lo)
def q85_L3_b:VCode:=
 (Rg [oR 59 .lss 58 57]
 (.seq (Ce 59 2)
 (.seq (.blk 3 (Rg [oI 60 1 56 58,oL 61 60,oM 11 61]
 (.reg [oM 62 9,oM 63 6,oM 64 11,o 65 (.mget none .s Zc10 true false 63 64),o 66 (.bsl Zc11 1 [(0,65)]),o 67 (.app Zc11 0 62 66),oM 9 67])))
 (.reg [oR 68 .add 58 (k 1),oM 58 68]))))
def Ynv(lo:Lo):Zp58->Option (Zp58⊕ ((Zt5))):=fun x=>match x with
  | (v56,v57,v58,h0_0,h0_1,h0_2,h0_3,out9)=>bif(decide (v58<v57))then(chk (0<=v58/\v58< (v56.length:Int)) (chk (out9.length+([(mgt eqS (v56.getD v58.toNat (YIU #[])) h0_1 Zd0)]).length<=maxEl) (some (.inl (v56,v57,(YIV .i64 (v58+1)),h0_0,h0_1,h0_2,h0_3,(out9++([(mgt eqS (v56.getD v58.toNat (YIU #[])) h0_1 Zd0)])))))))else(some (.inr out9))
def Ynw(lo:Lo):Zp58->Option ((Zt5)):=lo.run (Ynv lo)
def Yyr(lo:Lo):LpE:=⟨3,[(9,none,false)],(Zsg [6,9,56,57,58] [.np 0,.ref 1,.l (cs [.s]),.j,.j] [.st [.j,.l Zc19,.b,.b],.sq Zc11]),[⟨.exit 2,(Zsg [9] [.ref 0] [.sq Zc11])⟩],Ynw lo⟩
def Yys(lo:Lo):LL:=(Yyr lo,.loop q85_L3_b.er)::Ynu lo
theorem Yyt(lo:Lo):Lk lo pf (fs85 lo) 0 (Yys lo):=.l (Yyq lo) (Ynv lo)
def q85(lo:Lo)(from0_0:List ByteArray)(from0_1:List (ByteArray×Zt5))(to1_0:List ByteArray)(to1_1:List (ByteArray×Zt5)):Option (Zt5×Bool):=
  YIC (q77 lo from0_0 from0_1) fun y325=>bif(!y325)then(some (([]:List Zp69),false))else(YIC (q77 lo to1_0 to1_1) fun y326=>bif(!y326)then(some (([]:List Zp69),false))else(bif(!decide ((from0_0.length:Int)=(to1_0.length:Int)))then(some (([]:List Zp69),false))else(YIC (Ynt lo (from0_0,(from0_0.length:Int),(0:Int),from0_0,from0_1,to1_0,to1_1,(0:Int),([]:List (Int×ByteArray×ByteArray×Int×Int×ByteArray)),false,false)) fun y327=>YIC (q83 lo y327.2.1 y327.2.2.2.1 y327.2.2.2.2.1 y327.2.2.2.2.2.1 y327.2.2.2.2.2.2.1 y327.2.2.2.2.2.2.2) fun y353=>bif(!y353.1)then(some (([]:List Zp69),false))else(YIC (q84 lo y327.2.1) fun y357=>YIC (Ynw lo (y357,(y357.length:Int),(0:Int),y353.2.1,y353.2.2.1,y353.2.2.2.1,y353.2.2.2.2,[])) fun y358=>some (y358,true)))))
def Yyu:VFn:=⟨true,70,[.t 4,.t 5],
 (Rg [oG 2 0,oG 3 1,o 4 (.mv (ke Zc11)),oB 5 false]
 (.seq (Rg [oT 12 2 2,oC 13 519 [12],oX 14 13,oM 15 14,gF 16 15 (.load true 2 3),gF 17 15 (.call 519 [16]),gF 18 15 (.not 17),oP 19 15 (kb true) 18,oM 20 19,gF 21 20 (.fad 0 2),gF 22 20 (.load false 1 21),gF 23 20 (.len 22),gF 24 20 (.fad 0 3),gF 25 20 (.load false 1 24),gF 26 20 (.len 25),gF 27 20 (.bin .neq 23 26),oP 28 20 (kb true) 27]
 (.cond 28 (Rg [o 4 (.mv (ke Zc11)),oB 5 false]
 (.fz [4,5] .ret))
 .skip))
 (Rg [o 29 (.mkm none .s Zc10 true),oM 6 29]
 (.seq (Rg [oF 30 0 2,oL 31 30,oN 32 31,oK 33 0]
 (.blk 0 (.loop 14 q85_L14_b)))
 (.seq (Rg [oM 47 6,oF 48 1 2,oL 49 48,oF 50 1 3,oL 51 50,oC 52 520 [47,49,51],oX 53 52]
 (.cond 53 (Rg [o 4 (.mv (ke Zc11)),oB 5 false]
 (.fz [4,5] .ret))
 .skip))
 (Rg [o 9 (.mv (ke Zc11))]
 (.seq (Rg [oF 54 1 2,oL 55 54,oC 56 521 [55],oN 57 56,oK 58 0]
 (.blk 2 (.loop 3 q85_L3_b)))
 (Rg [oM 69 9,oM 4 69,oB 5 true]
 (.fz [4,5] .ret)))))))))⟩
def Ynx(lo:Lo):FnE:=Zfe 479 true (Zsg [0,1] [.ag [.l (cs [.s]),.l Zc7],.ag [.l (cs [.s]),.l Zc7]] []) (.tp [.l Zc11,.b]) [] (fun x=>q85 lo x.1 x.2.1 x.2.2.1 x.2.2.2:Zt3×Zt0×Zt3×Zt0->Option (Zt5×Bool))
noncomputable def fs86(lo:Lo):List FnE:=Ynx lo::fs85 lo
theorem Yyv(h:GZ P fm fs85 lo)(t:Ti P fm 479 Yyu):GZ P fm fs86 lo:=
  h.p (Ynx lo) (Yyt lo) t
def q86(lo:Lo)(p0_0:List ByteArray)(p0_1:List (ByteArray×Zt5))(q1_0:List ByteArray)(q1_1:List (ByteArray×Zt5)):Option Bool:=
  YIC (q85 lo q1_0 q1_1 p0_0 p0_1) fun y359=>some y359.2
def Yyw:VFn:=⟨true,14,[.t 4],
 (Rg [oG 2 0,oG 3 1,oB 4 false]
 (Rg [oT 8 2 3,oT 9 2 2,oC 10 479 [8,9],oM 7 10,oE 11 7 0,oE 12 7 1,oM 5 11,oM 6 12]
 (Rg [oM 13 6,oM 4 13]
 (Fr 4))))⟩
def Yny(lo:Lo):FnE:=Zfe 482 true (Zsg [0,1] [.ag [.l (cs [.s]),.l Zc7],.ag [.l (cs [.s]),.l Zc7]] []) .b [] (fun x=>q86 lo x.1 x.2.1 x.2.2.1 x.2.2.2:Zt3×Zt0×Zt3×Zt0->Option Bool)
noncomputable def fs87(lo:Lo):List FnE:=Yny lo::fs86 lo
theorem Yyx(h:GZ P fm fs86 lo)(t:Ti P fm 482 Yyw):GZ P fm fs87 lo:=
  h.p (Yny lo) .n t
def q87_L11_b:VCode:=
 (Rg [oR 21 .lss 20 19]
 (.seq (Ce 21 0)
 (.seq (.blk 1 (Rg [oI 22 2 18 20,oT 23 2 22,o 6 (.alloc [.s (⟨#[]⟩),.e Zc11]),oS 2 6 23]
 (.reg [oF 24 1 4,⟨some 25,.load false 1 24,none,true,false⟩,oF 26 0 6,⟨some 27,.load false 1 26,none,true,false⟩,oF 28 1 6,oL 29 28,o 30 (.callN 527 [29] true),o 31 (.build [.s (⟨#[]⟩),.e Zc11] [(0,1,27),(1,1,30)]),o 32 (.bsl Zc7 1 [(0,31)]),o 33 (.app Zc7 0 25 32),oF 34 1 4,oS 1 34 33])))
 (.reg [oR 35 .add 20 (k 1),oM 20 35]))))
def Ynz(lo:Lo):Zp65->Option (Zp65⊕ ((Zt3×Zt0×Zt3×Zt0))):=fun x=>match x with
  | (v18,v19,v20,v2_0,v2_1,h2,h3)=>bif(decide (v20<v19))then(chk (0<=v20/\v20< (v18.length:Int)) (YIC (q79 lo ((v18.getD v20.toNat ((YIU #[]),[])).2)) fun y363=>chk (h3.length+([((v18.getD v20.toNat ((YIU #[]),[])).1,y363)]).length<=maxEl) (some (.inl (v18,v19,(YIV .i64 (v20+1)),v2_0,v2_1,h2,(h3++([((v18.getD v20.toNat ((YIU #[]),[])).1,y363)])))))))else(some (.inr (v2_0,v2_1,h2,h3)))
def YnA(lo:Lo):Zp65->Option ((Zt3×Zt0×Zt3×Zt0)):=lo.run (Ynz lo)
def Yyy(lo:Lo):LpE:=⟨11,[(4,some 1,false)],(Zsg [2,4,18,19,20] [.ptr 0 0 0,.ptr 1 0 0,.l Zc7,.j,.j] [.st [.l (cs [.s]),.l Zc7],.st [.ref 2,.ref 3],.sq (cs [.s]),.sq Zc7]),[⟨.exit 0,(Zsg [2,4] [.ptr 0 0 0,.ptr 1 0 0] [.st [.l (cs [.s]),.l Zc7],.st [.ref 2,.ref 3],.sq (cs [.s]),.sq Zc7])⟩],YnA lo⟩
def YnB(lo:Lo):LL:=(Yyy lo,.loop q87_L11_b.er)::[]
theorem Yyz(lo:Lo):Lk lo pf (fs87 lo) 0 (YnB lo):=.l .n (Ynz lo)
def q87_L3_b:VCode:=
 (.seq (Rg [oM 36 7,oF 37 1 4,oL 38 37,oN 39 38,oR 40 .lss 36 39]
 (Ce 40 2))
 (.blk 3 (.seq (.fz [38] (.reg [oF 41 0 4,⟨some 42,.load false 1 41,none,true,false⟩,oF 43 1 4,⟨some 44,.load false 1 43,none,true,false⟩,oM 45 7,o 46 (.slcR 2 44 none (some 45)),oF 47 1 4,⟨some 48,.load false 1 47,none,true,false⟩,oM 49 7,oR 50 .add 49 (k 1),o 51 (.slcR 2 48 (some 50) none),o 52 (.bsl (cs [.l Zc7]) 2 [(0,46),(1,51)]),⟨some 53,.call 528 [52],none,true,false⟩,o 54 (.build [.e (cs [.s]),.e Zc7] [(0,1,42),(1,1,53)]),o 8 (.alloc [.e (cs [.s]),.e Zc7]),oS 2 8 54]))
 (Rg [oT 55 2 8,oC 56 519 [55],oM 57 56,gT 58 57 (.load true 2 8),gT 59 57 (.load true 2 4),gT 60 57 (.call 482 [58,59]),oP 61 57 60 (kb false)]
 (.cond 61 (.reg [oT 62 2 8,oS 2 4 62])
 (.reg [oM 63 7,oR 64 .add 63 (k 1),oM 7 64]))))))
def YnC(lo:Lo):Int×Zt3×Zt0×Zt0×Zt3->Option ((Int×Zt3×Zt0×Zt0×Zt3)⊕ ((Zt3×Zt0×Zt0×Zt3))):=fun x=>match x with
  | (i7,v2_0,v2_1,out4,h2)=>bif(decide (i7< (out4.length:Int)))then(chk (0<=(0:Int)/\0<=i7/\i7<=(out4.length:Int)) (chk (0<=(YIV .i64 (i7+1))/\ (YIV .i64 (i7+1))<=(out4.length:Int)/\ (out4.length:Int)<=(out4.length:Int)) (YIC (q81 lo ([((out4.take i7.toNat).drop 0),((out4.take (out4.length:Int).toNat).drop (YIV .i64 (i7+1)).toNat)])) fun y365=>YIC (q77 lo h2 y365) fun y366=>bif y366 then(YIC (q86 lo h2 y365 h2 out4) fun y367=>bif y367 then(some (.inl (i7,v2_0,v2_1,y365,h2)))else(some (.inl ((YIV .i64 (i7+1)),v2_0,v2_1,out4,h2))))else(some (.inl ((YIV .i64 (i7+1)),v2_0,v2_1,out4,h2))))))else(some (.inr (v2_0,v2_1,out4,h2)))
def YnD(lo:Lo):Int×Zt3×Zt0×Zt0×Zt3->Option ((Zt3×Zt0×Zt0×Zt3)):=lo.run (YnC lo)
def YyA(lo:Lo):LpE:=⟨3,[(4,some 1,false)],(Zsg [2,4,7] [.ptr 0 0 0,.ptr 1 0 0,.j] [.st [.l (cs [.s]),.l Zc7],.st [.ref 2,.l Zc7],.sq (cs [.s])]),[⟨.exit 2,(Zsg [2,4] [.ptr 0 0 0,.ptr 1 0 0] [.st [.l (cs [.s]),.l Zc7],.st [.ref 2,.l Zc7],.sq (cs [.s])])⟩],YnD lo⟩
def YyB(lo:Lo):LL:=(YyA lo,.loop q87_L3_b.er)::YnB lo
theorem YyC(lo:Lo):Lk lo pf (fs87 lo) 0 (YyB lo):=.l (Yyz lo) (YnC lo)
def q87(lo:Lo)(q0_0:List ByteArray)(q0_1:List (ByteArray×Zt5)):Option (Zt3×Zt0×Int):=
  YIC (q77 lo q0_0 q0_1) fun y361=>bif(!y361)then(some (([]:List ByteArray),([]:List (ByteArray×Zt5)),(1:Int)))else(YIC (q78 lo q0_0) fun y362=>YIC (YnA lo (q0_1,(q0_1.length:Int),(0:Int),([]:List ByteArray),([]:List (ByteArray×Zt5)),y362,[])) fun y364=>YIC (YnD lo ((0:Int),y364.1,y364.2.1,y364.2.2.2,y364.2.2.1)) fun y368=>some (y368.2.2.2,y368.2.2.1,(0:Int)))
def YyD:VFn:=⟨true,66,[.c 2 true 2,.t 3],
 (Rg [oG 1 0,o 2 (.alloc [.e (cs [.s]),.e Zc7]),oK 3 0]
 (.seq (Rg [oT 9 2 1,oC 10 519 [9],oX 11 10]
 (.cond 11 (Rg [o 12 (.build [.e (cs [.s]),.e Zc7] []),oS 2 2 12,oK 3 1]
 (.fz [2,3] .ret))
 .skip))
 (Rg [oF 13 0 1,oL 14 13,oC 15 269 [14],o 16 (.build [.e (cs [.s]),.e Zc7] [(0,1,15)]),o 4 (.alloc [.e (cs [.s]),.e Zc7]),oS 2 4 16]
 (.seq (Rg [oF 17 1 1,oL 18 17,oN 19 18,oK 20 0]
 (.blk 0 (.loop 11 q87_L11_b)))
 (.seq (Rg [oK 7 0]
 (.blk 2 (.fz [2000004] (.loop 3 q87_L3_b))))
 (Rg [oT 65 2 4,oS 2 2 65,oK 3 0]
 (.fz [2,3] .ret)))))))⟩
def YnE(lo:Lo):FnE:=Zfe 484 true (Zsg [0] [.ag [.l (cs [.s]),.l Zc7]] []) (.tp [.ag [.l (cs [.s]),.l Zc7],.j]) [] (fun x=>q87 lo x.1 x.2:Zt3×Zt0->Option (Zt3×Zt0×Int))
noncomputable def fs88(lo:Lo):List FnE:=YnE lo::fs87 lo
theorem YyE(h:GZ P fm fs87 lo)(t:Ti P fm 484 YyD):GZ P fm fs88 lo:=
  h.p (YnE lo) (YyC lo) t
def q88(lo:Lo)(i0:Int):Option ByteArray:=
  bif(decide (i0<10))then(chk (0<=i0/\i0<=(YIV .i64 (i0+1))/\ (YIV .i64 (i0+1))<=((YIU #[48,49,50,51,52,53,54,55,56,57,97,98,99,100,101,102,103,104,105,106,107,108,109,110,111,112,113,114,115,116,117,118,119,120,121,122]).size:Int)) (some ((YIU #[48,49,50,51,52,53,54,55,56,57,97,98,99,100,101,102,103,104,105,106,107,108,109,110,111,112,113,114,115,116,117,118,119,120,121,122]).extract i0.toNat (YIV .i64 (i0+1)).toNat)))else(chk (0<=(YIV .i64 (i0*2))/\ (YIV .i64 (i0*2))<=(YIV .i64 ((YIV .i64 (i0*2))+(2:Int)))/\ (YIV .i64 ((YIV .i64 (i0*2))+(2:Int)))<=((YIU #[48,48,48,49,48,50,48,51,48,52,48,53,48,54,48,55,48,56,48,57,49,48,49,49,49,50,49,51,49,52,49,53,49,54,49,55,49,56,49,57,50,48,50,49,50,50,50,51,50,52,50,53,50,54,50,55,50,56,50,57,51,48,51,49,51,50,51,51,51,52,51,53,51,54,51,55,51,56,51,57,52,48,52,49,52,50,52,51,52,52,52,53,52,54,52,55,52,56,52,57,53,48,53,49,53,50,53,51,53,52,53,53,53,54,53,55,53,56,53,57,54,48,54,49,54,50,54,51,54,52,54,53,54,54,54,55,54,56,54,57,55,48,55,49,55,50,55,51,55,52,55,53,55,54,55,55,55,56,55,57,56,48,56,49,56,50,56,51,56,52,56,53,56,54,56,55,56,56,56,57,57,48,57,49,57,50,57,51,57,52,57,53,57,54,57,55,57,56,57,57]).size:Int)) (some ((YIU #[48,48,48,49,48,50,48,51,48,52,48,53,48,54,48,55,48,56,48,57,49,48,49,49,49,50,49,51,49,52,49,53,49,54,49,55,49,56,49,57,50,48,50,49,50,50,50,51,50,52,50,53,50,54,50,55,50,56,50,57,51,48,51,49,51,50,51,51,51,52,51,53,51,54,51,55,51,56,51,57,52,48,52,49,52,50,52,51,52,52,52,53,52,54,52,55,52,56,52,57,53,48,53,49,53,50,53,51,53,52,53,53,53,54,53,55,53,56,53,57,54,48,54,49,54,50,54,51,54,52,54,53,54,54,54,55,54,56,54,57,55,48,55,49,55,50,55,51,55,52,55,53,55,54,55,55,55,56,55,57,56,48,56,49,56,50,56,51,56,52,56,53,56,54,56,55,56,56,56,57,57,48,57,49,57,50,57,51,57,52,57,53,57,54,57,55,57,56,57,57]).extract (YIV .i64 (i0*2)).toNat (YIV .i64 ((YIV .i64 (i0*2))+(2:Int))).toNat)))
def YyF:VFn:=⟨true,15,[.t 2],
 (Rg [o 2 (.mv (ks (⟨#[]⟩)))]
 (.seq (Rg [oM 3 0,oR 4 .lss 3 (k 10)]
 (.cond 4 (Rg [oM 5 0,oM 6 0,oR 7 .add 6 (k 1),o 8 (.slcS (ks (⟨#[48,49,50,51,52,53,54,55,56,57,97,98,99,100,101,102,103,104,105,106,107,108,109,110,111,112,113,114,115,116,117,118,119,120,121,122]⟩)) (some 5) (some 7)),oM 2 8]
 (Fr 2))
 .skip))
 (Rg [oM 9 0,oR 10 .mul 9 (k 2),oM 11 0,oR 12 .mul 11 (k 2),oR 13 .add 12 (k 2),o 14 (.slcS (ks (⟨#[48,48,48,49,48,50,48,51,48,52,48,53,48,54,48,55,48,56,48,57,49,48,49,49,49,50,49,51,49,52,49,53,49,54,49,55,49,56,49,57,50,48,50,49,50,50,50,51,50,52,50,53,50,54,50,55,50,56,50,57,51,48,51,49,51,50,51,51,51,52,51,53,51,54,51,55,51,56,51,57,52,48,52,49,52,50,52,51,52,52,52,53,52,54,52,55,52,56,52,57,53,48,53,49,53,50,53,51,53,52,53,53,53,54,53,55,53,56,53,57,54,48,54,49,54,50,54,51,54,52,54,53,54,54,54,55,54,56,54,57,55,48,55,49,55,50,55,51,55,52,55,53,55,54,55,55,55,56,55,57,56,48,56,49,56,50,56,51,56,52,56,53,56,54,56,55,56,56,56,57,57,48,57,49,57,50,57,51,57,52,57,53,57,54,57,55,57,56,57,57]⟩)) (some 10) (some 13)),oM 2 14]
 (Fr 2))))⟩
def YnF(lo:Lo):FnE:=Zfe 1082 true (Zsg [0] [.j] []) .s [] (fun x=>q88 lo x:Int->Option ByteArray)
noncomputable def fs89(lo:Lo):List FnE:=YnF lo::fs88 lo
theorem YyG(h:GZ P fm fs88 lo)(t:Ti P fm 1082 YyF):GZ P fm fs89 lo:=
  h.p (YnF lo) .n t
noncomputable def fs90(lo:Lo):List FnE:=fs89 lo
noncomputable def fs91(lo:Lo):List FnE:=fs90 lo
def q91(lo:Lo)(i0:Int)(base1:Int):Option ByteArray:=
  bif(decide (base1=10))then(bif(decide (0<=i0))then(bif(decide (i0<100))then(YIC (q88 lo i0) fun y372=>some y372)else(bif(decide (i0<0))then(none)else(none)))else(bif(decide (i0<0))then(none)else(none)))else(none)
def YyH:VFn:=⟨true,54,[.t 4],
 (Rg [o 4 (.mv (ks (⟨#[]⟩)))]
 (.seq (Rg [oM 10 1,oR 11 .eql 10 (k 10)]
 (.cond 11 (.seq (Rg [oM 12 0,oR 13 .leq (k 0) 12,oM 14 13,gT 15 14 (.mv 0),gT 16 14 (.bin .lss 15 (k 100)),oP 17 14 16 (kb false)]
 (.cond 17 (Rg [oM 18 0,oC 19 1082 [18],oM 4 19]
 (Fr 4))
 .skip))
 (Rg [o 5 (.alloc [.i .u8 0,.i .u8 0,.i .u8 0,.i .u8 0,.i .u8 0,.i .u8 0,.i .u8 0,.i .u8 0,.i .u8 0,.i .u8 0,.i .u8 0,.i .u8 0,.i .u8 0,.i .u8 0,.i .u8 0,.i .u8 0,.i .u8 0,.i .u8 0,.i .u8 0,.i .u8 0,.i .u8 0,.i .u8 0,.i .u8 0,.i .u8 0])]
 (Rg [oM 20 0,o 21 (.conv .u64 20),oM 6 21]
 (.seq (Rg [oM 22 0,oR 23 .lss 22 (k 0)]
 (.cond 23 (.reg [oM 24 6,o 25 (.neg 24),oM 6 25])
 .skip))
 (Rg [oM 26 6,oC 27 1083 [26],oM 7 27]
 (.seq .bad
 (.seq (Rg [oM 33 0,oR 34 .lss 33 (k 0)]
 (.cond 34 (Rg [o 35 (.iada 1 24 5 (k 0)),on (.store 1 35 (ki .u8 45))]
 (.seq .bad
 (Fr 4)))
 .skip))
 (.seq .bad
 (Fr 4)))))))))
 .skip))
 (Rg [oM 45 0,o 46 (.conv .u64 45),oM 47 1,oM 48 0,oR 49 .lss 48 (k 0),oC 50 1085 [(ke Zc20),46,47,49,(kb false)],oM 44 50,oE 51 44 0,oE 52 44 1,oM 8 51,oM 9 52]
 (Rg [oM 53 9,oM 4 53]
 (Fr 4)))))⟩
def YnG(lo:Lo):FnE:=Zfe 1081 true (Zsg [0,1] [.j,.j] []) .s [] (fun x=>q91 lo x.1 x.2:Int×Int->Option ByteArray)
noncomputable def fs92(lo:Lo):List FnE:=YnG lo::fs91 lo
theorem YyI(h:GZ P fm fs91 lo)(t:Ti P fm 1081 YyH):GZ P fm fs92 lo:=
  h.p (YnG lo) .n t
def q92(lo:Lo)(i0:Int)(base1:Int):Option ByteArray:=
  YIC (q91 lo i0 base1) fun y376=>some y376
def YyJ:VFn:=⟨true,8,[.t 4],
 (Rg [o 4 (.mv (ks (⟨#[]⟩)))]
 (Rg [oM 5 0,oM 6 1,oC 7 1081 [5,6],oM 4 7]
 (Fr 4)))⟩
def YnH(lo:Lo):FnE:=Zfe 549 true (Zsg [0,1] [.j,.j] []) .s [] (fun x=>q92 lo x.1 x.2:Int×Int->Option ByteArray)
noncomputable def fs93(lo:Lo):List FnE:=YnH lo::fs92 lo
theorem YyK(h:GZ P fm fs92 lo)(t:Ti P fm 549 YyJ):GZ P fm fs93 lo:=
  h.p (YnH lo) .n t
def q93_L3_b:VCode:=
 (Rg [oR 10 .lss 9 8]
 (.seq (Ce 10 0)
 (.seq (.blk 1 (Rg [oM 11 9,oM 4 11]
 (Rg [oM 12 0,oM 13 4,o 14 (.idx 12 13),oM 5 14]
 (.blk 2 (Rg [oM 20 5,oR 21 .eql 20 (ki .u8 34),oM 22 21,gF 23 22 (.mv 5),gF 24 22 (.bin .eql 23 (ki .u8 92)),oP 25 22 (kb true) 24,oM 19 25]
 (.cond 19 (.reg [oM 26 3,oM 27 5,o 28 (.bsl Zc20 2 [(0,(ki .u8 92)),(1,27)]),o 29 (.appb 26 28),oM 3 29])
 (Rg [oM 31 5,oR 32 .eql 31 (ki .u8 10),oM 30 32]
 (.cond 30 (.reg [oM 33 3,o 34 (.bsl Zc20 2 [(0,(ki .u8 92)),(1,(ki .u8 110))]),o 35 (.appb 33 34),oM 3 35])
 (Rg [oM 37 5,oR 38 .lss 37 (ki .u8 32),oM 39 38,gF 40 39 (.mv 5),gF 41 39 (.bin .gtr 40 (ki .u8 126)),oP 42 39 (kb true) 41,oM 36 42]
 (.cond 36 (.reg [oM 43 3,oM 44 5,oR 45 .shr 44 (ki .u64 4),o 46 (.idx (ks (⟨#[48,49,50,51,52,53,54,55,56,57,97,98,99,100,101,102]⟩)) 45),oM 47 5,oR 48 .and 47 (ki .u8 15),o 49 (.idx (ks (⟨#[48,49,50,51,52,53,54,55,56,57,97,98,99,100,101,102]⟩)) 48),o 50 (.bsl Zc20 4 [(0,(ki .u8 92)),(1,(ki .u8 120)),(2,46),(3,49)]),o 51 (.appb 43 50),oM 3 51])
 (.reg [oM 15 3,oM 16 5,o 17 (.bsl Zc20 1 [(0,16)]),o 18 (.appb 15 17),oM 3 18])))))))))))
 (.reg [oR 52 .add 9 (k 1),oM 9 52]))))
def YnI(lo:Lo):Zp69->Option (Zp69⊕ByteArray):=fun x=>match x with
  | (s0,v8,v9,out3)=>bif(decide (v9<v8))then(chk (0<=v9/\v9< (s0.size:Int)) (bif(decide ((YCZ s0 v9)=(34:Int)))then(bif inB ([(92:Int),(YCZ s0 v9)])then(chk (out3.size+([(92:Int),(YCZ s0 v9)]).length<=maxEl) (some (.inl (s0,v8,(YIV .i64 (v9+1)),(out3++YC7 ([(92:Int),(YCZ s0 v9)]))))))else none)else(bif(decide ((YCZ s0 v9)=(92:Int)))then(bif inB ([(92:Int),(YCZ s0 v9)])then(chk (out3.size+([(92:Int),(YCZ s0 v9)]).length<=maxEl) (some (.inl (s0,v8,(YIV .i64 (v9+1)),(out3++YC7 ([(92:Int),(YCZ s0 v9)]))))))else none)else(bif(decide ((YCZ s0 v9)=(10:Int)))then(bif inB ([(92:Int),(110:Int)])then(chk (out3.size+([(92:Int),(110:Int)]).length<=maxEl) (some (.inl (s0,v8,(YIV .i64 (v9+1)),(out3++YC7 ([(92:Int),(110:Int)]))))))else none)else(bif(decide ((YCZ s0 v9)< (32:Int)))then(chk (0<=(4:Int)) (chk (0<=((YCZ s0 v9).fdiv (2^(min (4:Int).toNat (IntKind.bits .u8))))/\ ((YCZ s0 v9).fdiv (2^(min (4:Int).toNat (IntKind.bits .u8))))< ((YIU #[48,49,50,51,52,53,54,55,56,57,97,98,99,100,101,102]).size:Int)) (chk (0<=(bits .and .u8 (YCZ s0 v9) (15:Int))/\ (bits .and .u8 (YCZ s0 v9) (15:Int))< ((YIU #[48,49,50,51,52,53,54,55,56,57,97,98,99,100,101,102]).size:Int)) (bif inB ([(92:Int),(120:Int),(YCZ (YIU #[48,49,50,51,52,53,54,55,56,57,97,98,99,100,101,102]) ((YCZ s0 v9).fdiv (2^(min (4:Int).toNat (IntKind.bits .u8))))),(YCZ (YIU #[48,49,50,51,52,53,54,55,56,57,97,98,99,100,101,102]) (bits .and .u8 (YCZ s0 v9) (15:Int)))])then(chk (out3.size+([(92:Int),(120:Int),(YCZ (YIU #[48,49,50,51,52,53,54,55,56,57,97,98,99,100,101,102]) ((YCZ s0 v9).fdiv (2^(min (4:Int).toNat (IntKind.bits .u8))))),(YCZ (YIU #[48,49,50,51,52,53,54,55,56,57,97,98,99,100,101,102]) (bits .and .u8 (YCZ s0 v9) (15:Int)))]).length<=maxEl) (some (.inl (s0,v8,(YIV .i64 (v9+1)),(out3++YC7 ([(92:Int),(120:Int),(YCZ (YIU #[48,49,50,51,52,53,54,55,56,57,97,98,99,100,101,102]) ((YCZ s0 v9).fdiv (2^(min (4:Int).toNat (IntKind.bits .u8))))),(YCZ (YIU #[48,49,50,51,52,53,54,55,56,57,97,98,99,100,101,102]) (bits .and .u8 (YCZ s0 v9) (15:Int)))]))))))else none))))else(bif(decide ((126:Int)< (YCZ s0 v9)))then(chk (0<=(4:Int)) (chk (0<=((YCZ s0 v9).fdiv (2^(min (4:Int).toNat (IntKind.bits .u8))))/\ ((YCZ s0 v9).fdiv (2^(min (4:Int).toNat (IntKind.bits .u8))))< ((YIU #[48,49,50,51,52,53,54,55,56,57,97,98,99,100,101,102]).size:Int)) (chk (0<=(bits .and .u8 (YCZ s0 v9) (15:Int))/\ (bits .and .u8 (YCZ s0 v9) (15:Int))< ((YIU #[48,49,50,51,52,53,54,55,56,57,97,98,99,100,101,102]).size:Int)) (bif inB ([(92:Int),(120:Int),(YCZ (YIU #[48,49,50,51,52,53,54,55,56,57,97,98,99,100,101,102]) ((YCZ s0 v9).fdiv (2^(min (4:Int).toNat (IntKind.bits .u8))))),(YCZ (YIU #[48,49,50,51,52,53,54,55,56,57,97,98,99,100,101,102]) (bits .and .u8 (YCZ s0 v9) (15:Int)))])then(chk (out3.size+([(92:Int),(120:Int),(YCZ (YIU #[48,49,50,51,52,53,54,55,56,57,97,98,99,100,101,102]) ((YCZ s0 v9).fdiv (2^(min (4:Int).toNat (IntKind.bits .u8))))),(YCZ (YIU #[48,49,50,51,52,53,54,55,56,57,97,98,99,100,101,102]) (bits .and .u8 (YCZ s0 v9) (15:Int)))]).length<=maxEl) (some (.inl (s0,v8,(YIV .i64 (v9+1)),(out3++YC7 ([(92:Int),(120:Int),(YCZ (YIU #[48,49,50,51,52,53,54,55,56,57,97,98,99,100,101,102]) ((YCZ s0 v9).fdiv (2^(min (4:Int).toNat (IntKind.bits .u8))))),(YCZ (YIU #[48,49,50,51,52,53,54,55,56,57,97,98,99,100,101,102]) (bits .and .u8 (YCZ s0 v9) (15:Int)))]))))))else none))))else(bif inB ([(YCZ s0 v9)])then(chk (out3.size+([(YCZ s0 v9)]).length<=maxEl) (some (.inl (s0,v8,(YIV .i64 (v9+1)),(out3++YC7 ([(YCZ s0 v9)]))))))else none)))))))else(some (.inr out3))
def YnJ(lo:Lo):Zp69->Option ByteArray:=lo.run (YnI lo)
def YyL(lo:Lo):LpE:=⟨3,[],(Zsg [0,3,8,9] [.s,.ref 0,.j,.j] [.sb]),[⟨.exit 0,(Zsg [3] [.ref 0] [.sb])⟩],YnJ lo⟩
def YyM(lo:Lo):LL:=(YyL lo,.loop q93_L3_b.er)::[]
theorem YyN(lo:Lo):Lk lo pf (fs93 lo) 0 (YyM lo):=.l .n (YnI lo)
def q93(lo:Lo)(s0:ByteArray):Option ByteArray:=
  bif inB [(34:Int)]then(YIC (YnJ lo (s0,(s0.size:Int),(0:Int),(YC7 [(34:Int)]))) fun y379=>bif inB ([(34:Int)])then(chk (y379.size+([(34:Int)]).length<=maxEl) (some (y379++YC7 ([(34:Int)]))))else none)else none
def YyO:VFn:=⟨true,57,[.t 2],
 (Rg [o 2 (.mv (ks (⟨#[]⟩)))]
 (Rg [o 6 (.litb [(ki .u8 34)]),oM 3 6]
 (.seq (Rg [oM 7 0,o 8 (.lenS 7),oK 9 0]
 (.blk 0 (.loop 3 q93_L3_b)))
 (Rg [oM 53 3,o 54 (.bsl Zc20 1 [(0,(ki .u8 34))]),o 55 (.appb 53 54),o 56 (.bstr 55),oM 2 56]
 (Fr 2)))))⟩
def YnK(lo:Lo):FnE:=Zfe 550 true (Zsg [0] [.s] []) .s [] (fun x=>q93 lo x:ByteArray->Option ByteArray)
noncomputable def fs94(lo:Lo):List FnE:=YnK lo::fs93 lo
theorem YyP(h:GZ P fm fs93 lo)(t:Ti P fm 550 YyO):GZ P fm fs94 lo:=
  h.p (YnK lo) (YyN lo) t
def q94(lo:Lo)(v0_0:Int)(v0_1:Int)(v0_2:ByteArray):Option (ByteArray×Int):=
  YIC (q6 lo v0_0 v0_1 v0_2) fun y371=>bif(!y371)then(some ((YIU #[]),(1:Int)))else(bif(decide (v0_0=0))then(some ((YIU #[110,117,108,108]),(0:Int)))else(bif(decide (v0_0=1))then(YIC (q92 lo v0_1 (10:Int)) fun y377=>some (y377,(0:Int)))else(bif(decide (v0_0=3))then(YIC (q92 lo v0_1 (10:Int)) fun y378=>chk (YIs ((YIU #[63]).size+y378.size) 9223372036854775807=true) (some (((YIU #[63])++y378),(0:Int))))else(YIC (q93 lo v0_2) fun y380=>some (y380,(0:Int))))))
def YyQ:VFn:=⟨true,25,[.t 2,.t 3],
 (Rg [oG 1 0,o 2 (.mv (ks (⟨#[]⟩))),oK 3 0]
 (.seq (Rg [oT 4 3 1,oC 5 283 [4],oX 6 5]
 (.cond 6 (Rg [o 2 (.mv (ks (⟨#[]⟩))),oK 3 1]
 (.fz [2,3] .ret))
 .skip))
 (.seq (Rg [oF 7 0 1,oL 8 7]
 (.blk 0 (Rg [oR 10 .eql 8 (k 0),oM 9 10]
 (.cond 9 (Rg [o 2 (.mv (ks (⟨#[110,117,108,108]⟩))),oK 3 0]
 (.fz [2,3] .ret))
 (Rg [oR 12 .eql 8 (k 1),oM 11 12]
 (.cond 11 (Rg [oF 13 1 1,oL 14 13,oC 15 549 [14,(k 10)],oM 2 15,oK 3 0]
 (.fz [2,3] .ret))
 (Rg [oR 17 .eql 8 (k 3),oM 16 17]
 (.cond 16 (Rg [oF 18 1 1,oL 19 18,oC 20 549 [19,(k 10)],oR 21 .add (ks (⟨#[63]⟩)) 20,oM 2 21,oK 3 0]
 (.fz [2,3] .ret))
 .skip))))))))
 (Rg [oF 22 2 1,oL 23 22,oC 24 550 [23],oM 2 24,oK 3 0]
 (.fz [2,3] .ret)))))⟩
def YnL(lo:Lo):FnE:=Zfe 530 true (Zsg [0] [.ag [.j,.j,.s]] []) (.tp [.s,.j]) [] (fun x=>q94 lo x.1 x.2.1 x.2.2:Int×Int×ByteArray->Option (ByteArray×Int))
noncomputable def fs95(lo:Lo):List FnE:=YnL lo::fs94 lo
theorem YyR(h:GZ P fm fs94 lo)(t:Ti P fm 530 YyQ):GZ P fm fs95 lo:=
  h.p (YnL lo) .n t
def q95(lo:Lo)(l:List ByteArray)(sep:ByteArray):Option ByteArray:=YFh l sep
def YyS(lo:Lo):FnE:=vjoinE 169
noncomputable def fs96(lo:Lo):List FnE:=YyS lo::fs95 lo
theorem YyT(h:GZ P fm fs95 lo)(hG: ∀f,fm f=169->YC2 P f=true/\ ∃ρ:Go.Shelf.Ren,Go.Proofs.Lays.n156 P ρ/\Go.Proofs.Builder.Extra P ρ/\ρ.f 156=f):GZ P fm fs96 lo:=
  ⟨h.1,h.2,Ytr h.S rfl hG⟩
def q96_L6_b:VCode:=
 (Rg [oR 25 .lss 24 23]
 (.seq (Ce 25 2)
 (.seq (.blk 3 (Rg [oI 26 4 22 24,oT 27 4 26,o 9 (.alloc [.s (⟨#[]⟩),.i .i64 0,.i .i64 0,.s (⟨#[]⟩)]),oS 4 9 27]
 (Rg [oF 28 0 9,oL 29 28,oM 10 29]
 (.seq (Rg [oM 30 10,oR 31 .eql 30 (ks (⟨#[]⟩))]
 (.cond 31 (.reg [oF 33 1 9,oT 34 3 33,oC 35 530 [34],oM 32 35,oE 36 32 0,oE 37 32 1,oM 10 36])
 .skip))
 (.reg [oM 38 7,oM 39 10,o 40 (.bsl (cs [.s]) 1 [(0,39)]),o 41 (.app (cs [.s]) 0 38 40),oM 7 41])))))
 (.reg [oR 42 .add 24 (k 1),oM 24 42]))))
def YnM(lo:Lo):Zp43->Option (Zp43⊕ ((Zt0×Int×Int×Zt3×Zt0×Zt3×ByteArray×Zt5×Zt3))):=fun x=>match x with
  | (v15,v16,v17,v22,v23,v24,q1_0,q1_1,atoms4,a6_0,a6_1,terms7)=>bif(decide (v24<v23))then(chk (0<=v24/\v24< (v22.length:Int)) (bif(decide ((v22.getD v24.toNat Zd0).1=(YIU #[])))then(YIC (q94 lo ((v22.getD v24.toNat Zd0).2.1) ((v22.getD v24.toNat Zd0).2.2.1) ((v22.getD v24.toNat Zd0).2.2.2)) fun y381=>chk (terms7.length+[y381.1].length<=maxEl) (some (.inl (v15,v16,v17,v22,v23,(YIV .i64 (v24+1)),q1_0,q1_1,atoms4,a6_0,a6_1,(terms7++[y381.1])))))else(chk (terms7.length+([(v22.getD v24.toNat Zd0).1]).length<=maxEl) (some (.inl (v15,v16,v17,v22,v23,(YIV .i64 (v24+1)),q1_0,q1_1,atoms4,a6_0,a6_1,(terms7++([(v22.getD v24.toNat Zd0).1]))))))))else(some (.inr (v15,v16,v17,q1_0,q1_1,atoms4,a6_0,a6_1,terms7)))
def YnN(lo:Lo):Zp43->Option ((Zt0×Int×Int×Zt3×Zt0×Zt3×ByteArray×Zt5×Zt3)):=lo.run (YnM lo)
def YyU(lo:Lo):LpE:=⟨6,[(7,none,false)],(Zsg [1,4,6,7,15,16,17,22,23,24] [.ptr 0 0 0,.ref 1,.ptr 2 0 0,.ref 3,.l Zc7,.j,.j,.l Zc11,.j,.j] [.st [.l (cs [.s]),.l Zc7],.sq (cs [.s]),.st [.s,.l Zc11],.sq (cs [.s])]),[⟨.exit 2,(Zsg [1,4,6,7,15,16,17] [.ptr 0 0 0,.ref 1,.ptr 2 0 0,.ref 3,.l Zc7,.j,.j] [.st [.l (cs [.s]),.l Zc7],.sq (cs [.s]),.st [.s,.l Zc11],.sq (cs [.s])])⟩],YnN lo⟩
def YnO(lo:Lo):LL:=(YyU lo,.loop q96_L6_b.er)::[]
theorem YyV(lo:Lo):Lk lo pf (fs96 lo) 0 (YnO lo):=.l .n (YnM lo)
def q96_L3_b:VCode:=
 (Rg [oR 18 .lss 17 16]
 (.seq (Ce 18 0)
 (.seq (.blk 1 (Rg [oI 19 2 15 17,oT 20 2 19,o 6 (.alloc [.s (⟨#[]⟩),.e Zc11]),oS 2 6 20]
 (Rg [o 7 (.mv (ke (cs [.s])))]
 (.seq (Rg [oF 21 1 6,oL 22 21,oN 23 22,oK 24 0]
 (.blk 2 (.loop 6 q96_L6_b)))
 (.reg [oM 43 4,oF 44 0 6,oL 45 44,oR 46 .add 45 (ks (⟨#[40]⟩)),oM 47 7,o 48 (.call 169 [47,(ks (⟨#[44,32]⟩))]),oR 49 .add 46 48,oR 50 .add 49 (ks (⟨#[41]⟩)),o 51 (.bsl (cs [.s]) 1 [(0,50)]),o 52 (.app (cs [.s]) 0 43 51),oM 4 52])))))
 (.reg [oR 53 .add 17 (k 1),oM 17 53]))))
def YnP(lo:Lo):Zt0×Int×Int×Zt3×Zt0×Zt3->Option ((Zt0×Int×Int×Zt3×Zt0×Zt3)⊕ ((Zt3×Zt0×Zt3))):=fun x=>match x with
  | (v15,v16,v17,q1_0,q1_1,atoms4)=>bif(decide (v17<v16))then(chk (0<=v17/\v17< (v15.length:Int)) (YIC (YnN lo (v15,v16,v17,(v15.getD v17.toNat ((YIU #[]),[])).2,(((v15.getD v17.toNat ((YIU #[]),[])).2).length:Int),(0:Int),q1_0,q1_1,atoms4,(v15.getD v17.toNat ((YIU #[]),[])).1,(v15.getD v17.toNat ((YIU #[]),[])).2,[])) fun y382=>chk (YIs (y382.2.2.2.2.2.2.1.size+(YIU #[40]).size) 9223372036854775807=true) (YIC (q95 lo y382.2.2.2.2.2.2.2.2 (YIU #[44,32])) fun y383=>chk (YIs ((y382.2.2.2.2.2.2.1++(YIU #[40])).size+y383.size) 9223372036854775807=true) (chk (YIs (((y382.2.2.2.2.2.2.1++(YIU #[40]))++y383).size+(YIU #[41]).size) 9223372036854775807=true) (chk (y382.2.2.2.2.2.1.length+([(((y382.2.2.2.2.2.2.1++(YIU #[40]))++y383)++(YIU #[41]))]).length<=maxEl) (some (.inl (y382.1,y382.2.1,(YIV .i64 (y382.2.2.1+(1:Int))),y382.2.2.2.1,y382.2.2.2.2.1,(y382.2.2.2.2.2.1++([(((y382.2.2.2.2.2.2.1++(YIU #[40]))++y383)++(YIU #[41]))]))))))))))else(some (.inr (q1_0,q1_1,atoms4)))
def YnQ(lo:Lo):Zt0×Int×Int×Zt3×Zt0×Zt3->Option ((Zt3×Zt0×Zt3)):=lo.run (YnP lo)
def YyW(lo:Lo):LpE:=⟨3,[(4,none,false)],(Zsg [1,4,15,16,17] [.ptr 0 0 0,.ref 1,.l Zc7,.j,.j] [.st [.l (cs [.s]),.l Zc7],.sq (cs [.s])]),[⟨.exit 0,(Zsg [1,4] [.ptr 0 0 0,.ref 1] [.st [.l (cs [.s]),.l Zc7],.sq (cs [.s])])⟩],YnQ lo⟩
def YyX(lo:Lo):LL:=(YyW lo,.loop q96_L3_b.er)::YnO lo
theorem YyY(lo:Lo):Lk lo pf (fs96 lo) 0 (YyX lo):=.l (YyV lo) (YnP lo)
def q96(lo:Lo)(q0_0:List ByteArray)(q0_1:List (ByteArray×Zt5)):Option (ByteArray×Int):=
  YIC (q77 lo q0_0 q0_1) fun y370=>bif(!y370)then(some ((YIU #[]),(1:Int)))else(YIC (YnQ lo (q0_1,(q0_1.length:Int),(0:Int),q0_0,q0_1,[])) fun y384=>YIC (q95 lo y384.1 (YIU #[44,32])) fun y385=>chk (YIs ((YIU #[40]).size+y385.size) 9223372036854775807=true) (chk (YIs (((YIU #[40])++y385).size+(YIU #[41,32,58,32]).size) 9223372036854775807=true) (YIC (q95 lo y384.2.2 (YIU #[44,32])) fun y386=>chk (YIs ((((YIU #[40])++y385)++(YIU #[41,32,58,32])).size+y386.size) 9223372036854775807=true) (some (((((YIU #[40])++y385)++(YIU #[41,32,58,32]))++y386),(0:Int))))))
def YyZ:VFn:=⟨true,62,[.t 2,.t 3],
 (Rg [oG 1 0,o 2 (.mv (ks (⟨#[]⟩))),oK 3 0]
 (.seq (Rg [oT 11 2 1,oC 12 519 [11],oX 13 12]
 (.cond 13 (Rg [o 2 (.mv (ks (⟨#[]⟩))),oK 3 1]
 (.fz [2,3] .ret))
 .skip))
 (Rg [o 4 (.mv (ke (cs [.s])))]
 (.seq (Rg [oF 14 1 1,oL 15 14,oN 16 15,oK 17 0]
 (.blk 0 (.loop 3 q96_L3_b)))
 (Rg [oF 54 0 1,oL 55 54,o 56 (.call 169 [55,(ks (⟨#[44,32]⟩))]),oR 57 .add (ks (⟨#[40]⟩)) 56,oR 58 .add 57 (ks (⟨#[41,32,58,32]⟩)),oM 59 4,o 60 (.call 169 [59,(ks (⟨#[44,32]⟩))]),oR 61 .add 58 60,oM 2 61,oK 3 0]
 (.fz [2,3] .ret))))))⟩
def YnR(lo:Lo):FnE:=Zfe 489 true (Zsg [0] [.ag [.l (cs [.s]),.l Zc7]] []) (.tp [.s,.j]) [] (fun x=>q96 lo x.1 x.2:Zt3×Zt0->Option (ByteArray×Int))
noncomputable def fs97(lo:Lo):List FnE:=YnR lo::fs96 lo
theorem Yy0(h:GZ P fm fs96 lo)(t:Ti P fm 489 YyZ):GZ P fm fs97 lo:=
  h.p (YnR lo) (YyY lo) t
def q97_L3_b:VCode:=
 (.seq (Rg [oM 11 5,oM 12 0,oN 13 12,oR 14 .lss 11 13]
 (Ce 14 0))
 (.seq (.blk 1 (Rg [oM 17 0,oM 18 5,oI 19 1 17 18,oL 20 19,oM 21 1,oM 22 5,oI 23 1 21 22,oL 24 23,oR 25 .neq 20 24]
 (.cond 25 (Rg [oB 4 false]
 (Fr 4))
 .skip)))
 (.reg [oM 15 5,oR 16 .add 15 (k 1),oM 5 16])))
def Yer(lo:Lo):(List Int)× (List Int)×Int->Option (((List Int)× (List Int)×Int)⊕ (Bool⊕Unit)):=fun x=>match x with
  | (a0,b1,i5)=>bif(decide (i5< (a0.length:Int)))then(chk (0<=i5/\i5< (a0.length:Int)) (chk (0<=i5/\i5< (b1.length:Int)) (bif(!decide ((a0.getD i5.toNat (0:Int))=(b1.getD i5.toNat (0:Int))))then(some (.inr (.inl false)))else(some (.inl (a0,b1,(YIV .i64 (i5+1))))))))else(some (.inr (.inr ())))
def YgO(lo:Lo):(List Int)× (List Int)×Int->Option (Bool⊕Unit):=lo.run (Yer lo)
def Yy1(lo:Lo):LpE:=⟨3,[],(Zsg [0,1,5] [.l (cs [I]),.l (cs [I]),.j] []),[⟨.ret,(Zsg [4] [.b] [])⟩,⟨.exit 0,(Zsg [] [] [])⟩],YgO lo⟩
def Yy2(lo:Lo):LL:=(Yy1 lo,.loop q97_L3_b.er)::[]
theorem Yy3(lo:Lo):Lk lo pf (fs97 lo) 0 (Yy2 lo):=.l .n (Yer lo)
def q97(lo:Lo)(a0:List Int)(b1:List Int):Option Bool:=
  bif(!decide ((a0.length:Int)=(b1.length:Int)))then(some false)else(YIC (YgO lo (a0,b1,(0:Int))) fun y388=>alt2 y388 (fun y389=>some y389) (fun y390=>some true))
def Yy4:VFn:=⟨true,26,[.t 4],
 (Rg [oB 4 false]
 (.seq (Rg [oM 6 0,oN 7 6,oM 8 1,oN 9 8,oR 10 .neq 7 9]
 (.cond 10 (Rg [oB 4 false]
 (Fr 4))
 .skip))
 (.seq (Rg [oK 5 0]
 (.blk 0 (.loop 3 q97_L3_b)))
 (Rg [oB 4 true]
 (Fr 4)))))⟩
def YnS(lo:Lo):FnE:=Zfe 351 true (Zsg [0,1] [.l (cs [I]),.l (cs [I])] []) .b [] (fun x=>q97 lo x.1 x.2:(List Int)× (List Int)->Option Bool)
noncomputable def fs98(lo:Lo):List FnE:=YnS lo::fs97 lo
theorem Yy5(h:GZ P fm fs97 lo)(t:Ti P fm 351 Yy4):GZ P fm fs98 lo:=
  h.p (YnS lo) (Yy3 lo) t
end Go.Abs.G47
namespace Go.Abs.G47
open Go Go.Abs
set_option maxRecDepth 100000
set_option maxHeartbeats 1000000
variable{P:Program}{fm:FM}{lo:Lo}
def q98_L3_b:VCode:=
 (.seq (Rg [oM 11 5,oM 12 0,oN 13 12,oR 14 .lss 11 13]
 (Ce 14 0))
 (.seq (.blk 1 (Rg [oM 17 0,oM 18 5,oI 19 1 17 18,oL 20 19,oM 21 1,oM 22 5,oI 23 1 21 22,oL 24 23,oC 25 351 [20,24],oX 26 25]
 (.cond 26 (Rg [oB 4 false]
 (Fr 4))
 .skip)))
 (.reg [oM 15 5,oR 16 .add 15 (k 1),oM 5 16])))
def Yes(lo:Lo):Zt13×Zt13×Int->Option ((Zt13×Zt13×Int)⊕ (Bool⊕Unit)):=fun x=>match x with
  | (a0,b1,i5)=>bif(decide (i5< (a0.length:Int)))then(chk (0<=i5/\i5< (a0.length:Int)) (chk (0<=i5/\i5< (b1.length:Int)) (YIC (q97 lo (a0.getD i5.toNat []) (b1.getD i5.toNat [])) fun y391=>bif(!y391)then(some (.inr (.inl false)))else(some (.inl (a0,b1,(YIV .i64 (i5+1))))))))else(some (.inr (.inr ())))
def YgP(lo:Lo):Zt13×Zt13×Int->Option (Bool⊕Unit):=lo.run (Yes lo)
def Yy6(lo:Lo):LpE:=⟨3,[],(Zsg [0,1,5] [.l Zc16,.l Zc16,.j] []),[⟨.ret,(Zsg [4] [.b] [])⟩,⟨.exit 0,(Zsg [] [] [])⟩],YgP lo⟩
def Yy7(lo:Lo):LL:=(Yy6 lo,.loop q98_L3_b.er)::[]
theorem Yy8(lo:Lo):Lk lo pf (fs98 lo) 0 (Yy7 lo):=.l .n (Yes lo)
def q98(lo:Lo)(a0:List ((List Int)))(b1:List ((List Int))):Option Bool:=
  bif(!decide ((a0.length:Int)=(b1.length:Int)))then(some false)else(YIC (YgP lo (a0,b1,(0:Int))) fun y392=>alt2 y392 (fun y393=>some y393) (fun y394=>some true))
def Yy9:VFn:=⟨true,27,[.t 4],
 (Rg [oB 4 false]
 (.seq (Rg [oM 6 0,oN 7 6,oM 8 1,oN 9 8,oR 10 .neq 7 9]
 (.cond 10 (Rg [oB 4 false]
 (Fr 4))
 .skip))
 (.seq (Rg [oK 5 0]
 (.blk 0 (.loop 3 q98_L3_b)))
 (Rg [oB 4 true]
 (Fr 4)))))⟩
def YnT(lo:Lo):FnE:=Zfe 346 true (Zsg [0,1] [.l Zc16,.l Zc16] []) .b [] (fun x=>q98 lo x.1 x.2:Zt13×Zt13->Option Bool)
noncomputable def fs99(lo:Lo):List FnE:=YnT lo::fs98 lo
theorem Yza(h:GZ P fm fs98 lo)(t:Ti P fm 346 Yy9):GZ P fm fs99 lo:=
  h.p (YnT lo) (Yy8 lo) t
noncomputable def q99(lo:Lo):Option Bool:=
  YIC (q1 lo (1:Int) ([(1:Int),(2:Int)])) fun y2=>YIC (q1 lo (2:Int) ([(1:Int),(3:Int)])) fun y3=>YIC (q1 lo (3:Int) ([(2:Int),(3:Int)])) fun y4=>YIC (q1 lo (1:Int) ([(3:Int)])) fun y5=>YIC (q2 lo (YIU #[120])) fun y6=>YIC (q2 lo (YIU #[121])) fun y7=>YIC (q2 lo (YIU #[121])) fun y8=>YIC (q66 lo ([((YIU #[114]),[(YIU #[97]),(YIU #[98])],[y2,y3,y4]),((YIU #[115]),[(YIU #[99])],[y5])]) ([(YIU #[120])]) ([((YIU #[114]),[y6,y7]),((YIU #[115]),[y8])])) fun y229=>YIC (q0 lo (2:Int)) fun y230=>YIC (q73 lo ([((YIU #[114]),[(YIU #[97]),(YIU #[98])],[y2,y3,y4]),((YIU #[115]),[(YIU #[99])],[y5])]) ([(YIU #[120])]) ([((YIU #[114]),[y6,y7]),((YIU #[115]),[y8])]) [y230.2]) fun y295=>YIC (q2 lo (YIU #[120])) fun y296=>YIC (q2 lo (YIU #[121])) fun y297=>YIC (q2 lo (YIU #[120])) fun y298=>YIC (q2 lo (YIU #[122])) fun y299=>YIC (q87 lo ([(YIU #[120])]) ([((YIU #[114]),[y296,y297]),((YIU #[114]),[y298,y299])])) fun y369=>YIC (q96 lo y369.1 y369.2.1) fun y387=>bif(decide (y229.2=(0:Int)))then(bif(decide (y295.2=(0:Int)))then(bif(decide (y369.2.2=(0:Int)))then(bif(decide (y387.2=(0:Int)))then(bif(decide ((y229.1.length:Int)=2))then(chk (0<=(1:Int)/\ (1:Int)< (y229.1.length:Int)) (chk (0<=(0:Int)/\ (0:Int)< ((y229.1.getD 1 []).length:Int)) (bif(decide (((y229.1.getD 1 []).getD 0 Zd1).2.1=(2:Int)))then(YIC (q98 lo y295.1 ([[(3:Int),(1:Int)]])) fun y395=>bif y395 then(bif(decide (y387.1=(YIU #[40,120,41,32,58,32,114,40,120,44,32,122,41])))then(YIC (q86 lo ([(YIU #[120])]) ([((YIU #[114]),[y296,y297]),((YIU #[114]),[y298,y299])]) y369.1 y369.2.1) fun y396=>bif y396 then(YIC (q86 lo y369.1 y369.2.1 ([(YIU #[120])]) ([((YIU #[114]),[y296,y297]),((YIU #[114]),[y298,y299])])) fun y397=>some y397)else(some false))else(some false))else(some false))else(some false))))else(some false))else(some false))else(some false))else(some false))else(some false)
def Yzb:VFn:=⟨true,129,[.t 0],
 (Rg [oB 0 false]
 (Rg [o 1 (.mv (.c (.f 497)))]
 (Rg [o 14 (.bsl (cs [.s]) 2 [(0,(ks (⟨#[97]⟩))),(1,(ks (⟨#[98]⟩)))]),oM 15 1,o 16 (.bsl (cs [I]) 2 [(0,(k 1)),(1,(k 2))]),o 17 (.dyn 15 [(k 1),16]),oM 18 1,o 19 (.bsl (cs [I]) 2 [(0,(k 1)),(1,(k 3))]),o 20 (.dyn 18 [(k 2),19]),oM 21 1,o 22 (.bsl (cs [I]) 2 [(0,(k 2)),(1,(k 3))]),o 23 (.dyn 21 [(k 3),22]),o 24 (.bsl Zc15 3 [(0,17),(1,20),(2,23)]),o 25 (.build [.s (⟨#[]⟩),.e (cs [.s]),.e Zc15] [(0,1,(ks (⟨#[114]⟩))),(1,1,14),(2,1,24)]),o 26 (.bsl (cs [.s]) 1 [(0,(ks (⟨#[99]⟩)))]),oM 27 1,o 28 (.bsl (cs [I]) 1 [(0,(k 3))]),o 29 (.dyn 27 [(k 1),28]),o 30 (.bsl Zc15 1 [(0,29)]),o 31 (.build [.s (⟨#[]⟩),.e (cs [.s]),.e Zc15] [(0,1,(ks (⟨#[115]⟩))),(1,1,26),(2,1,30)]),o 32 (.bsl Zc6 2 [(0,25),(1,31)]),o 33 (.build [.e Zc6] [(0,1,32)]),o 2 (.alloc [.e Zc6]),oS 1 2 33]
 (Rg [o 34 (.bsl (cs [.s]) 1 [(0,(ks (⟨#[120]⟩)))]),o 35 (.call 499 [(ks (⟨#[120]⟩))]),o 36 (.call 499 [(ks (⟨#[121]⟩))]),o 37 (.bsl Zc11 2 [(0,35),(1,36)]),o 38 (.build [.s (⟨#[]⟩),.e Zc11] [(0,1,(ks (⟨#[114]⟩))),(1,1,37)]),o 39 (.call 499 [(ks (⟨#[121]⟩))]),o 40 (.bsl Zc11 1 [(0,39)]),o 41 (.build [.s (⟨#[]⟩),.e Zc11] [(0,1,(ks (⟨#[115]⟩))),(1,1,40)]),o 42 (.bsl Zc7 2 [(0,38),(1,41)]),o 43 (.build [.e (cs [.s]),.e Zc7] [(0,1,34),(1,1,42)]),o 3 (.alloc [.e (cs [.s]),.e Zc7]),oS 2 3 43]
 (Rg [oT 45 1 2,oT 46 2 3,oC 47 476 [45,46],oM 44 47,oE 48 44 0,oE 49 44 1,oM 4 48,oM 5 49]
 (Rg [oT 51 1 2,oT 52 2 3,oC 53 498 [(k 2)],o 54 (.fld true 1 3 53),o 55 (.bsl Zc10 1 [(0,54)]),oC 56 495 [51,52,55],oM 50 56,oE 57 50 0,oE 58 50 1,oM 6 57,oM 7 58]
 (Rg [o 59 (.bsl (cs [.s]) 1 [(0,(ks (⟨#[120]⟩)))]),o 60 (.call 499 [(ks (⟨#[120]⟩))]),o 61 (.call 499 [(ks (⟨#[121]⟩))]),o 62 (.bsl Zc11 2 [(0,60),(1,61)]),o 63 (.build [.s (⟨#[]⟩),.e Zc11] [(0,1,(ks (⟨#[114]⟩))),(1,1,62)]),o 64 (.call 499 [(ks (⟨#[120]⟩))]),o 65 (.call 499 [(ks (⟨#[122]⟩))]),o 66 (.bsl Zc11 2 [(0,64),(1,65)]),o 67 (.build [.s (⟨#[]⟩),.e Zc11] [(0,1,(ks (⟨#[114]⟩))),(1,1,66)]),o 68 (.bsl Zc7 2 [(0,63),(1,67)]),o 69 (.build [.e (cs [.s]),.e Zc7] [(0,1,59),(1,1,68)]),o 8 (.alloc [.e (cs [.s]),.e Zc7]),oS 2 8 69]
 (Rg [oT 71 2 8,oC 72 484 [71],oM 70 72,oE 73 70 0,oE 74 70 1,o 9 (.alloc [.e (cs [.s]),.e Zc7]),oS 2 9 73,oM 10 74]
 (Rg [oT 76 2 9,oC 77 489 [76],oM 75 77,oE 78 75 0,oE 79 75 1,oM 11 78,oM 12 79]
 (Rg [oM 80 5,oR 81 .eql 80 (k 0),oM 82 81,gT 83 82 (.mv 7),gT 84 82 (.bin .eql 83 (k 0)),oP 85 82 84 (kb false),oM 86 85,gT 87 86 (.mv 10),gT 88 86 (.bin .eql 87 (k 0)),oP 89 86 88 (kb false),oM 90 89,gT 91 90 (.mv 12),gT 92 90 (.bin .eql 91 (k 0)),oP 93 90 92 (kb false),oM 13 93]
 (Rg [oM 94 13,oM 95 94,gT 96 95 (.mv 4),gT 97 95 (.len 96),gT 98 95 (.bin .eql 97 (k 2)),oP 99 95 98 (kb false),oM 100 99,gT 101 100 (.mv 4),gT 102 100 (.iad 1 101 (k 1)),gT 103 100 (.load false 1 102),gT 104 100 (.iad 3 103 (k 0)),gT 105 100 (.fad 1 104),gT 106 100 (.load false 1 105),gT 107 100 (.bin .eql 106 (k 2)),oP 108 100 107 (kb false),oM 109 108,gT 110 109 (.mv 6),gT 111 109 (.bsl (cs [I]) 2 [(0,(k 3)),(1,(k 1))]),gT 112 109 (.bsl Zc16 1 [(0,111)]),gT 113 109 (.call 346 [110,112]),oP 114 109 113 (kb false),oM 115 114,gT 116 115 (.mv 11),gT 117 115 (.bin .eql 116 (ks (⟨#[40,120,41,32,58,32,114,40,120,44,32,122,41]⟩))),oP 118 115 117 (kb false),oM 119 118,gT 120 119 (.load true 2 8),gT 121 119 (.load true 2 9),gT 122 119 (.call 482 [120,121]),oP 123 119 122 (kb false),oM 124 123,gT 125 124 (.load true 2 9),gT 126 124 (.load true 2 8),gT 127 124 (.call 482 [125,126]),oP 128 124 127 (kb false),oM 0 128]
 (Fr 0))))))))))))⟩
noncomputable def YnU(lo:Lo):FnE:=Zfe 469 true (Zsg [] [] []) .b [] (fun x=>q99 lo:Unit->Option Bool)
noncomputable def YGv(lo:Lo):List FnE:=YnU lo::fs99 lo
theorem Yzc(h:GZ P fm fs99 lo)(t:Ti P fm 469 Yzb):GZ P fm YGv lo:=
  h.p (YnU lo) .n t
noncomputable def YGN(lo:Lo):List FnE:=YGv lo
noncomputable def YGw(lo:Lo):List FnE:=YGN lo
def q102(lo:Lo)(c0:Int):Option Bool:=
  bif(decide (97<=c0))then(bif(decide (c0<=122))then(some true)else(bif(decide (65<=c0))then(bif(decide (c0<=90))then(some true)else(some (decide (c0=95))))else(some (decide (c0=95)))))else(bif(decide (65<=c0))then(bif(decide (c0<=90))then(some true)else(some (decide (c0=95))))else(some (decide (c0=95))))
def Yzd:VFn:=⟨true,21,[.t 2],
 (Rg [oB 2 false]
 (Rg [oM 3 0,oR 4 .geq 3 (ki .u8 97),oM 5 4,gT 6 5 (.mv 0),gT 7 5 (.bin .leq 6 (ki .u8 122)),oP 8 5 7 (kb false),oM 9 8,gF 10 9 (.mv 0),gF 11 9 (.bin .geq 10 (ki .u8 65)),gF 12 9 (.mv 11),gT 13 12 (.mv 0),gT 14 12 (.bin .leq 13 (ki .u8 90)),gF 15 9 (.pick 12 14 (kb false)),oP 16 9 (kb true) 15,oM 17 16,gF 18 17 (.mv 0),gF 19 17 (.bin .eql 18 (ki .u8 95)),oP 20 17 (kb true) 19,oM 2 20]
 (Fr 2)))⟩
def YnV(lo:Lo):FnE:=Zfe 295 true (Zsg [0] [.i .u8] []) .b [] (fun x=>q102 lo x:Int->Option Bool)
noncomputable def YFi(lo:Lo):List FnE:=YnV lo::YGw lo
theorem Yze(h:GZ P fm YGw lo)(t:Ti P fm 295 Yzd):GZ P fm YFi lo:=
  h.p (YnV lo) .n t
def q103_L3_b:VCode:=
 (.seq (Rg [oM 22 3,oM 23 0,o 24 (.lenS 23),oR 25 .lss 22 24]
 (Ce 25 0))
 (.seq (.blk 1 (Rg [oM 28 0,oM 29 3,o 30 (.idx 28 29),oC 31 295 [30],oX 32 31,oM 33 32,gT 34 33 (.mv 0),gT 35 33 (.mv 3),gT 36 33 (.idx 34 35),gT 37 33 (.bin .lss 36 (ki .u8 48)),gT 38 33 (.mv 37),gF 39 38 (.mv 0),gF 40 38 (.mv 3),gF 41 38 (.idx 39 40),gF 42 38 (.bin .gtr 41 (ki .u8 57)),gT 43 33 (.pick 38 (kb true) 42),oP 44 33 43 (kb false)]
 (.cond 44 (Rg [oB 2 false]
 (Fr 2))
 .skip)))
 (.reg [oM 26 3,oR 27 .add 26 (k 1),oM 3 27])))
def Yet(lo:Lo):ByteArray×Int->Option ((ByteArray×Int)⊕ (Bool⊕Unit)):=fun x=>match x with
  | (s0,i3)=>bif(decide (i3< (s0.size:Int)))then(chk (0<=i3/\i3< (s0.size:Int)) (YIC (q102 lo (YCZ s0 i3)) fun y412=>bif(!y412)then(chk (0<=i3/\i3< (s0.size:Int)) (bif(decide ((YCZ s0 i3)< (48:Int)))then(some (.inr (.inl false)))else(chk (0<=i3/\i3< (s0.size:Int)) (bif(decide ((57:Int)< (YCZ s0 i3)))then(some (.inr (.inl false)))else(some (.inl (s0,(YIV .i64 (i3+1)))))))))else(some (.inl (s0,(YIV .i64 (i3+1)))))))else(some (.inr (.inr ())))
def YgQ(lo:Lo):ByteArray×Int->Option (Bool⊕Unit):=lo.run (Yet lo)
def Yzf(lo:Lo):LpE:=⟨3,[],(Zsg [0,3] [.s,.j] []),[⟨.ret,(Zsg [2] [.b] [])⟩,⟨.exit 0,(Zsg [] [] [])⟩],YgQ lo⟩
def Yzg(lo:Lo):LL:=(Yzf lo,.loop q103_L3_b.er)::[]
theorem Yzh(lo:Lo):Lk lo pf (YFi lo) 0 (Yzg lo):=.l .n (Yet lo)
def q103(lo:Lo)(s0:ByteArray):Option Bool:=
  bif(decide ((s0.size:Int)=0))then(some false)else(bif(decide ((24:Int)< (s0.size:Int)))then(some false)else(chk (0<=(0:Int)/\ (0:Int)< (s0.size:Int)) (YIC (q102 lo (YCZ s0 (0:Int))) fun y411=>bif(!y411)then(some false)else(bif(decide (s0=(YIU #[110,117,108,108])))then(some false)else(YIC (YgQ lo (s0,(0:Int))) fun y413=>alt2 y413 (fun y414=>some y414) (fun y415=>some true))))))
def Yzi:VFn:=⟨true,45,[.t 2],
 (Rg [oB 2 false]
 (.seq (Rg [oM 4 0,o 5 (.lenS 4),oR 6 .eql 5 (k 0),oM 7 6,gF 8 7 (.mv 0),gF 9 7 (.lenS 8),gF 10 7 (.bin .gtr 9 (k 24)),oP 11 7 (kb true) 10,oM 12 11,gF 13 12 (.mv 0),gF 14 12 (.idx 13 (k 0)),gF 15 12 (.call 295 [14]),gF 16 12 (.not 15),oP 17 12 (kb true) 16,oM 18 17,gF 19 18 (.mv 0),gF 20 18 (.bin .eql 19 (ks (⟨#[110,117,108,108]⟩))),oP 21 18 (kb true) 20]
 (.cond 21 (Rg [oB 2 false]
 (Fr 2))
 .skip))
 (.seq (Rg [oK 3 0]
 (.blk 0 (.loop 3 q103_L3_b)))
 (Rg [oB 2 true]
 (Fr 2)))))⟩
def YnW(lo:Lo):FnE:=Zfe 258 true (Zsg [0] [.s] []) .b [] (fun x=>q103 lo x:ByteArray->Option Bool)
noncomputable def YFj(lo:Lo):List FnE:=YnW lo::YFi lo
theorem Yzj(h:GZ P fm YFi lo)(t:Ti P fm 258 Yzi):GZ P fm YFj lo:=
  h.p (YnW lo) (Yzh lo) t
def q104_L3_b:VCode:=
 (.seq (Rg [oM 6 5,oM 7 0,oN 8 7,oR 9 .lss 6 8]
 (Ce 9 0))
 (.seq (.blk 1 (Rg [oM 12 0,oM 13 5,oI 14 1 12 13,oL 15 14,oM 16 1,oR 17 .eql 15 16]
 (.cond 17 (Rg [oM 18 5,oM 4 18]
 (Fr 4))
 .skip)))
 (.reg [oM 10 5,oR 11 .add 10 (k 1),oM 5 11])))
def Yeu(lo:Lo):Zt3×ByteArray×Int->Option ((Zt3×ByteArray×Int)⊕ (Int⊕Unit)):=fun x=>match x with
  | (l0,name1,i5)=>bif(decide (i5< (l0.length:Int)))then(chk (0<=i5/\i5< (l0.length:Int)) (bif(decide ((l0.getD i5.toNat (YIU #[]))=name1))then(some (.inr (.inl i5)))else(some (.inl (l0,name1,(YIV .i64 (i5+1)))))))else(some (.inr (.inr ())))
def YgR(lo:Lo):Zt3×ByteArray×Int->Option (Int⊕Unit):=lo.run (Yeu lo)
def Yzk(lo:Lo):LpE:=⟨3,[],(Zsg [0,1,5] [.l (cs [.s]),.s,.j] []),[⟨.ret,(Zsg [4] [.j] [])⟩,⟨.exit 0,(Zsg [] [] [])⟩],YgR lo⟩
def Yzl(lo:Lo):LL:=(Yzk lo,.loop q104_L3_b.er)::[]
theorem Yzm(lo:Lo):Lk lo pf (YFj lo) 0 (Yzl lo):=.l .n (Yeu lo)
def q104(lo:Lo)(l0:List ByteArray)(name1:ByteArray):Option Int:=
  YIC (YgR lo (l0,name1,(0:Int))) fun y418=>alt2 y418 (fun y419=>some y419) (fun y420=>some (-1:Int))
def Yzn:VFn:=⟨true,19,[.t 4],
 (Rg [oK 4 0]
 (.seq (Rg [oK 5 0]
 (.blk 0 (.loop 3 q104_L3_b)))
 (Rg [oK 4 (-1)]
 (Fr 4))))⟩
def YnX(lo:Lo):FnE:=Zfe 272 true (Zsg [0,1] [.l (cs [.s]),.s] []) (.i .i64) [] (fun x=>q104 lo x.1 x.2:Zt3×ByteArray->Option Int)
noncomputable def YFk(lo:Lo):List FnE:=YnX lo::YFj lo
theorem Yzo(h:GZ P fm YFj lo)(t:Ti P fm 272 Yzn):GZ P fm YFk lo:=
  h.p (YnX lo) (Yzm lo) t
def q105_L3_b:VCode:=
 (.seq (Rg [oM 4 3,oM 5 0,oN 6 5,oR 7 .lss 4 6]
 (Ce 7 0))
 (.seq (.blk 1 (Rg [oM 10 0,oM 11 3,oI 12 1 10 11,oL 13 12,oC 14 258 [13],oX 15 14,oM 16 15,gF 17 16 (.mv 0),gF 18 16 (.mv 3),gF 19 16 (.slcR 1 17 none (some 18)),gF 20 16 (.mv 0),gF 21 16 (.mv 3),gF 22 16 (.iad 1 20 21),gF 23 16 (.load false 1 22),gF 24 16 (.call 272 [19,23]),gF 25 16 (.bin .geq 24 (k 0)),oP 26 16 (kb true) 25]
 (.cond 26 (Rg [oB 2 false]
 (Fr 2))
 .skip)))
 (.reg [oM 8 3,oR 9 .add 8 (k 1),oM 3 9])))
def Yev(lo:Lo):Zt3×Int->Option ((Zt3×Int)⊕ (Bool⊕Unit)):=fun x=>match x with
  | (l0,i3)=>bif(decide (i3< (l0.length:Int)))then(chk (0<=i3/\i3< (l0.length:Int)) (YIC (q103 lo (l0.getD i3.toNat (YIU #[]))) fun y417=>bif(!y417)then(some (.inr (.inl false)))else(chk (0<=(0:Int)/\0<=i3/\i3<=(l0.length:Int)) (chk (0<=i3/\i3< (l0.length:Int)) (YIC (q104 lo ((l0.take i3.toNat).drop 0) (l0.getD i3.toNat (YIU #[]))) fun y421=>bif(decide (0<=y421))then(some (.inr (.inl false)))else(some (.inl (l0,(YIV .i64 (i3+1))))))))))else(some (.inr (.inr ())))
def YgS(lo:Lo):Zt3×Int->Option (Bool⊕Unit):=lo.run (Yev lo)
def Yzp(lo:Lo):LpE:=⟨3,[],(Zsg [0,3] [.l (cs [.s]),.j] []),[⟨.ret,(Zsg [2] [.b] [])⟩,⟨.exit 0,(Zsg [] [] [])⟩],YgS lo⟩
def Yzq(lo:Lo):LL:=(Yzp lo,.loop q105_L3_b.er)::[]
theorem Yzr(lo:Lo):Lk lo pf (YFk lo) 0 (Yzq lo):=.l .n (Yev lo)
def q105(lo:Lo)(l0:List ByteArray):Option Bool:=
  YIC (YgS lo (l0,(0:Int))) fun y422=>alt2 y422 (fun y423=>some y423) (fun y424=>some true)
def Yzs:VFn:=⟨true,27,[.t 2],
 (Rg [oB 2 false]
 (.seq (Rg [oK 3 0]
 (.blk 0 (.loop 3 q105_L3_b)))
 (Rg [oB 2 true]
 (Fr 2))))⟩
def YnY(lo:Lo):FnE:=Zfe 259 true (Zsg [0] [.l (cs [.s])] []) .b [] (fun x=>q105 lo x:Zt3->Option Bool)
noncomputable def YFP(lo:Lo):List FnE:=YnY lo::YFk lo
theorem Yzt(h:GZ P fm YFk lo)(t:Ti P fm 259 Yzs):GZ P fm YFP lo:=
  h.p (YnY lo) (Yzr lo) t
def q106(lo:Lo)(v0_0:Int)(v0_1:Int)(v0_2:ByteArray):Option Bool:=
  bif(decide (v0_0=0))then(bif(decide (v0_1=0))then(some (decide (v0_2=(YIU #[]))))else(some false))else(bif(decide (v0_0=1))then(some (decide (v0_2=(YIU #[]))))else(bif(decide (v0_0=2))then(bif(decide (v0_1=0))then(some (decide ((v0_2.size:Int)<=200)))else(some false))else(bif(decide (v0_0=3))then(bif(decide (1<=v0_1))then(some (decide (v0_2=(YIU #[]))))else(some false))else(some false))))
def Yzu:VFn:=⟨true,44,[.t 2],
 (Rg [oG 1 0,oB 2 false]
 (.seq (Rg [oF 3 0 1,oL 4 3]
 (.blk 0 (Rg [oR 6 .eql 4 (k 0),oM 5 6]
 (.cond 5 (Rg [oF 7 1 1,oL 8 7,oR 9 .eql 8 (k 0),oM 10 9,gT 11 10 (.fad 2 1),gT 12 10 (.load false 1 11),gT 13 10 (.bin .eql 12 (ks (⟨#[]⟩))),oP 14 10 13 (kb false),oM 2 14]
 (Fr 2))
 (Rg [oR 16 .eql 4 (k 1),oM 15 16]
 (.cond 15 (Rg [oF 17 2 1,oL 18 17,oR 19 .eql 18 (ks (⟨#[]⟩)),oM 2 19]
 (Fr 2))
 (Rg [oR 21 .eql 4 (k 2),oM 20 21]
 (.cond 20 (Rg [oF 22 1 1,oL 23 22,oR 24 .eql 23 (k 0),oM 25 24,gT 26 25 (.fad 2 1),gT 27 25 (.load false 1 26),gT 28 25 (.lenS 27),gT 29 25 (.bin .leq 28 (k 200)),oP 30 25 29 (kb false),oM 2 30]
 (Fr 2))
 .skip))))))))
 (Rg [oF 31 0 1,oL 32 31,oR 33 .eql 32 (k 3),oM 34 33,gT 35 34 (.fad 1 1),gT 36 34 (.load false 1 35),gT 37 34 (.bin .geq 36 (k 1)),oP 38 34 37 (kb false),oM 39 38,gT 40 39 (.fad 2 1),gT 41 39 (.load false 1 40),gT 42 39 (.bin .eql 41 (ks (⟨#[]⟩))),oP 43 39 42 (kb false),oM 2 43]
 (Fr 2))))⟩
def YnZ(lo:Lo):FnE:=Zfe 284 true (Zsg [0] [.ag [.j,.j,.s]] []) .b [] (fun x=>q106 lo x.1 x.2.1 x.2.2:Int×Int×ByteArray->Option Bool)
noncomputable def YFl(lo:Lo):List FnE:=YnZ lo::YFP lo
theorem Yzv(h:GZ P fm YFP lo)(t:Ti P fm 284 Yzu):GZ P fm YFl lo:=
  h.p (YnZ lo) .n t
def q107_L3_b:VCode:=
 (.seq (Rg [oM 4 3,oM 5 0,oN 6 5,oR 7 .lss 4 6]
 (Ce 7 0))
 (.seq (.blk 1 (Rg [oM 10 0,oM 11 3,oI 12 3 10 11,oT 13 3 12,oC 14 284 [13],oX 15 14]
 (.cond 15 (Rg [oB 2 false]
 (Fr 2))
 .skip)))
 (.reg [oM 8 3,oR 9 .add 8 (k 1),oM 3 9])))
def Yew(lo:Lo):Zt4×Int->Option ((Zt4×Int)⊕ (Bool⊕Unit)):=fun x=>match x with
  | (l0,i3)=>bif(decide (i3< (l0.length:Int)))then(chk (0<=i3/\i3< (l0.length:Int)) (YIC (q106 lo ((l0.getD i3.toNat Zd1).1) ((l0.getD i3.toNat Zd1).2.1) ((l0.getD i3.toNat Zd1).2.2)) fun y426=>bif(!y426)then(some (.inr (.inl false)))else(some (.inl (l0,(YIV .i64 (i3+1)))))))else(some (.inr (.inr ())))
def YgT(lo:Lo):Zt4×Int->Option (Bool⊕Unit):=lo.run (Yew lo)
def Yzw(lo:Lo):LpE:=⟨3,[],(Zsg [0,3] [.l Zc10,.j] []),[⟨.ret,(Zsg [2] [.b] [])⟩,⟨.exit 0,(Zsg [] [] [])⟩],YgT lo⟩
def Yzx(lo:Lo):LL:=(Yzw lo,.loop q107_L3_b.er)::[]
theorem Yzy(lo:Lo):Lk lo pf (YFl lo) 0 (Yzx lo):=.l .n (Yew lo)
def q107(lo:Lo)(l0:List (Int×Int×ByteArray)):Option Bool:=
  YIC (YgT lo (l0,(0:Int))) fun y427=>alt2 y427 (fun y428=>some y428) (fun y429=>some true)
def Yzz:VFn:=⟨true,16,[.t 2],
 (Rg [oB 2 false]
 (.seq (Rg [oK 3 0]
 (.blk 0 (.loop 3 q107_L3_b)))
 (Rg [oB 2 true]
 (Fr 2))))⟩
def Yn0(lo:Lo):FnE:=Zfe 260 true (Zsg [0] [.l Zc10] []) .b [] (fun x=>q107 lo x:Zt4->Option Bool)
noncomputable def YFm(lo:Lo):List FnE:=Yn0 lo::YFl lo
theorem YzA(h:GZ P fm YFl lo)(t:Ti P fm 260 Yzz):GZ P fm YFm lo:=
  h.p (Yn0 lo) (Yzy lo) t
def q108_L3_b:VCode:=
 (.seq (Rg [oM 24 4,oF 25 2 1,oL 26 25,oN 27 26,oR 28 .lss 24 27]
 (Ce 28 0))
 (.seq (.blk 1 (Rg [oF 31 2 1,oL 32 31,oM 33 4,oI 34 2 32 33,oT 35 2 34,o 5 (.alloc [.i .i64 0,.e Zc10]),oS 2 5 35]
 (.seq (Rg [oF 36 0 5,oL 37 36,oM 38 3,oR 39 .leq 37 38]
 (.cond 39 (Rg [oK 2 1]
 (Fr 2))
 .skip))
 (Rg [oF 40 0 5,oL 41 40,oM 3 41]
 (.seq (Rg [oF 42 1 5,oL 43 42,oN 44 43,oF 45 1 1,oL 46 45,oN 47 46,oR 48 .neq 44 47]
 (.cond 48 (Rg [oK 2 6]
 (Fr 2))
 .skip))
 (Rg [oF 49 1 5,oL 50 49,oC 51 260 [50],oX 52 51]
 (.cond 52 (Rg [oK 2 1]
 (Fr 2))
 .skip)))))))
 (.reg [oM 29 4,oR 30 .add 29 (k 1),oM 4 30])))
def Yex(lo:Lo):Int×Int×ByteArray×Zt3×Zt12->Option ((Int×Int×ByteArray×Zt3×Zt12)⊕ (Int⊕Unit)):=fun x=>match x with
  | (before3,i4,t1_0,t1_1,t1_2)=>bif(decide (i4< (t1_2.length:Int)))then(chk (0<=i4/\i4< (t1_2.length:Int)) (bif(decide ((t1_2.getD i4.toNat ((0:Int),[])).1<=before3))then(some (.inr (.inl (1:Int))))else(bif(!decide ((((t1_2.getD i4.toNat ((0:Int),[])).2).length:Int)=(t1_1.length:Int)))then(some (.inr (.inl (6:Int))))else(YIC (q107 lo ((t1_2.getD i4.toNat ((0:Int),[])).2)) fun y430=>bif(!y430)then(some (.inr (.inl (1:Int))))else(some (.inl ((t1_2.getD i4.toNat ((0:Int),[])).1,(YIV .i64 (i4+1)),t1_0,t1_1,t1_2)))))))else(some (.inr (.inr ())))
def YgU(lo:Lo):Int×Int×ByteArray×Zt3×Zt12->Option (Int⊕Unit):=lo.run (Yex lo)
def YzB(lo:Lo):LpE:=⟨3,[],(Zsg [1,3,4] [.ptr 0 0 0,.j,.j] [.st [.s,.l (cs [.s]),.l Zc15]]),[⟨.ret,(Zsg [2] [.j] [])⟩,⟨.exit 0,(Zsg [] [] [])⟩],YgU lo⟩
def YzC(lo:Lo):LL:=(YzB lo,.loop q108_L3_b.er)::[]
theorem YzD(lo:Lo):Lk lo pf (YFm lo) 0 (YzC lo):=.l .n (Yex lo)
def q108(lo:Lo)(t0_0:ByteArray)(t0_1:List ByteArray)(t0_2:List (Int×Zt4)):Option Int:=
  YIC (q103 lo t0_0) fun y416=>bif(!y416)then(some (1:Int))else(bif(decide ((16:Int)< (t0_1.length:Int)))then(some (3:Int))else(bif(decide ((1000:Int)< (t0_2.length:Int)))then(some (3:Int))else(YIC (q105 lo t0_1) fun y425=>bif(!y425)then(some (1:Int))else(YIC (YgU lo ((0:Int),(0:Int),t0_0,t0_1,t0_2)) fun y431=>alt2 y431 (fun y432=>some y432) (fun y433=>some (0:Int))))))
def YzE:VFn:=⟨true,53,[.t 2],
 (Rg [oG 1 0,oK 2 0]
 (.seq (Rg [oF 6 0 1,oL 7 6,oC 8 258 [7],oX 9 8]
 (.cond 9 (Rg [oK 2 1]
 (Fr 2))
 .skip))
 (.seq (Rg [oF 10 1 1,oL 11 10,oN 12 11,oR 13 .gtr 12 (k 16),oM 14 13,gF 15 14 (.fad 2 1),gF 16 14 (.load false 1 15),gF 17 14 (.len 16),gF 18 14 (.bin .gtr 17 (k 1000)),oP 19 14 (kb true) 18]
 (.cond 19 (Rg [oK 2 3]
 (Fr 2))
 .skip))
 (.seq (Rg [oF 20 1 1,oL 21 20,oC 22 259 [21],oX 23 22]
 (.cond 23 (Rg [oK 2 1]
 (Fr 2))
 .skip))
 (Rg [oK 3 0]
 (.seq (Rg [oK 4 0]
 (.blk 0 (.loop 3 q108_L3_b)))
 (Rg [oK 2 0]
 (Fr 2))))))))⟩
def Yn1(lo:Lo):FnE:=Zfe 231 true (Zsg [0] [.ag [.s,.l (cs [.s]),.l Zc15]] []) (.i .i64) [] (fun x=>q108 lo x.1 x.2.1 x.2.2:ByteArray×Zt3×Zt12->Option Int)
noncomputable def YFn(lo:Lo):List FnE:=Yn1 lo::YFm lo
theorem YzF(h:GZ P fm YFm lo)(t:Ti P fm 231 YzE):GZ P fm YFn lo:=
  h.p (Yn1 lo) (YzD lo) t
def q109_L3_b:VCode:=
 (.seq (Rg [oM 6 5,oM 7 0,oN 8 7,oR 9 .lss 6 8]
 (Ce 9 0))
 (.seq (.blk 1 (Rg [oM 12 0,oM 13 5,oI 14 3 12 13,oF 15 0 14,oL 16 15,oM 17 1,oR 18 .eql 16 17]
 (.cond 18 (Rg [oM 19 5,oM 4 19]
 (Fr 4))
 .skip)))
 (.reg [oM 10 5,oR 11 .add 10 (k 1),oM 5 11])))
def Yey(lo:Lo):Zt1×ByteArray×Int->Option ((Zt1×ByteArray×Int)⊕ (Int⊕Unit)):=fun x=>match x with
  | (l0,name1,i5)=>bif(decide (i5< (l0.length:Int)))then(chk (0<=i5/\i5< (l0.length:Int)) (bif(decide ((l0.getD i5.toNat ((YIU #[]),[],[])).1=name1))then(some (.inr (.inl i5)))else(some (.inl (l0,name1,(YIV .i64 (i5+1)))))))else(some (.inr (.inr ())))
def YgV(lo:Lo):Zt1×ByteArray×Int->Option (Int⊕Unit):=lo.run (Yey lo)
def YzG(lo:Lo):LpE:=⟨3,[],(Zsg [0,1,5] [.l Zc6,.s,.j] []),[⟨.ret,(Zsg [4] [.j] [])⟩,⟨.exit 0,(Zsg [] [] [])⟩],YgV lo⟩
def YzH(lo:Lo):LL:=(YzG lo,.loop q109_L3_b.er)::[]
theorem YzI(lo:Lo):Lk lo pf (YFn lo) 0 (YzH lo):=.l .n (Yey lo)
def q109(lo:Lo)(l0:List (ByteArray×Zt3×Zt12))(name1:ByteArray):Option Int:=
  YIC (YgV lo (l0,name1,(0:Int))) fun y435=>alt2 y435 (fun y436=>some y436) (fun y437=>some (-1:Int))
def YzJ:VFn:=⟨true,20,[.t 4],
 (Rg [oK 4 0]
 (.seq (Rg [oK 5 0]
 (.blk 0 (.loop 3 q109_L3_b)))
 (Rg [oK 4 (-1)]
 (Fr 4))))⟩
def Yn2(lo:Lo):FnE:=Zfe 507 true (Zsg [0,1] [.l Zc6,.s] []) (.i .i64) [] (fun x=>q109 lo x.1 x.2:Zt1×ByteArray->Option Int)
noncomputable def YFo(lo:Lo):List FnE:=Yn2 lo::YFn lo
theorem YzK(h:GZ P fm YFn lo)(t:Ti P fm 507 YzJ):GZ P fm YFo lo:=
  h.p (Yn2 lo) (YzI lo) t
def q110_L3_b:VCode:=
 (.seq (Rg [oM 9 3,oF 10 0 1,oL 11 10,oN 12 11,oR 13 .lss 9 12]
 (Ce 13 0))
 (.seq (.blk 1 (.seq (Rg [oF 16 0 1,oL 17 16,oM 18 3,oI 19 3 17 18,oT 20 3 19,oC 21 231 [20],oM 4 21]
 (Rg [oM 22 4,oR 23 .neq 22 (k 0)]
 (.cond 23 (Rg [oM 24 4,oM 2 24]
 (Fr 2))
 .skip)))
 (Rg [oF 25 0 1,oL 26 25,oM 27 3,o 28 (.slcR 3 26 none (some 27)),oF 29 0 1,oL 30 29,oM 31 3,oI 32 3 30 31,oF 33 0 32,oL 34 33,oC 35 507 [28,34],oR 36 .geq 35 (k 0)]
 (.cond 36 (Rg [oK 2 5]
 (Fr 2))
 .skip))))
 (.reg [oM 14 3,oR 15 .add 14 (k 1),oM 3 15])))
def Yez(lo:Lo):Int×Zt1->Option ((Int×Zt1)⊕ (Int⊕Unit)):=fun x=>match x with
  | (i3,db1)=>bif(decide (i3< (db1.length:Int)))then(chk (0<=i3/\i3< (db1.length:Int)) (YIC (q108 lo ((db1.getD i3.toNat ((YIU #[]),[],[])).1) ((db1.getD i3.toNat ((YIU #[]),[],[])).2.1) ((db1.getD i3.toNat ((YIU #[]),[],[])).2.2)) fun y434=>bif(!decide (y434=0))then(some (.inr (.inl y434)))else(chk (0<=(0:Int)/\0<=i3/\i3<=(db1.length:Int)) (chk (0<=i3/\i3< (db1.length:Int)) (YIC (q109 lo ((db1.take i3.toNat).drop 0) ((db1.getD i3.toNat ((YIU #[]),[],[])).1)) fun y438=>bif(decide (0<=y438))then(some (.inr (.inl (5:Int))))else(some (.inl ((YIV .i64 (i3+1)),db1))))))))else(some (.inr (.inr ())))
def YgW(lo:Lo):Int×Zt1->Option (Int⊕Unit):=lo.run (Yez lo)
def YzL(lo:Lo):LpE:=⟨3,[],(Zsg [1,3] [.ptr 0 0 0,.j] [.st [.l Zc6]]),[⟨.ret,(Zsg [2] [.j] [])⟩,⟨.exit 0,(Zsg [] [] [])⟩],YgW lo⟩
def YzM(lo:Lo):LL:=(YzL lo,.loop q110_L3_b.er)::[]
theorem YzN(lo:Lo):Lk lo pf (YFo lo) 0 (YzM lo):=.l .n (Yez lo)
def q110(lo:Lo)(db0:List (ByteArray×Zt3×Zt12)):Option Int:=
  bif(decide ((50:Int)< (db0.length:Int)))then(some (3:Int))else(YIC (YgW lo ((0:Int),db0)) fun y439=>alt2 y439 (fun y440=>some y440) (fun y441=>some (0:Int)))
def YzO:VFn:=⟨true,37,[.t 2],
 (Rg [oG 1 0,oK 2 0]
 (.seq (Rg [oF 5 0 1,oL 6 5,oN 7 6,oR 8 .gtr 7 (k 50)]
 (.cond 8 (Rg [oK 2 3]
 (Fr 2))
 .skip))
 (.seq (Rg [oK 3 0]
 (.blk 0 (.loop 3 q110_L3_b)))
 (Rg [oK 2 0]
 (Fr 2)))))⟩
def Yn3(lo:Lo):FnE:=Zfe 506 true (Zsg [0] [.ag [.l Zc6]] []) (.i .i64) [] (fun x=>q110 lo x:Zt1->Option Int)
noncomputable def YFQ(lo:Lo):List FnE:=Yn3 lo::YFo lo
theorem YzP(h:GZ P fm YFo lo)(t:Ti P fm 506 YzO):GZ P fm YFQ lo:=
  h.p (Yn3 lo) (YzN lo) t
def q111(lo:Lo)(t0_0:ByteArray)(t0_1:Int)(t0_2:Int)(t0_3:ByteArray):Option Bool:=
  bif(!decide (t0_0=(YIU #[])))then(YIC (q103 lo t0_0) fun y444=>bif y444 then(some ((decide (t0_1=0))&& ((decide (t0_2=0))&& ((decide (t0_3=(YIU #[])))&&true))))else(some false))else(YIC (q106 lo t0_1 t0_2 t0_3) fun y445=>some y445)
def YzQ:VFn:=⟨true,18,[.t 2],
 (Rg [oG 1 0,oB 2 false]
 (.seq (Rg [oF 3 0 1,oL 4 3,oR 5 .neq 4 (ks (⟨#[]⟩))]
 (.cond 5 (Rg [oF 6 0 1,oL 7 6,oC 8 258 [7],oM 9 8,gT 10 9 (.fad 1 1),gT 11 9 (.load true 3 10),gT 12 9 (.build [.i .i64 0,.i .i64 0,.s (⟨#[]⟩)] []),gT 13 9 (.eqa false [1,1,2] 11 12),oP 14 9 13 (kb false),oM 2 14]
 (Fr 2))
 .skip))
 (Rg [oF 15 1 1,oT 16 3 15,oC 17 284 [16],oM 2 17]
 (Fr 2))))⟩
def Yn4(lo:Lo):FnE:=Zfe 542 true (Zsg [0] [.ag [.s,.j,.j,.s]] []) .b [] (fun x=>q111 lo x.1 x.2.1 x.2.2.1 x.2.2.2:Zp69->Option Bool)
noncomputable def YFp(lo:Lo):List FnE:=Yn4 lo::YFQ lo
theorem YzR(h:GZ P fm YFQ lo)(t:Ti P fm 542 YzQ):GZ P fm YFp lo:=
  h.p (Yn4 lo) .n t
def q112_L3_b:VCode:=
 (.seq (Rg [oM 4 3,oF 5 1 1,oL 6 5,oN 7 6,oR 8 .lss 4 7]
 (Ce 8 0))
 (.seq (.blk 1 (Rg [oF 11 1 1,oL 12 11,oM 13 3,oI 14 4 12 13,oT 15 4 14,oC 16 542 [15],oX 17 16]
 (.cond 17 (Rg [oB 2 false]
 (Fr 2))
 .skip)))
 (.reg [oM 9 3,oR 10 .add 9 (k 1),oM 3 10])))
def YeA(lo:Lo):Int×ByteArray×Zt5->Option ((Int×ByteArray×Zt5)⊕ (Bool⊕Unit)):=fun x=>match x with
  | (i3,a1_0,a1_1)=>bif(decide (i3< (a1_1.length:Int)))then(chk (0<=i3/\i3< (a1_1.length:Int)) (YIC (q111 lo ((a1_1.getD i3.toNat Zd0).1) ((a1_1.getD i3.toNat Zd0).2.1) ((a1_1.getD i3.toNat Zd0).2.2.1) ((a1_1.getD i3.toNat Zd0).2.2.2)) fun y446=>bif(!y446)then(some (.inr (.inl false)))else(some (.inl ((YIV .i64 (i3+1)),a1_0,a1_1)))))else(some (.inr (.inr ())))
def YgX(lo:Lo):Int×ByteArray×Zt5->Option (Bool⊕Unit):=lo.run (YeA lo)
def YzS(lo:Lo):LpE:=⟨3,[],(Zsg [1,3] [.ptr 0 0 0,.j] [.st [.s,.l Zc11]]),[⟨.ret,(Zsg [2] [.b] [])⟩,⟨.exit 0,(Zsg [] [] [])⟩],YgX lo⟩
def YzT(lo:Lo):LL:=(YzS lo,.loop q112_L3_b.er)::[]
theorem YzU(lo:Lo):Lk lo pf (YFp lo) 0 (YzT lo):=.l .n (YeA lo)
def q112(lo:Lo)(a0_0:ByteArray)(a0_1:List Zp69):Option Bool:=
  YIC (YgX lo ((0:Int),a0_0,a0_1)) fun y447=>alt2 y447 (fun y448=>some y448) (fun y449=>some true)
def YzV:VFn:=⟨true,18,[.t 2],
 (Rg [oG 1 0,oB 2 false]
 (.seq (Rg [oK 3 0]
 (.blk 0 (.loop 3 q112_L3_b)))
 (Rg [oB 2 true]
 (Fr 2))))⟩
def Yn5(lo:Lo):FnE:=Zfe 508 true (Zsg [0] [.ag [.s,.l Zc11]] []) .b [] (fun x=>q112 lo x.1 x.2:ByteArray×Zt5->Option Bool)
noncomputable def YEX(lo:Lo):List FnE:=Yn5 lo::YFp lo
theorem YzW(h:GZ P fm YFp lo)(t:Ti P fm 508 YzV):GZ P fm YEX lo:=
  h.p (Yn5 lo) (YzU lo) t
end Go.Abs.G47
namespace Go.Abs.G47
open Go Go.Abs
set_option maxRecDepth 100000
set_option maxHeartbeats 1000000
variable{P:Program}{fm:FM}{lo:Lo}
def q113_L5_b:VCode:=
 (.seq (Rg [oM 13 5,oM 14 0,oM 15 4,oI 16 2 14 15,oF 17 1 16,oL 18 17,oN 19 18,oR 20 .lss 13 19]
 (Ce 20 2))
 (.seq (.blk 3 (Rg [oM 23 0,oM 24 4,oI 25 2 23 24,oF 26 1 25,oL 27 26,oM 28 5,oI 29 4 27 28,oF 30 0 29,oL 31 30,oM 6 31]
 (Rg [oM 32 6,oR 33 .neq 32 (ks (⟨#[]⟩)),oM 34 33,gT 35 34 (.mv 3),gT 36 34 (.mv 6),gT 37 34 (.call 272 [35,36]),gT 38 34 (.bin .lss 37 (k 0)),oP 39 34 38 (kb false)]
 (.cond 39 (.reg [oM 40 3,oM 41 6,o 42 (.bsl (cs [.s]) 1 [(0,41)]),o 43 (.app (cs [.s]) 0 40 42),oM 3 43])
 .skip))))
 (.reg [oM 21 5,oR 22 .add 21 (k 1),oM 5 22])))
def YeB(lo:Lo):Zt0×Int×Int×Zt3->Option ((Zt0×Int×Int×Zt3)⊕ ((Zt0×Int×Zt3))):=fun x=>match x with
  | (l0,i4,k5,out3)=>chk (0<=i4/\i4< (l0.length:Int)) (bif(decide (k5< (((l0.getD i4.toNat ((YIU #[]),[])).2).length:Int)))then(chk (0<=i4/\i4< (l0.length:Int)) (chk (0<=k5/\k5< (((l0.getD i4.toNat ((YIU #[]),[])).2).length:Int)) (bif(!decide ((((l0.getD i4.toNat ((YIU #[]),[])).2).getD k5.toNat Zd0).1=(YIU #[])))then(YIC (q104 lo out3 ((((l0.getD i4.toNat ((YIU #[]),[])).2).getD k5.toNat Zd0).1)) fun y454=>bif(decide (y454<0))then(chk (out3.length+([(((l0.getD i4.toNat ((YIU #[]),[])).2).getD k5.toNat Zd0).1]).length<=maxEl) (some (.inl (l0,i4,(YIV .i64 (k5+1)),(out3++([(((l0.getD i4.toNat ((YIU #[]),[])).2).getD k5.toNat Zd0).1]))))))else(some (.inl (l0,i4,(YIV .i64 (k5+1)),out3))))else(some (.inl (l0,i4,(YIV .i64 (k5+1)),out3))))))else(some (.inr (l0,i4,out3))))
def YgY(lo:Lo):Zt0×Int×Int×Zt3->Option ((Zt0×Int×Zt3)):=lo.run (YeB lo)
def YzX(lo:Lo):LpE:=⟨5,[],(Zsg [0,3,4,5] [.l Zc7,.ref 0,.j,.j] [.sq (cs [.s])]),[⟨.exit 2,(Zsg [0,3,4] [.l Zc7,.ref 0,.j] [.sq (cs [.s])])⟩],YgY lo⟩
def Yn6(lo:Lo):LL:=(YzX lo,.loop q113_L5_b.er)::[]
theorem YzY(lo:Lo):Lk lo pf (YEX lo) 0 (Yn6 lo):=.l .n (YeB lo)
def q113_L3_b:VCode:=
 (.seq (Rg [oM 7 4,oM 8 0,oN 9 8,oR 10 .lss 7 9]
 (Ce 10 0))
 (.seq (.blk 1 (Rg [oK 5 0]
 (.blk 2 (.loop 5 q113_L5_b))))
 (.reg [oM 11 4,oR 12 .add 11 (k 1),oM 4 12])))
def YeC(lo:Lo):Zt0×Int×Zt3->Option ((Zt0×Int×Zt3)⊕ ((Zt3))):=fun x=>match x with
  | (l0,i4,out3)=>bif(decide (i4< (l0.length:Int)))then(YIC (YgY lo (l0,i4,(0:Int),out3)) fun y455=>some (.inl (y455.1,(YIV .i64 (y455.2.1+(1:Int))),y455.2.2)))else(some (.inr out3))
def YgZ(lo:Lo):Zt0×Int×Zt3->Option ((Zt3)):=lo.run (YeC lo)
def YzZ(lo:Lo):LpE:=⟨3,[(3,none,false)],(Zsg [0,3,4] [.l Zc7,.ref 0,.j] [.sq (cs [.s])]),[⟨.exit 0,(Zsg [3] [.ref 0] [.sq (cs [.s])])⟩],YgZ lo⟩
def Yz0(lo:Lo):LL:=(YzZ lo,.loop q113_L3_b.er)::Yn6 lo
theorem Yz1(lo:Lo):Lk lo pf (YEX lo) 0 (Yz0 lo):=.l (YzY lo) (YeC lo)
def q113(lo:Lo)(l0:List (ByteArray×Zt5)):Option (Zt3):=
  YIC (YgZ lo (l0,(0:Int),[])) fun y456=>some y456
def Yz2:VFn:=⟨true,45,[.t 2],
 (Rg [o 2 (.mv (ke (cs [.s])))]
 (Rg [o 3 (.mv (ke (cs [.s])))]
 (.seq (Rg [oK 4 0]
 (.blk 0 (.loop 3 q113_L3_b)))
 (Rg [oM 44 3,oM 2 44]
 (Fr 2)))))⟩
def Yn7(lo:Lo):FnE:=Zfe 511 true (Zsg [0] [.l Zc7] []) (.l (cs [.s])) [] (fun x=>q113 lo x:Zt0->Option (Zt3))
noncomputable def YFq(lo:Lo):List FnE:=Yn7 lo::YEX lo
theorem Yz3(h:GZ P fm YEX lo)(t:Ti P fm 511 Yz2):GZ P fm YFq lo:=
  h.p (Yn7 lo) (Yz1 lo) t
def q114_L3_b:VCode:=
 (.seq (Rg [oM 8 4,oF 9 0 1,oL 10 9,oN 11 10,oR 12 .lss 8 11]
 (Ce 12 0))
 (.seq (.blk 1 (Rg [oM 15 3,oF 16 0 1,oL 17 16,oM 18 4,oI 19 1 17 18,oL 20 19,oC 21 272 [15,20],oR 22 .lss 21 (k 0),oM 23 22,gF 24 23 (.fad 0 1),gF 25 23 (.load false 1 24),gF 26 23 (.mv 4),gF 27 23 (.slcR 1 25 none (some 26)),gF 28 23 (.fad 0 1),gF 29 23 (.load false 1 28),gF 30 23 (.mv 4),gF 31 23 (.iad 1 29 30),gF 32 23 (.load false 1 31),gF 33 23 (.call 272 [27,32]),gF 34 23 (.bin .geq 33 (k 0)),oP 35 23 (kb true) 34]
 (.cond 35 (Rg [oB 2 false]
 (Fr 2))
 .skip)))
 (.reg [oM 13 4,oR 14 .add 13 (k 1),oM 4 14])))
def YeD(lo:Lo):Zt3×Int×Zt3×Zt0->Option ((Zt3×Int×Zt3×Zt0)⊕ (Bool⊕Unit)):=fun x=>match x with
  | (l3,i4,q1_0,q1_1)=>bif(decide (i4< (q1_0.length:Int)))then(chk (0<=i4/\i4< (q1_0.length:Int)) (YIC (q104 lo l3 (q1_0.getD i4.toNat (YIU #[]))) fun y458=>bif(decide (y458<0))then(some (.inr (.inl false)))else(chk (0<=(0:Int)/\0<=i4/\i4<=(q1_0.length:Int)) (chk (0<=i4/\i4< (q1_0.length:Int)) (YIC (q104 lo ((q1_0.take i4.toNat).drop 0) (q1_0.getD i4.toNat (YIU #[]))) fun y459=>bif(decide (0<=y459))then(some (.inr (.inl false)))else(some (.inl (l3,(YIV .i64 (i4+1)),q1_0,q1_1))))))))else(some (.inr (.inr ())))
def Yg0(lo:Lo):Zt3×Int×Zt3×Zt0->Option (Bool⊕Unit):=lo.run (YeD lo)
def Yz4(lo:Lo):LpE:=⟨3,[],(Zsg [1,3,4] [.ptr 0 0 0,.l (cs [.s]),.j] [.st [.l (cs [.s]),.l Zc7]]),[⟨.ret,(Zsg [2] [.b] [])⟩,⟨.exit 0,(Zsg [] [] [])⟩],Yg0 lo⟩
def Yz5(lo:Lo):LL:=(Yz4 lo,.loop q114_L3_b.er)::[]
theorem Yz6(lo:Lo):Lk lo pf (YFq lo) 0 (Yz5 lo):=.l .n (YeD lo)
def q114(lo:Lo)(q0_0:List ByteArray)(q0_1:List (ByteArray×Zt5)):Option Bool:=
  YIC (q113 lo q0_1) fun y457=>YIC (Yg0 lo (y457,(0:Int),q0_0,q0_1)) fun y460=>alt2 y460 (fun y461=>some y461) (fun y462=>some true)
def Yz7:VFn:=⟨true,36,[.t 2],
 (Rg [oG 1 0,oB 2 false]
 (Rg [oF 5 1 1,oL 6 5,oC 7 511 [6],oM 3 7]
 (.seq (Rg [oK 4 0]
 (.blk 0 (.loop 3 q114_L3_b)))
 (Rg [oB 2 true]
 (Fr 2)))))⟩
def Yn8(lo:Lo):FnE:=Zfe 509 true (Zsg [0] [.ag [.l (cs [.s]),.l Zc7]] []) .b [] (fun x=>q114 lo x.1 x.2:Zt3×Zt0->Option Bool)
noncomputable def YFr(lo:Lo):List FnE:=Yn8 lo::YFq lo
theorem Yz8(h:GZ P fm YFq lo)(t:Ti P fm 509 Yz7):GZ P fm YFr lo:=
  h.p (Yn8 lo) (Yz6 lo) t
def q115_L6_b:VCode:=
 (.seq (Rg [oM 23 6,oF 24 1 3,oL 25 24,oN 26 25,oR 27 .lss 23 26]
 (Ce 27 0))
 (.seq (.blk 1 (Rg [oF 30 0 2,oL 31 30,oF 32 1 3,oL 33 32,oM 34 6,oI 35 2 33 34,oF 36 0 35,oL 37 36,oC 38 507 [31,37],oM 7 38]
 (.seq (Rg [oM 39 7,oR 40 .lss 39 (k 0)]
 (.cond 40 (Rg [oK 4 4]
 (Fr 4))
 .skip))
 (.seq (Rg [oF 41 1 3,oL 42 41,oM 43 6,oI 44 2 42 43,oF 45 1 44,oL 46 45,oN 47 46,oF 48 0 2,oL 49 48,oM 50 7,oI 51 3 49 50,oF 52 1 51,oL 53 52,oN 54 53,oR 55 .neq 47 54]
 (.cond 55 (Rg [oK 4 6]
 (Fr 4))
 .skip))
 (Rg [oF 56 1 3,oL 57 56,oM 58 6,oI 59 2 57 58,oT 60 2 59,oC 61 508 [60],oX 62 61]
 (.cond 62 (Rg [oK 4 1]
 (Fr 4))
 .skip))))))
 (.reg [oM 28 6,oR 29 .add 28 (k 1),oM 6 29])))
def YeE(lo:Lo):Int×Zt1×Zt3×Zt0->Option ((Int×Zt1×Zt3×Zt0)⊕ (Int⊕ (Zt3×Zt0))):=fun x=>match x with
  | (i6,db2,q3_0,q3_1)=>bif(decide (i6< (q3_1.length:Int)))then(chk (0<=i6/\i6< (q3_1.length:Int)) (YIC (q109 lo db2 ((q3_1.getD i6.toNat ((YIU #[]),[])).1)) fun y443=>bif(decide (y443<0))then(some (.inr (.inl (4:Int))))else(chk (0<=i6/\i6< (q3_1.length:Int)) (chk (0<=y443/\y443< (db2.length:Int)) (bif(!decide ((((q3_1.getD i6.toNat ((YIU #[]),[])).2).length:Int)=(((db2.getD y443.toNat ((YIU #[]),[],[])).2.1).length:Int)))then(some (.inr (.inl (6:Int))))else(chk (0<=i6/\i6< (q3_1.length:Int)) (YIC (q112 lo ((q3_1.getD i6.toNat ((YIU #[]),[])).1) ((q3_1.getD i6.toNat ((YIU #[]),[])).2)) fun y450=>bif(!y450)then(some (.inr (.inl (1:Int))))else(some (.inl ((YIV .i64 (i6+1)),db2,q3_0,q3_1))))))))))else(some (.inr (.inr (q3_0,q3_1))))
def Yg1(lo:Lo):Int×Zt1×Zt3×Zt0->Option (Int⊕ (Zt3×Zt0)):=lo.run (YeE lo)
def Yz9(lo:Lo):LpE:=⟨6,[],(Zsg [2,3,6] [.ptr 0 0 0,.ptr 1 0 0,.j] [.st [.l Zc6],.st [.l (cs [.s]),.l Zc7]]),[⟨.ret,(Zsg [4] [.j] [])⟩,⟨.exit 0,(Zsg [3] [.ptr 0 0 0] [.st [.l (cs [.s]),.l Zc7]])⟩],Yg1 lo⟩
def YAa(lo:Lo):LL:=(Yz9 lo,.loop q115_L6_b.er)::[]
theorem YAb(lo:Lo):Lk lo pf (YFr lo) 0 (YAa lo):=.l .n (YeE lo)
def q115(lo:Lo)(db0:List (ByteArray×Zt3×Zt12))(q1_0:List ByteArray)(q1_1:List (ByteArray×Zt5)):Option Int:=
  YIC (q110 lo db0) fun y442=>bif(!decide (y442=0))then(some y442)else(bif(decide ((q1_1.length:Int)<1))then(some (1:Int))else(bif(decide ((6:Int)< (q1_1.length:Int)))then(some (1:Int))else(YIC (Yg1 lo ((0:Int),db0,q1_0,q1_1)) fun y451=>alt2 y451 (fun y452=>some y452) (fun y453=>YIC (q114 lo y453.1 y453.2) fun y463=>bif(!y463)then(some (1:Int))else(some (0:Int))))))
def YAc:VFn:=⟨true,66,[.t 4],
 (Rg [oG 2 0,oG 3 1,oK 4 0]
 (.seq (Rg [oT 8 1 2,oC 9 506 [8],oM 5 9]
 (Rg [oM 10 5,oR 11 .neq 10 (k 0)]
 (.cond 11 (Rg [oM 12 5,oM 4 12]
 (Fr 4))
 .skip)))
 (.seq (Rg [oF 13 1 3,oL 14 13,oN 15 14,oR 16 .lss 15 (k 1),oM 17 16,gF 18 17 (.fad 1 3),gF 19 17 (.load false 1 18),gF 20 17 (.len 19),gF 21 17 (.bin .gtr 20 (k 6)),oP 22 17 (kb true) 21]
 (.cond 22 (Rg [oK 4 1]
 (Fr 4))
 .skip))
 (.seq (Rg [oK 6 0]
 (.blk 0 (.loop 6 q115_L6_b)))
 (.seq (Rg [oT 63 2 3,oC 64 509 [63],oX 65 64]
 (.cond 65 (Rg [oK 4 1]
 (Fr 4))
 .skip))
 (Rg [oK 4 0]
 (Fr 4)))))))⟩
def Yn9(lo:Lo):FnE:=Zfe 473 true (Zsg [0,1] [.ag [.l Zc6],.ag [.l (cs [.s]),.l Zc7]] []) (.i .i64) [] (fun x=>q115 lo x.1 x.2.1 x.2.2:Zt1×Zt3×Zt0->Option Int)
noncomputable def YGx(lo:Lo):List FnE:=Yn9 lo::YFr lo
theorem YAd(h:GZ P fm YFr lo)(t:Ti P fm 473 YAc):GZ P fm YGx lo:=
  h.p (Yn9 lo) (YAb lo) t
noncomputable def YGy(lo:Lo):List FnE:=YGx lo
def q117(lo:Lo)(code0:Int):Option (Int×Int×ByteArray):=
  chk ((12:Int)≠0) (bif(decide ((code0.tmod (12:Int))=(0:Int)))then(some ((1:Int),(0:Int),(YIU #[])))else(bif(decide ((code0.tmod (12:Int))=(1:Int)))then(some ((1:Int),(1:Int),(YIU #[])))else(bif(decide ((code0.tmod (12:Int))=(2:Int)))then(some ((1:Int),(2:Int),(YIU #[])))else(bif(decide ((code0.tmod (12:Int))=(3:Int)))then(some Zd1)else(bif(decide ((code0.tmod (12:Int))=(4:Int)))then(some ((2:Int),(0:Int),(YIU #[97])))else(bif(decide ((code0.tmod (12:Int))=(5:Int)))then(some ((2:Int),(0:Int),(YIU #[98])))else(bif(decide ((code0.tmod (12:Int))=(6:Int)))then(some ((2:Int),(0:Int),(YIU #[])))else(bif(decide ((code0.tmod (12:Int))=(7:Int)))then(some ((3:Int),(1:Int),(YIU #[])))else(bif(decide ((code0.tmod (12:Int))=(8:Int)))then(some ((1:Int),(-1:Int),(YIU #[])))else(bif(decide ((code0.tmod (12:Int))=(9:Int)))then(some ((2:Int),(0:Int),(YIU #[97,98])))else(bif(decide ((code0.tmod (12:Int))=(10:Int)))then(some ((3:Int),(2:Int),(YIU #[])))else(some ((1:Int),(7:Int),(YIU #[]))))))))))))))
def YAe:VFn:=⟨true,39,[.c 2 true 3],
 (Rg [o 2 (.alloc [.i .i64 0,.i .i64 0,.s (⟨#[]⟩)])]
 (.seq (Rg [oM 3 0,oR 4 .rem 3 (ki .u8 12)]
 (.blk 0 (Rg [oR 6 .eql 4 (ki .u8 0),oM 5 6]
 (.cond 5 (Rg [o 7 (.build [.i .i64 0,.i .i64 0,.s (⟨#[]⟩)] [(0,1,(k 1))]),oS 3 2 7]
 (Fr 2))
 (Rg [oR 9 .eql 4 (ki .u8 1),oM 8 9]
 (.cond 8 (Rg [o 10 (.build [.i .i64 0,.i .i64 0,.s (⟨#[]⟩)] [(0,1,(k 1)),(1,1,(k 1))]),oS 3 2 10]
 (Fr 2))
 (Rg [oR 12 .eql 4 (ki .u8 2),oM 11 12]
 (.cond 11 (Rg [o 13 (.build [.i .i64 0,.i .i64 0,.s (⟨#[]⟩)] [(0,1,(k 1)),(1,1,(k 2))]),oS 3 2 13]
 (Fr 2))
 (Rg [oR 15 .eql 4 (ki .u8 3),oM 14 15]
 (.cond 14 (Rg [o 16 (.build [.i .i64 0,.i .i64 0,.s (⟨#[]⟩)] []),oS 3 2 16]
 (Fr 2))
 (Rg [oR 18 .eql 4 (ki .u8 4),oM 17 18]
 (.cond 17 (Rg [o 19 (.build [.i .i64 0,.i .i64 0,.s (⟨#[]⟩)] [(0,1,(k 2)),(2,1,(ks (⟨#[97]⟩)))]),oS 3 2 19]
 (Fr 2))
 (Rg [oR 21 .eql 4 (ki .u8 5),oM 20 21]
 (.cond 20 (Rg [o 22 (.build [.i .i64 0,.i .i64 0,.s (⟨#[]⟩)] [(0,1,(k 2)),(2,1,(ks (⟨#[98]⟩)))]),oS 3 2 22]
 (Fr 2))
 (Rg [oR 24 .eql 4 (ki .u8 6),oM 23 24]
 (.cond 23 (Rg [o 25 (.build [.i .i64 0,.i .i64 0,.s (⟨#[]⟩)] [(0,1,(k 2))]),oS 3 2 25]
 (Fr 2))
 (Rg [oR 27 .eql 4 (ki .u8 7),oM 26 27]
 (.cond 26 (Rg [o 28 (.build [.i .i64 0,.i .i64 0,.s (⟨#[]⟩)] [(0,1,(k 3)),(1,1,(k 1))]),oS 3 2 28]
 (Fr 2))
 (Rg [oR 30 .eql 4 (ki .u8 8),oM 29 30]
 (.cond 29 (Rg [o 31 (.build [.i .i64 0,.i .i64 0,.s (⟨#[]⟩)] [(0,1,(k 1)),(1,1,(k (-1)))]),oS 3 2 31]
 (Fr 2))
 (Rg [oR 33 .eql 4 (ki .u8 9),oM 32 33]
 (.cond 32 (Rg [o 34 (.build [.i .i64 0,.i .i64 0,.s (⟨#[]⟩)] [(0,1,(k 2)),(2,1,(ks (⟨#[97,98]⟩)))]),oS 3 2 34]
 (Fr 2))
 (Rg [oR 36 .eql 4 (ki .u8 10),oM 35 36]
 (.cond 35 (Rg [o 37 (.build [.i .i64 0,.i .i64 0,.s (⟨#[]⟩)] [(0,1,(k 3)),(1,1,(k 2))]),oS 3 2 37]
 (Fr 2))
 .skip))))))))))))))))))))))))
 (Rg [o 38 (.build [.i .i64 0,.i .i64 0,.s (⟨#[]⟩)] [(0,1,(k 1)),(1,1,(k 7))]),oS 3 2 38]
 (Fr 2))))⟩
def Yoa(lo:Lo):FnE:=Zfe 251 true (Zsg [0] [.i .u8] []) (.ag [.j,.j,.s]) [] (fun x=>q117 lo x:Int->Option (Int×Int×ByteArray))
noncomputable def YEY(lo:Lo):List FnE:=Yoa lo::YGy lo
theorem YAf(h:GZ P fm YGy lo)(t:Ti P fm 251 YAe):GZ P fm YEY lo:=
  h.p (Yoa lo) .n t
def q118_L6_b:VCode:=
 (.seq (Rg [oM 32 8,oM 33 1,oR 34 .lss 32 33]
 (Ce 34 2))
 (.seq (.blk 3 (Rg [o 9 (.mv (ki .u8 0))]
 (.seq (Rg [oM 37 8,oF 38 2 2,oL 39 38,oM 40 6,oI 41 1 39 40,oL 42 41,oN 43 42,oR 44 .lss 37 43]
 (.cond 44 (.reg [oF 45 2 2,oL 46 45,oM 47 6,oI 48 1 46 47,oL 49 48,oM 50 8,oI 51 1 49 50,oL 52 51,oM 9 52])
 .skip))
 (.reg [oF 53 1 7,oL 54 53,oM 55 9,oC 56 251 [55],o 57 (.bsl Zc10 1 [(0,56)]),o 58 (.app Zc10 0 54 57),oF 59 1 7,oS 1 59 58]))))
 (.reg [oM 35 8,oR 36 .add 35 (k 1),oM 8 36])))
def YeF(lo:Lo):Zp35->Option (Zp35⊕ ((Int×Int×Int×Int×Zt13×ByteArray×Zt3×Zt12×ByteArray×Int×Zt3×Zt12×Zt4))):=fun x=>match x with
  | (n1,i6,k8,x2_0,x2_1,x2_2,v4_0,v4_1,v4_2,t5,r7,h4,h5,h6)=>bif(decide (k8<n1))then(chk (0<=i6/\i6< (x2_2.length:Int)) (bif(decide (k8< ((x2_2.getD i6.toNat []).length:Int)))then(chk (0<=i6/\i6< (x2_2.length:Int)) (chk (0<=k8/\k8< ((x2_2.getD i6.toNat []).length:Int)) (YIC (q117 lo ((x2_2.getD i6.toNat []).getD k8.toNat (0:Int))) fun y468=>chk (h6.length+[y468].length<=maxEl) (some (.inl (n1,i6,(YIV .i64 (k8+1)),x2_0,x2_1,x2_2,v4_0,v4_1,v4_2,t5,r7,h4,h5,(h6++[y468])))))))else(YIC (q117 lo (0:Int)) fun y469=>chk (h6.length+[y469].length<=maxEl) (some (.inl (n1,i6,(YIV .i64 (k8+1)),x2_0,x2_1,x2_2,v4_0,v4_1,v4_2,t5,r7,h4,h5,(h6++[y469])))))))else(some (.inr (n1,i6,x2_0,x2_1,x2_2,v4_0,v4_1,v4_2,t5,r7,h4,h5,h6)))
def Yg2(lo:Lo):Zp35->Option ((Int×Int×Int×Int×Zt13×ByteArray×Zt3×Zt12×ByteArray×Int×Zt3×Zt12×Zt4)):=lo.run (YeF lo)
def YAg(lo:Lo):LpE:=⟨6,[(5,some 2,false),(7,some 1,false)],(Zsg [1,2,4,5,6,7,8] [.j,.ptr 0 0 0,.ptr 1 0 0,.ptr 2 0 0,.j,.ptr 3 0 0,.j] [.st [.i .u8,.i .u8,.l (cs [.l Zc20])],.st [.s,.l (cs [.s]),.l Zc15],.st [.s,.ref 4,.ref 5],.st [.j,.ref 6],.sq (cs [.s]),.sq Zc15,.sq Zc10]),[⟨.exit 2,(Zsg [1,2,4,5,6,7] [.j,.ptr 0 0 0,.ptr 1 0 0,.ptr 2 0 0,.j,.ptr 3 0 0] [.st [.i .u8,.i .u8,.l (cs [.l Zc20])],.st [.s,.l (cs [.s]),.l Zc15],.st [.s,.ref 4,.ref 5],.st [.j,.ref 6],.sq (cs [.s]),.sq Zc15,.sq Zc10])⟩],Yg2 lo⟩
def Yob(lo:Lo):LL:=(YAg lo,.loop q118_L6_b.er)::[]
theorem YAh(lo:Lo):Lk lo pf (YEY lo) 0 (Yob lo):=.l .n (YeF lo)
def q118_L3_b:VCode:=
 (.seq (Rg [oM 16 6,oF 17 2 2,oL 18 17,oN 19 18,oR 20 .lss 16 19]
 (Ce 20 0))
 (.seq (.blk 1 (Rg [oM 23 6,oF 24 1 2,oL 25 24,oR 26 .rem 25 (ki .u8 3),o 27 (.conv .i64 26),oR 28 .add (k 1) 27,oR 29 .mul 23 28,oR 30 .add (k 1) 29,o 31 (.build [.i .i64 0,.e Zc10] [(0,1,30)]),o 7 (.alloc [.i .i64 0,.e Zc10]),oS 2 7 31]
 (.seq (Rg [oK 8 0]
 (.blk 2 (.loop 6 q118_L6_b)))
 (.fz [7] (.reg [oF 60 2 5,oL 61 60,oT 62 2 7,o 63 (.bsl Zc15 1 [(0,62)]),o 64 (.app Zc15 0 61 63),oF 65 2 5,oS 1 65 64])))))
 (.reg [oM 21 6,oR 22 .add 21 (k 1),oM 6 22])))
def YeG(lo:Lo):Zp42->Option (Zp42⊕ ((ByteArray×Zt3×Zt12×ByteArray×Zt3×Zt12))):=fun x=>match x with
  | (n1,i6,x2_0,x2_1,x2_2,v4_0,v4_1,v4_2,t5,h3,h4)=>bif(decide (i6< (x2_2.length:Int)))then(chk ((3:Int)≠0) (YIC (Yg2 lo (n1,i6,(0:Int),x2_0,x2_1,x2_2,v4_0,v4_1,v4_2,t5,(YIV .i64 ((1:Int)+(YIV .i64 (i6*(YIV .i64 ((1:Int)+(YIV .i64 (x2_1.tmod (3:Int))))))))),h3,h4,[])) fun y470=>chk (y470.2.2.2.2.2.2.2.2.2.2.2.1.length+([(y470.2.2.2.2.2.2.2.2.2.1,y470.2.2.2.2.2.2.2.2.2.2.2.2)]).length<=maxEl) (some (.inl (y470.1,(YIV .i64 (y470.2.1+(1:Int))),y470.2.2.1,y470.2.2.2.1,y470.2.2.2.2.1,y470.2.2.2.2.2.1,y470.2.2.2.2.2.2.1,y470.2.2.2.2.2.2.2.1,y470.2.2.2.2.2.2.2.2.1,y470.2.2.2.2.2.2.2.2.2.2.1,(y470.2.2.2.2.2.2.2.2.2.2.2.1++([(y470.2.2.2.2.2.2.2.2.2.1,y470.2.2.2.2.2.2.2.2.2.2.2.2)])))))))else(some (.inr (v4_0,v4_1,v4_2,t5,h3,h4)))
def Yg3(lo:Lo):Zp42->Option ((ByteArray×Zt3×Zt12×ByteArray×Zt3×Zt12)):=lo.run (YeG lo)
def YAi(lo:Lo):LpE:=⟨3,[(5,some 2,false)],(Zsg [1,2,4,5,6] [.j,.ptr 0 0 0,.ptr 1 0 0,.ptr 2 0 0,.j] [.st [.i .u8,.i .u8,.l (cs [.l Zc20])],.st [.s,.l (cs [.s]),.l Zc15],.st [.s,.ref 3,.ref 4],.sq (cs [.s]),.sq Zc15]),[⟨.exit 0,(Zsg [4,5] [.ptr 0 0 0,.ptr 1 0 0] [.st [.s,.l (cs [.s]),.l Zc15],.st [.s,.ref 2,.ref 3],.sq (cs [.s]),.sq Zc15])⟩],Yg3 lo⟩
def YAj(lo:Lo):LL:=(YAi lo,.loop q118_L3_b.er)::Yob lo
theorem YAk(lo:Lo):Lk lo pf (YEY lo) 0 (YAj lo):=.l (YAh lo) (YeG lo)
def q118(lo:Lo)(x0_0:Int)(x0_1:Int)(x0_2:List ((List Int)))(n1:Int):Option (ByteArray×Zt3×Zt12):=
  chk (0<=(0:Int)/\0<=n1/\n1<=(([(YIU #[97]),(YIU #[98]),(YIU #[99]),(YIU #[100]),(YIU #[101]),(YIU #[102]),(YIU #[103]),(YIU #[104])]).length:Int)) (chk (((([(YIU #[97]),(YIU #[98]),(YIU #[99]),(YIU #[100]),(YIU #[101]),(YIU #[102]),(YIU #[103]),(YIU #[104])]).take n1.toNat).drop 0).length<=maxEl) (YIC (Yg3 lo (n1,(0:Int),x0_0,x0_1,x0_2,(YIU #[]),([]:List ByteArray),([]:List (Int×Zt4)),(YIU #[114]),((([(YIU #[97]),(YIU #[98]),(YIU #[99]),(YIU #[100]),(YIU #[101]),(YIU #[102]),(YIU #[103]),(YIU #[104])]).take n1.toNat).drop 0),[])) fun y471=>some (y471.2.2.2.1,y471.2.2.2.2.1,y471.2.2.2.2.2)))
def YAl:VFn:=⟨true,67,[.c 4 true 3],
 (Rg [oG 2 0,o 4 (.alloc [.s (⟨#[]⟩),.e (cs [.s]),.e Zc15])]
 (Rg [o 10 (.bsl (cs [.s]) 0 []),o 11 (.bsl (cs [.s]) 8 [(0,(ks (⟨#[97]⟩))),(1,(ks (⟨#[98]⟩))),(2,(ks (⟨#[99]⟩))),(3,(ks (⟨#[100]⟩))),(4,(ks (⟨#[101]⟩))),(5,(ks (⟨#[102]⟩))),(6,(ks (⟨#[103]⟩))),(7,(ks (⟨#[104]⟩)))]),oM 12 1,o 13 (.slcR 1 11 none (some 12)),o 14 (.app (cs [.s]) 0 10 13),o 15 (.build [.s (⟨#[]⟩),.e (cs [.s]),.e Zc15] [(0,1,(ks (⟨#[114]⟩))),(1,1,14)]),o 5 (.alloc [.s (⟨#[]⟩),.e (cs [.s]),.e Zc15]),oS 3 5 15]
 (.seq (Rg [oK 6 0]
 (.blk 0 (.loop 3 q118_L3_b)))
 (Rg [oT 66 3 5,oS 3 4 66]
 (Fr 4)))))⟩
def Yoc(lo:Lo):FnE:=Zfe 275 true (Zsg [0,1] [.ag [.i .u8,.i .u8,.l (cs [.l Zc20])],.j] []) (.ag [.s,.l (cs [.s]),.l Zc15]) [] (fun x=>q118 lo x.1 x.2.1 x.2.2.1 x.2.2.2:Int×Int×Zt13×Int->Option (ByteArray×Zt3×Zt12))
noncomputable def YFR(lo:Lo):List FnE:=Yoc lo::YEY lo
theorem YAm(h:GZ P fm YEY lo)(t:Ti P fm 275 YAl):GZ P fm YFR lo:=
  h.p (Yoc lo) (YAk lo) t
def q119(lo:Lo)(x0_0:Int)(x0_1:Int)(x0_2:List ((List Int)))(most1:Int):Option (ByteArray×Zt3×Zt12×Bool):=
  bif(decide (most1< (x0_2.length:Int)))then(some ((YIU #[]),([]:List ByteArray),([]:List (Int×Zt4)),false))else(chk ((6:Int)≠0) (YIC (q118 lo x0_0 x0_1 x0_2 (YIV .i64 (x0_0.tmod (6:Int)))) fun y472=>some (y472.1,y472.2.1,y472.2.2,true)))
def YAn:VFn:=⟨true,18,[.c 4 true 3,.t 5],
 (Rg [oG 2 0,o 4 (.alloc [.s (⟨#[]⟩),.e (cs [.s]),.e Zc15]),oB 5 false]
 (.seq (Rg [oF 6 2 2,oL 7 6,oN 8 7,oM 9 1,oR 10 .gtr 8 9]
 (.cond 10 (Rg [o 11 (.build [.s (⟨#[]⟩),.e (cs [.s]),.e Zc15] []),oS 3 4 11,oB 5 false]
 (.fz [4,5] .ret))
 .skip))
 (Rg [oT 12 3 2,oF 13 0 2,oL 14 13,oR 15 .rem 14 (ki .u8 6),o 16 (.conv .i64 15),oC 17 275 [12,16],oS 3 4 17,oB 5 true]
 (.fz [4,5] .ret))))⟩
def Yod(lo:Lo):FnE:=Zfe 239 true (Zsg [0,1] [.ag [.i .u8,.i .u8,.l (cs [.l Zc20])],.j] []) (.tp [.ag [.s,.l (cs [.s]),.l Zc15],.b]) [] (fun x=>q119 lo x.1 x.2.1 x.2.2.1 x.2.2.2:Int×Int×Zt13×Int->Option (ByteArray×Zt3×Zt12×Bool))
noncomputable def YFs(lo:Lo):List FnE:=Yod lo::YFR lo
theorem YAo(h:GZ P fm YFR lo)(t:Ti P fm 239 YAn):GZ P fm YFs lo:=
  h.p (Yod lo) .n t
def q120_L3_b:VCode:=
 (.seq (Rg [oM 8 5,oM 9 0,oN 10 9,oR 11 .lss 8 10,oM 12 11,gT 13 12 (.mv 5),gT 14 12 (.bin .lss 13 (k 3)),oP 15 12 14 (kb false)]
 (Ce 15 0))
 (.seq (.blk 1 (Rg [oM 19 0,oM 20 5,⟨some 21,.iad 3 19 20,none,true,false⟩,oF 22 0 21,⟨some 23,.load false 1 22,none,true,false⟩,oR 24 .rem 23 (ki .u8 4),oM 25 0,oM 26 5,⟨some 27,.iad 3 25 26,none,true,false⟩,oF 28 1 27,⟨some 29,.load false 1 28,none,true,false⟩,oM 30 0,oM 31 5,⟨some 32,.iad 3 30 31,none,true,false⟩,oF 33 2 32,⟨some 34,.load false 1 33,none,true,false⟩,o 35 (.build [.i .u8 0,.i .u8 0,.e (cs [.l Zc20])] [(0,1,24),(1,1,29),(2,1,34)]),⟨some 36,.call 239 [35,(k 6)],none,true,false⟩,oM 18 36,oE 37 18 0,oE 38 18 1,o 6 (.alloc [.s (⟨#[]⟩),.e (cs [.s]),.e Zc15]),oS 3 6 37,oM 7 38]
 (.seq (Rg [oM 39 7,oX 40 39]
 (.cond 40 (Rg [o 41 (.build [.e Zc6] []),oS 1 2 41,oB 3 false]
 (.fz [2,3] .ret))
 .skip))
 (Rg [o 42 (.bsl (cs [.s]) 3 [(0,(ks (⟨#[114]⟩))),(1,(ks (⟨#[115]⟩))),(2,(ks (⟨#[116]⟩)))]),oM 43 5,oI 44 1 42 43,oL 45 44,oF 46 0 6,oS 1 46 45]
 (.reg [oF 47 0 4,oL 48 47,oT 49 3 6,o 50 (.bsl Zc6 1 [(0,49)]),o 51 (.app Zc6 0 48 50),oF 52 0 4,oS 1 52 51])))))
 (.reg [oM 16 5,oR 17 .add 16 (k 1),oM 5 17])))
def YcZ(lo:Lo):Zt24×Int×Zt1×Zt1->Option ((Zt24×Int×Zt1×Zt1)⊕ ((Bool×Zt1)⊕ (Zt24×Zt1×Zt1))):=fun x=>match x with
  | (d0,i5,v2,h2)=>bif(decide (i5< (d0.length:Int)))then(bif(decide (i5<3))then(chk (0<=i5/\i5< (d0.length:Int)) (chk ((4:Int)≠0) (chk (0<=i5/\i5< (d0.length:Int)) (chk (0<=i5/\i5< (d0.length:Int)) (YIC (q119 lo (((d0.getD i5.toNat ((0:Int),(0:Int),[])).1).tmod (4:Int)) ((d0.getD i5.toNat ((0:Int),(0:Int),[])).2.1) ((d0.getD i5.toNat ((0:Int),(0:Int),[])).2.2) (6:Int)) fun y473=>bif(!y473.2.2.2)then(some (.inr (.inl (false,([]:List (ByteArray×Zt3×Zt12))))))else(chk (0<=i5/\i5< (([(YIU #[114]),(YIU #[115]),(YIU #[116])]).length:Int)) (chk (h2.length+([((([(YIU #[114]),(YIU #[115]),(YIU #[116])]).getD i5.toNat (YIU #[])),y473.2.1,y473.2.2.1)]).length<=maxEl) (some (.inl (d0,(YIV .i64 (i5+1)),v2,(h2++([((([(YIU #[114]),(YIU #[115]),(YIU #[116])]).getD i5.toNat (YIU #[])),y473.2.1,y473.2.2.1)]))))))))))))else(some (.inr (.inr (d0,v2,h2)))))else(some (.inr (.inr (d0,v2,h2))))
def Yg4(lo:Lo):Zt24×Int×Zt1×Zt1->Option ((Bool×Zt1)⊕ (Zt24×Zt1×Zt1)):=lo.run (YcZ lo)
def YAp(lo:Lo):LpE:=⟨3,[(4,some 0,false)],(Zsg [0,2,4,5] [.l Zc25,.ptr 0 0 0,.ptr 1 0 0,.j] [.st [.l Zc6],.st [.ref 2],.sq Zc6]),[⟨.ret,(Zsg [2,3] [.ptr 0 0 0,.b] [.st [.l Zc6]])⟩,⟨.exit 0,(Zsg [0,2,4] [.l Zc25,.ptr 0 0 0,.ptr 1 0 0] [.st [.l Zc6],.st [.ref 2],.sq Zc6])⟩],Yg4 lo⟩
def YAq(lo:Lo):LL:=(YAp lo,.loop q120_L3_b.er)::[]
theorem YAr(lo:Lo):Lk lo pf (YFs lo) 0 (YAq lo):=.l .n (YcZ lo)
def q120(lo:Lo)(d0:List (Int×Int×Zt13)):Option (Zt1×Bool):=
  YIC (Yg4 lo (d0,(0:Int),([]:List (ByteArray×Zt3×Zt12)),[])) fun y474=>alt2 y474 (fun y475=>some (y475.2,y475.1)) (fun y476=>some (y476.2.2,(decide ((y476.1.length:Int)<=3))))
def YAs:VFn:=⟨true,57,[.c 2 true 1,.t 3],
 (Rg [o 2 (.alloc [.e Zc6]),oB 3 false]
 (Rg [o 4 (.alloc [.e Zc6])]
 (.seq (Rg [oK 5 0]
 (.blk 0 (.loop 3 q120_L3_b)))
 (Rg [oT 53 1 4,oM 54 0,oN 55 54,oR 56 .leq 55 (k 3),oS 1 2 53,oM 3 56]
 (.fz [2,3] .ret)))))⟩
def Yoe(lo:Lo):FnE:=Zfe 474 true (Zsg [0] [.l Zc25] []) (.tp [.ag [.l Zc6],.b]) [] (fun x=>q120 lo x:Zt24->Option (Zt1×Bool))
noncomputable def YFS(lo:Lo):List FnE:=Yoe lo::YFs lo
theorem YAt(h:GZ P fm YFs lo)(t:Ti P fm 474 YAs):GZ P fm YFS lo:=
  h.p (Yoe lo) (YAr lo) t
def q121(lo:Lo)(n0:Int):Option ByteArray:=
  chk ((4:Int)≠0) (chk (0<=(n0.tmod (4:Int))/\ (n0.tmod (4:Int))< (([(YIU #[120]),(YIU #[121]),(YIU #[122]),(YIU #[119])]).length:Int)) (some (([(YIU #[120]),(YIU #[121]),(YIU #[122]),(YIU #[119])]).getD ((n0.tmod (4:Int)).toNat) (YIU #[]))))
def YAu:VFn:=⟨true,8,[.t 2],
 (Rg [o 2 (.mv (ks (⟨#[]⟩)))]
 (Rg [o 3 (.bsl (cs [.s]) 4 [(0,(ks (⟨#[120]⟩))),(1,(ks (⟨#[121]⟩))),(2,(ks (⟨#[122]⟩))),(3,(ks (⟨#[119]⟩)))]),oM 4 0,oR 5 .rem 4 (ki .u8 4),oI 6 1 3 5,oL 7 6,oM 2 7]
 (Fr 2)))⟩
def Yof(lo:Lo):FnE:=Zfe 510 true (Zsg [0] [.i .u8] []) .s [] (fun x=>q121 lo x:Int->Option ByteArray)
noncomputable def YED(lo:Lo):List FnE:=Yof lo::YFS lo
theorem YAv(h:GZ P fm YFS lo)(t:Ti P fm 510 YAu):GZ P fm YED lo:=
  h.p (Yof lo) .n t
end Go.Abs.G47
