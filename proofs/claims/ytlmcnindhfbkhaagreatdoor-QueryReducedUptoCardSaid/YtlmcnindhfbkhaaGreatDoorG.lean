/- Functions of the program as functions of data (written by program). No condition. -/
import Derived.Test.YtlmcnindhfbkhaaGreatDoorB
set_option linter.unusedVariables false
set_option linter.unusedSimpArgs false
set_option linter.unusedSectionVars false
open List renaming mem_cons_self → YGo
open Nat renaming beq → YGP, ble → YGR
open Option renaming bind → YG1
open ByteArray renaming mk → YHk
open Go.IntKind renaming wrap → YHl
namespace Go.Abs.G47
open Go Go.Abs
abbrev Zd0:ByteArray×Int×Int×ByteArray:=((YHk #[]),(0:Int),(0:Int),(YHk #[]))
abbrev Zd1:Int×Int×ByteArray:=((0:Int),(0:Int),(YHk #[]))
abbrev _root_.Go.Abs.SV.j:SV:=.i .i64
mutual
def ZtS:SV->List Ty
 | .i k=>[.i k]
 | .b=>[.b]
 | .s=>[.s]
 | .l c=>[.l c]
 | .pre _=>[I]
 | .ag l=>ZtL l
 | .tp l=>ZtL l
 | .clo _ l=>ZtL l
 |_=>[]
def ZtL:List SV->List Ty
 | []=>[]
 |a::r=>ZtS a++ZtL r
end
def ZtO:List SO->List Ty
 | []=>[]
 | .sq c::r=>.l c::ZtO r
 | .fm c::r=>.l (.cons (.l c) .nil)::ZtO r
 | .st l::r=>ZtL l++ZtO r
 | .sb::r=>.s::ZtO r
 | .dd::r=>ZtO r
abbrev Zsg(t:List Nat)(v:List SV)(o:List SO):Sg:=⟨t,v,o,cs (ZtL v++ZtO o)⟩
abbrev Zfe(g:Nat)(p:Bool)(a:Sg)(r:SV)(o:List SO)(F:a.c.den->Option (cs (ZtS r++ZtO o)).den):FnE:=⟨g,p,a,r,o,_,F⟩
abbrev Zt7:Type:=List (ByteArray×Int×Int×ByteArray)
abbrev Zt0:Type:=List (ByteArray×Zt7)
abbrev Zt2:Type:=List (Int×Int×ByteArray)
abbrev Zt12:Type:=List (Int×Zt2)
abbrev Zt3:Type:=List ByteArray
abbrev Zt1:Type:=List (ByteArray×Zt3×Zt12)
abbrev Zt4:Type:=List (Int×ByteArray×Int×Int×ByteArray)
abbrev Zc13:Cs:=cs [.s,I,I,.s]
abbrev Zc5:Cs:=cs [.s,.l Zc13]
abbrev Zc10:Cs:=cs [I,I,.s]
abbrev Zc15:Cs:=cs [I,.l Zc10]
abbrev Zc6:Cs:=cs [.s,.l (cs [.s]),.l Zc15]
abbrev Zt8:Type:=List (Int×ByteArray×ByteArray×Int×Int×ByteArray)
abbrev Zt9:Type:=List (Int×ByteArray×Zt2)
abbrev Zt11:Type:=List ((List Int))
abbrev Zc14:Cs:=cs [I,.s,I,I,.s]
abbrev Zc16:Cs:=cs [I,.s,.l Zc10]
abbrev Zc17:Cs:=cs [.l (cs [I])]
abbrev Zc18:Cs:=cs [I,.s,.s,I,I,.s]
abbrev Zt19:Type:=List (Int× (List Int))
abbrev Zc20:Cs:=cs [.i .u8]
abbrev Zt21:Type:=List (Zt2)
abbrev Zc22:Cs:=cs [.l Zc10]
abbrev Zc23:Cs:=cs [.i .u8,.l Zc20]
abbrev Zt24:Type:=List (Int×Int×Zt11)
abbrev Zc25:Cs:=cs [.i .u8,.i .u8,.l (cs [.l Zc20])]
abbrev Zp26:Type:=Int×Bool×Zt12×Int×Int×Int×Int×Zt3×Zt0×Zt1×Int×Zt4×Bool×Bool×Int×Zt9×Bool×Zt3× (List Int)
abbrev Zp27:Type:=Int×Bool×Zt12×Int×Int×Int×Int×Zt3×Zt0×Zt1×Int×Zt4×Bool×Bool×Zt3× (List Int)×Zt11
abbrev Zp28:Type:=Zt7×Int×Int×Zt3×Zt0×Zt1×Int×Zt4×Bool×Bool× (List Int)×Int×Zt9×Bool×Int×Zt2×Zt3
abbrev Zp29:Type:=Int×Int×Zt3×Zt0×Int×Zt9×Bool×Zt1×Int×Zt4×Bool×Bool× (List Int)×Zt2×ByteArray
abbrev Zp30:Type:=Int×Int×Zt1× (List Int)×Zt19×Zt3×Zt0×ByteArray×Zt3×Zt12×ByteArray×Zt3×Zt0×Zt7
abbrev Zp31:Type:=Int×Zt12×Int×Int×Zt3×Zt0×Zt1×Int×Zt4×Bool×Bool×Int×Zt9×Bool× (List Int)
abbrev Zp32:Type:=Zt3×Int×Int×Zt3×Zt0×Zt1×Int×Zt4×Bool×Bool× (List Int)×Int×Zt9×Bool×Zt2
abbrev Zp33:Type:=Zt7×Int×Int×Zt3×Zt0×Zt1×Int×Zt4×Bool×Bool× (List Int)×Zt11×Int×Zt2×Zt3
abbrev Zp34:Type:=Int×Int×Int×Int×Int×Zt11×ByteArray×Zt3×Zt12×ByteArray×Int×Zt3×Zt12×Zt2
abbrev Zp35:Type:=Int×Zt12×Int×Int×Zt3×Zt0×Zt1×Int×Zt4×Bool×Bool× (List Int)×Zt11
abbrev Zp36:Type:=Int×Zt3×Zt0×Zt1×Int×Zt4×Bool×Bool× (List Int)×Int×Zt9×Bool
abbrev Zp37:Type:=Zt0×Int×Int×Zt1×Zt3×Zt0×Zt1×Int×Zt4×Bool×Bool× (List Int)
abbrev Zp38:Type:=Zt2×Zt3×Int×Int×Zt3×Zt0×Zt1×Int×Zt4×Bool×Bool× (List Int)
abbrev Zp39:Type:=Int×Int×Int×Int×Zt11×ByteArray×Zt3×Zt12×ByteArray×Zt3×Zt12
abbrev Zp40:Type:=Zt0×Int×Int×Zt7×Int×Int×Zt3×Zt0×Zt3×ByteArray×Zt7×Zt3
abbrev Zp41:Type:=Zt0×Zt0×Zt0×Int×Int×Zt3×Int×Int×Int×Zt8×Bool×Bool
abbrev Zp42:Type:=Int×Zt3×Zt0×Zt1×Int×Zt4×Bool×Bool× (List Int)×Zt11
abbrev Zp43:Type:=Zt7×Int×Int×Int×Zt8×Bool×Bool×ByteArray×Zt7×Zt3
abbrev Zp44:Type:=Zt3×Int×Int×Zt3×Zt0×Zt3×Zt0×Int×Zt8×Bool×Bool
abbrev Zp45:Type:=(Zt3×Int×Int× (List Int)×Bool×Int×Zt9×Bool)
abbrev Zp46:Type:=Zt0×Zt0×Zt0×Int×Int×Int×Zt8×Bool×Bool
abbrev Zp47:Type:=Int×Zt1× (List Int)×Zt19×Zt3×Zt0×Zt3×Zt0
abbrev Zp48:Type:=Zt3×Int× (List Int)×Zt19×Zt3×Zt0×Zt0×Zt3
abbrev Zp49:Type:=ByteArray×Zt1×Int×Int×ByteArray×Zt3×Zt12
abbrev Zp50:Type:=Int×Zt12×Int×Int×ByteArray×Zt3×Zt12
abbrev Zp51:Type:=Zt3×Int×Int×Int×Zt8×Bool×Bool×Zt7
abbrev Zp52:Type:=Zt21×Int×Zt21×Int×Int×Int×Zt3×Zt0
abbrev Zp53:Type:=(List Int)×Int×Int×Int×Zt2×Int×Zt2
abbrev Zp54:Type:=Int×Int×Int×Int×ByteArray×ByteArray
abbrev Zp55:Type:=(List (Zt0))×Int× (List (Zt0))×Int×Int
abbrev Zp56:Type:=Int×Int×Zt21×Zt3×Int×Zt9×Bool
abbrev Zp57:Type:=Zt3×Int×Int×ByteArray×Zt3×Zt12
abbrev Zp58:Type:=Zt0×Int×Int×Zt7×Int×Int×Zt3
abbrev Zp59:Type:=Zt0×Int×Int×Zt3×Zt0×Zt3×Zt0
abbrev Zp60:Type:=Int×Int×Int×Bool×Bool×Zt3
abbrev Zp61:Type:=Zt0×Zt0×Int×Zt8×Bool×Bool
abbrev Zp62:Type:=ByteArray×Int×Int×ByteArray
instance{n:Nat}:OfNat VOpd n:=⟨.t n⟩
abbrev Rg(l:List VI)(b:VCode):VCode:=.seq (.reg l) b
abbrev Fr(n:Nat):VCode:=.fz [n] .ret
abbrev Ce(c e:Nat):VCode:=.cond (t c) .skip (.exit e)
abbrev oM(n a:Nat):VI:=o n (.mv (t a))
abbrev oL(n a:Nat):VI:=o n (.load false 1 (t a))
abbrev oT(n s a:Nat):VI:=o n (.load true s (t a))
abbrev oF(n i a:Nat):VI:=o n (.fad i (t a))
abbrev oE(n a i:Nat):VI:=o n (.ext (t a) i)
abbrev oN(n a:Nat):VI:=o n (.len (t a))
abbrev oI(n e a i:Nat):VI:=o n (.iad e (t a) (t i))
abbrev oS(n a b:Nat):VI:=on (.store n (t a) (t b))
abbrev oP(n c:Nat)(a b:VOpd):VI:=o n (.pick (t c) a b)
abbrev oK(n:Nat)(a:Int):VI:=o n (.mv (k a))
abbrev oB(n:Nat)(a:Bool):VI:=o n (.mv (kb a))
abbrev oC(n f:Nat)(l:List VOpd):VI:=o n (.call f l)
abbrev oX(n a:Nat):VI:=o n (.not (t a))
abbrev oG(n a:Nat):VI:=o n (.box (t a))
abbrev oR(n:Nat)(p:BinOp)(a b:VOpd):VI:=o n (.bin p a b)
abbrev gT(n g:Nat)(p:VOp):VI:=og n g true p
abbrev gF(n g:Nat)(p:VOp):VI:=og n g false p
set_option maxRecDepth 100000
set_option maxHeartbeats 1000000
variable{P:Program}{fm:FM}{lo:Lo}
abbrev pf:Nat->Bool:=fun g=> !(List.any ([310,502,512,513,514,149,151,515,520,532,534,537,539,540,541,164,543,546,188,557,200,559,560,426,561,196,323,324,293,442,327,309,491,271,301,311,312,313,315,316,318,319,322,1084,487,492,493,269,527,245,548]:List Nat) (YGP g))
abbrev GZ(P:Program)(fm:FM)(fs:Lo->List FnE)(lo:Lo):Prop:=GS P fm pf (fs lo) lo
abbrev Ti(P:Program)(fm:FM)(g:Nat)(F:VFn):Prop:=TieF P fm pf g F
def fs0(_:Lo):List FnE:=[]
def q0(lo:Lo)(i0:Int):Option Zp62:=
  some ((YHk #[]),(1:Int),i0,(YHk #[]))
def Ytj:VFn:=⟨true,6,[.c 2 true 4],
 (Rg [o 2 (.alloc [.s (⟨#[]⟩),.i .i64 0,.i .i64 0,.s (⟨#[]⟩)])]
 (Rg [oM 3 0,o 4 (.build [.i .i64 0,.i .i64 0,.s (⟨#[]⟩)] [(0,1,(k 1)),(1,1,3)]),o 5 (.build [.s (⟨#[]⟩),.i .i64 0,.i .i64 0,.s (⟨#[]⟩)] [(1,3,4)]),oS 4 2 5]
 (Fr 2)))⟩
def Ylh(lo:Lo):FnE:=Zfe 498 true (Zsg [0] [.j] []) (.ag [.s,.j,.j,.s]) [] (fun x=>q0 lo x:Int->Option Zp62)
def fs1(lo:Lo):List FnE:=Ylh lo::fs0 lo
theorem Ytk(h:GZ P fm fs0 lo)(t:Ti P fm 498 Ytj):GZ P fm fs1 lo:=
  h.p (Ylh lo) .n t
def q1_L3_b:VCode:=
 (Rg [oR 13 .lss 12 11]
 (.seq (Ce 13 0)
 (.seq (.blk 1 (Rg [oI 14 1 10 12,oL 15 14,oM 7 15]
 (.reg [oF 16 1 5,oL 17 16,oM 18 7,oC 19 498 [18],o 20 (.fld true 1 3 19),o 21 (.bsl Zc10 1 [(0,20)]),o 22 (.app Zc10 0 17 21),oF 23 1 5,oS 1 23 22])))
 (.reg [oR 24 .add 12 (k 1),oM 12 24]))))
def Yli(lo:Lo):Zp53->Option (Zp53⊕ ((Int×Zt2×Int×Zt2))):=fun x=>match x with
  | (v10,v11,v12,v4_0,v4_1,r5,h2)=>bif(decide (v12<v11))then(chk (0<=v12/\v12< (v10.length:Int)) (YG1 (q0 lo (v10.getD v12.toNat (0:Int))) fun y0=>chk (h2.length+[y0.2].length<=maxEl) (some (.inl (v10,v11,(YHl .i64 (v12+1)),v4_0,v4_1,r5,(h2++[y0.2]))))))else(some (.inr (v4_0,v4_1,r5,h2)))
def Ylj(lo:Lo):Zp53->Option ((Int×Zt2×Int×Zt2)):=lo.run (Yli lo)
def Ytl(lo:Lo):LpE:=⟨3,[(5,some 1,false)],(Zsg [4,5,10,11,12] [.ptr 0 0 0,.ptr 1 0 0,.l (cs [I]),.j,.j] [.st [.j,.l Zc10],.st [.j,.ref 2],.sq Zc10]),[⟨.exit 0,(Zsg [4,5] [.ptr 0 0 0,.ptr 1 0 0] [.st [.j,.l Zc10],.st [.j,.ref 2],.sq Zc10])⟩],Ylj lo⟩
def Ytm(lo:Lo):LL:=(Ytl lo,.loop q1_L3_b.er)::[]
theorem Ytn(lo:Lo):Lk lo pf (fs1 lo) 0 (Ytm lo):=.l .n (Yli lo)
def q1(lo:Lo)(id0:Int)(l1:List Int):Option (Int×Zt2):=
  YG1 (Ylj lo (l1,(l1.length:Int),(0:Int),(0:Int),([]:List (Int×Int×ByteArray)),id0,[])) fun y1=>some (y1.2.2.1,y1.2.2.2)
def Yto:VFn:=⟨true,26,[.c 4 true 2],
 (Rg [o 4 (.alloc [.i .i64 0,.e Zc10])]
 (Rg [oM 8 0,o 9 (.build [.i .i64 0,.e Zc10] [(0,1,8)]),o 5 (.alloc [.i .i64 0,.e Zc10]),oS 2 5 9]
 (.seq (Rg [oM 10 1,oN 11 10,oK 12 0]
 (.blk 0 (.loop 3 q1_L3_b)))
 (Rg [oT 25 2 5,oS 2 4 25]
 (Fr 4)))))⟩
def Ylk(lo:Lo):FnE:=Zfe 497 true (Zsg [0,1] [.j,.l (cs [I])] []) (.ag [.j,.l Zc10]) [] (fun x=>q1 lo x.1 x.2:Int× (List Int)->Option (Int×Zt2))
def fs2(lo:Lo):List FnE:=Ylk lo::fs1 lo
theorem Ytp(h:GZ P fm fs1 lo)(t:Ti P fm 497 Yto):GZ P fm fs2 lo:=
  h.p (Ylk lo) (Ytn lo) t
def q2(lo:Lo)(s0:ByteArray):Option Zp62:=
  some (s0,(0:Int),(0:Int),(YHk #[]))
def Ytq:VFn:=⟨true,5,[.c 2 true 4],
 (Rg [o 2 (.alloc [.s (⟨#[]⟩),.i .i64 0,.i .i64 0,.s (⟨#[]⟩)])]
 (Rg [oM 3 0,o 4 (.build [.s (⟨#[]⟩),.i .i64 0,.i .i64 0,.s (⟨#[]⟩)] [(0,1,3)]),oS 4 2 4]
 (Fr 2)))⟩
def Yll(lo:Lo):FnE:=Zfe 499 true (Zsg [0] [.s] []) (.ag [.s,.j,.j,.s]) [] (fun x=>q2 lo x:ByteArray->Option Zp62)
def fs3(lo:Lo):List FnE:=Yll lo::fs2 lo
theorem Ytr(h:GZ P fm fs2 lo)(t:Ti P fm 499 Ytq):GZ P fm fs3 lo:=
  h.p (Yll lo) .n t
def q3_L3_b:VCode:=
 (Rg [oR 20 .lss 19 18]
 (.seq (Ce 20 0)
 (.seq (.blk 1 (Rg [oM 21 19,oM 3 21]
 (Rg [oM 22 0,oM 23 3,o 24 (.idx 22 23),oM 4 24]
 (Rg [oM 25 4,oR 26 .geq 25 (ki .u8 97),oM 27 26,gT 28 27 (.mv 4),gT 29 27 (.bin .leq 28 (ki .u8 122)),oP 30 27 29 (kb false),oM 31 30,gF 32 31 (.mv 4),gF 33 31 (.bin .geq 32 (ki .u8 65)),gF 34 31 (.mv 33),gT 35 34 (.mv 4),gT 36 34 (.bin .leq 35 (ki .u8 90)),gF 37 31 (.pick 34 36 (kb false)),oP 38 31 (kb true) 37,oM 39 38,gF 40 39 (.mv 4),gF 41 39 (.bin .eql 40 (ki .u8 95)),oP 42 39 (kb true) 41,oM 5 42]
 (Rg [oM 43 5,oX 44 43,oM 45 44,gT 46 45 (.mv 3),gT 47 45 (.bin .eql 46 (k 0)),gT 48 45 (.mv 47),gF 49 48 (.mv 4),gF 50 48 (.bin .lss 49 (ki .u8 48)),gT 51 45 (.pick 48 (kb true) 50),gT 52 45 (.mv 51),gF 53 52 (.mv 4),gF 54 52 (.bin .gtr 53 (ki .u8 57)),gT 55 45 (.pick 52 (kb true) 54),oP 56 45 55 (kb false)]
 (.cond 56 (Rg [oB 2 false]
 (Fr 2))
 .skip))))))
 (.reg [oR 57 .add 19 (k 1),oM 19 57]))))
def Yd3(lo:Lo):ByteArray×Int×Int->Option ((ByteArray×Int×Int)⊕ (Bool⊕Unit)):=fun x=>match x with
  | (s0,v18,v19)=>bif(decide (v19<v18))then(chk (0<=v19/\v19< (s0.size:Int)) (bif(decide ((97:Int)<=(YBQ s0 v19)))then(bif(decide ((YBQ s0 v19)<=(122:Int)))then(bif(!true)then(bif(decide (v19=0))then(some (.inr (.inl false)))else(bif(decide ((YBQ s0 v19)< (48:Int)))then(some (.inr (.inl false)))else(bif(decide ((57:Int)< (YBQ s0 v19)))then(some (.inr (.inl false)))else(some (.inl (s0,v18,(YHl .i64 (v19+1))))))))else(some (.inl (s0,v18,(YHl .i64 (v19+1))))))else(bif(decide ((65:Int)<=(YBQ s0 v19)))then(bif(decide ((YBQ s0 v19)<=(90:Int)))then(bif(!true)then(bif(decide (v19=0))then(some (.inr (.inl false)))else(bif(decide ((YBQ s0 v19)< (48:Int)))then(some (.inr (.inl false)))else(bif(decide ((57:Int)< (YBQ s0 v19)))then(some (.inr (.inl false)))else(some (.inl (s0,v18,(YHl .i64 (v19+1))))))))else(some (.inl (s0,v18,(YHl .i64 (v19+1))))))else(bif(!(decide ((YBQ s0 v19)=(95:Int))))then(bif(decide (v19=0))then(some (.inr (.inl false)))else(bif(decide ((YBQ s0 v19)< (48:Int)))then(some (.inr (.inl false)))else(bif(decide ((57:Int)< (YBQ s0 v19)))then(some (.inr (.inl false)))else(some (.inl (s0,v18,(YHl .i64 (v19+1))))))))else(some (.inl (s0,v18,(YHl .i64 (v19+1)))))))else(bif(!(decide ((YBQ s0 v19)=(95:Int))))then(bif(decide (v19=0))then(some (.inr (.inl false)))else(bif(decide ((YBQ s0 v19)< (48:Int)))then(some (.inr (.inl false)))else(bif(decide ((57:Int)< (YBQ s0 v19)))then(some (.inr (.inl false)))else(some (.inl (s0,v18,(YHl .i64 (v19+1))))))))else(some (.inl (s0,v18,(YHl .i64 (v19+1))))))))else(bif(decide ((65:Int)<=(YBQ s0 v19)))then(bif(decide ((YBQ s0 v19)<=(90:Int)))then(bif(!true)then(bif(decide (v19=0))then(some (.inr (.inl false)))else(bif(decide ((YBQ s0 v19)< (48:Int)))then(some (.inr (.inl false)))else(bif(decide ((57:Int)< (YBQ s0 v19)))then(some (.inr (.inl false)))else(some (.inl (s0,v18,(YHl .i64 (v19+1))))))))else(some (.inl (s0,v18,(YHl .i64 (v19+1))))))else(bif(!(decide ((YBQ s0 v19)=(95:Int))))then(bif(decide (v19=0))then(some (.inr (.inl false)))else(bif(decide ((YBQ s0 v19)< (48:Int)))then(some (.inr (.inl false)))else(bif(decide ((57:Int)< (YBQ s0 v19)))then(some (.inr (.inl false)))else(some (.inl (s0,v18,(YHl .i64 (v19+1))))))))else(some (.inl (s0,v18,(YHl .i64 (v19+1)))))))else(bif(!(decide ((YBQ s0 v19)=(95:Int))))then(bif(decide (v19=0))then(some (.inr (.inl false)))else(bif(decide ((YBQ s0 v19)< (48:Int)))then(some (.inr (.inl false)))else(bif(decide ((57:Int)< (YBQ s0 v19)))then(some (.inr (.inl false)))else(some (.inl (s0,v18,(YHl .i64 (v19+1))))))))else(some (.inl (s0,v18,(YHl .i64 (v19+1)))))))))else(some (.inr (.inr ())))
def Ygr(lo:Lo):ByteArray×Int×Int->Option (Bool⊕Unit):=lo.run (Yd3 lo)
def Yts(lo:Lo):LpE:=⟨3,[],(Zsg [0,18,19] [.s,.j,.j] []),[⟨.ret,(Zsg [2] [.b] [])⟩,⟨.exit 0,(Zsg [] [] [])⟩],Ygr lo⟩
def Ytt(lo:Lo):LL:=(Yts lo,.loop q3_L3_b.er)::[]
theorem Ytu(lo:Lo):Lk lo pf (fs3 lo) 0 (Ytt lo):=.l .n (Yd3 lo)
def q3(lo:Lo)(s0:ByteArray):Option Bool:=
  bif(decide (s0=(YHk #[])))then(some false)else(bif(decide ((24:Int)< (s0.size:Int)))then(some false)else(bif(decide (s0=(YHk #[110,117,108,108])))then(some false)else(YG1 (Ygr lo (s0,(s0.size:Int),(0:Int))) fun y9=>alt2 y9 (fun y10=>some y10) (fun y11=>some true))))
def Ytv:VFn:=⟨true,58,[.t 2],
 (Rg [oB 2 false]
 (.seq (Rg [oM 6 0,oR 7 .eql 6 (ks (⟨#[]⟩)),oM 8 7,gF 9 8 (.mv 0),gF 10 8 (.lenS 9),gF 11 8 (.bin .gtr 10 (k 24)),oP 12 8 (kb true) 11,oM 13 12,gF 14 13 (.mv 0),gF 15 13 (.bin .eql 14 (ks (⟨#[110,117,108,108]⟩))),oP 16 13 (kb true) 15]
 (.cond 16 (Rg [oB 2 false]
 (Fr 2))
 .skip))
 (.seq (Rg [oM 17 0,o 18 (.lenS 17),oK 19 0]
 (.blk 0 (.loop 3 q3_L3_b)))
 (Rg [oB 2 true]
 (Fr 2)))))⟩
def Ylm(lo:Lo):FnE:=Zfe 255 true (Zsg [0] [.s] []) .b [] (fun x=>q3 lo x:ByteArray->Option Bool)
def fs4(lo:Lo):List FnE:=Ylm lo::fs3 lo
theorem Ytw(h:GZ P fm fs3 lo)(t:Ti P fm 255 Ytv):GZ P fm fs4 lo:=
  h.p (Ylm lo) (Ytu lo) t
def q4_L3_b:VCode:=
 (Rg [oR 9 .lss 8 7]
 (.seq (Ce 9 0)
 (.seq (.blk 1 (Rg [oM 10 8,oM 5 10]
 (Rg [oM 11 1,oM 12 0,oM 13 5,oI 14 1 12 13,oL 15 14,oR 16 .eql 11 15]
 (.cond 16 (Rg [oM 17 5,oM 4 17]
 (Fr 4))
 .skip))))
 (.reg [oR 18 .add 8 (k 1),oM 8 18]))))
def Yd4(lo:Lo):Zt3×ByteArray×Int×Int->Option ((Zt3×ByteArray×Int×Int)⊕ (Int⊕Unit)):=fun x=>match x with
  | (s0,v1,v7,v8)=>bif(decide (v8<v7))then(chk (0<=v8/\v8< (s0.length:Int)) (bif(decide (v1=(s0.getD v8.toNat (YHk #[]))))then(some (.inr (.inl v8)))else(some (.inl (s0,v1,v7,(YHl .i64 (v8+1)))))))else(some (.inr (.inr ())))
def Ygs(lo:Lo):Zt3×ByteArray×Int×Int->Option (Int⊕Unit):=lo.run (Yd4 lo)
def Ytx(lo:Lo):LpE:=⟨3,[],(Zsg [0,1,7,8] [.l (cs [.s]),.s,.j,.j] []),[⟨.ret,(Zsg [4] [.j] [])⟩,⟨.exit 0,(Zsg [] [] [])⟩],Ygs lo⟩
def Yty(lo:Lo):LL:=(Ytx lo,.loop q4_L3_b.er)::[]
theorem Ytz(lo:Lo):Lk lo pf (fs4 lo) 0 (Yty lo):=.l .n (Yd4 lo)
def q4(lo:Lo)(s0:List ByteArray)(v1:ByteArray):Option Int:=
  YG1 (Ygs lo (s0,v1,(s0.length:Int),(0:Int))) fun y14=>alt2 y14 (fun y15=>some y15) (fun y16=>some (-1:Int))
def YtA:VFn:=⟨true,19,[.t 4],
 (Rg [oK 4 0]
 (.seq (Rg [oM 6 0,oN 7 6,oK 8 0]
 (.blk 0 (.loop 3 q4_L3_b)))
 (Rg [oK 4 (-1)]
 (Fr 4))))⟩
def Yln(lo:Lo):FnE:=Zfe 173 true (Zsg [0,1] [.l (cs [.s]),.s] []) (.i .i64) [] (fun x=>q4 lo x.1 x.2:Zt3×ByteArray->Option Int)
def fs5(lo:Lo):List FnE:=Yln lo::fs4 lo
theorem YtB(h:GZ P fm fs4 lo)(t:Ti P fm 173 YtA):GZ P fm fs5 lo:=
  h.p (Yln lo) (Ytz lo) t
def q5(lo:Lo)(s0:List ByteArray)(v1:ByteArray):Option Bool:=
  YG1 (q4 lo s0 v1) fun y17=>some (decide (0<=y17))
def YtC:VFn:=⟨true,9,[.t 4],
 (Rg [oB 4 false]
 (Rg [oM 5 0,oM 6 1,oC 7 173 [5,6],oR 8 .geq 7 (k 0),oM 4 8]
 (Fr 4)))⟩
def Ylo(lo:Lo):FnE:=Zfe 256 true (Zsg [0,1] [.l (cs [.s]),.s] []) .b [] (fun x=>q5 lo x.1 x.2:Zt3×ByteArray->Option Bool)
def fs6(lo:Lo):List FnE:=Ylo lo::fs5 lo
theorem YtD(h:GZ P fm fs5 lo)(t:Ti P fm 256 YtC):GZ P fm fs6 lo:=
  h.p (Ylo lo) .n t
def q6(lo:Lo)(v0_0:Int)(v0_1:Int)(v0_2:ByteArray):Option Bool:=
  bif(decide (v0_0=0))then(bif(decide (v0_1=0))then(some (decide (v0_2=(YHk #[]))))else(some false))else(bif(decide (v0_0=1))then(some (decide (v0_2=(YHk #[]))))else(bif(decide (v0_0=2))then(bif(decide (v0_1=0))then(some (decide ((v0_2.size:Int)<=200)))else(some false))else(bif(decide (v0_0=3))then(bif(decide (1<=v0_1))then(some (decide (v0_2=(YHk #[]))))else(some false))else(some false))))
def YtE:VFn:=⟨true,41,[.t 2],
 (Rg [oG 1 0,oB 2 false]
 (.seq (Rg [oF 3 0 1,oL 4 3]
 (.blk 0 (Rg [oR 6 .eql 4 (k 0),oM 5 6]
 (.cond 5 (Rg [oF 7 1 1,oL 8 7,oR 9 .eql 8 (k 0),oM 10 9,gT 11 10 (.fad 2 1),gT 12 10 (.load false 1 11),gT 13 10 (.bin .eql 12 (ks (⟨#[]⟩))),oP 14 10 13 (kb false),oM 2 14]
 (Fr 2))
 (Rg [oR 16 .eql 4 (k 1),oM 15 16]
 (.cond 15 (Rg [oF 17 2 1,oL 18 17,oR 19 .eql 18 (ks (⟨#[]⟩)),oM 2 19]
 (Fr 2))
 (Rg [oR 21 .eql 4 (k 2),oM 20 21]
 (.cond 20 (Rg [oF 22 1 1,oL 23 22,oR 24 .eql 23 (k 0),oM 25 24,gT 26 25 (.fad 2 1),gT 27 25 (.load false 1 26),gT 28 25 (.lenS 27),gT 29 25 (.bin .leq 28 (k 200)),oP 30 25 29 (kb false),oM 2 30]
 (Fr 2))
 (Rg [oR 32 .eql 4 (k 3),oM 31 32]
 (.cond 31 (Rg [oF 33 1 1,oL 34 33,oR 35 .geq 34 (k 1),oM 36 35,gT 37 36 (.fad 2 1),gT 38 36 (.load false 1 37),gT 39 36 (.bin .eql 38 (ks (⟨#[]⟩))),oP 40 36 39 (kb false),oM 2 40]
 (Fr 2))
 .skip))))))))))
 (Rg [oB 2 false]
 (Fr 2))))⟩
def Ylp(lo:Lo):FnE:=Zfe 283 true (Zsg [0] [.ag [.j,.j,.s]] []) .b [] (fun x=>q6 lo x.1 x.2.1 x.2.2:Int×Int×ByteArray->Option Bool)
def fs7(lo:Lo):List FnE:=Ylp lo::fs6 lo
theorem YtF(h:GZ P fm fs6 lo)(t:Ti P fm 283 YtE):GZ P fm fs7 lo:=
  h.p (Ylp lo) .n t
def q7(lo:Lo)(v0_0:Int)(v0_1:Int)(v0_2:ByteArray):Option Bool:=
  YG1 (q6 lo v0_0 v0_1 v0_2) fun y22=>some (!y22)
def YtG:VFn:=⟨true,6,[.t 2],
 (Rg [oG 1 0,oB 2 false]
 (Rg [oT 3 3 1,oC 4 283 [3],oX 5 4,oM 2 5]
 (Fr 2)))⟩
def Ylq(lo:Lo):FnE:=Zfe 294 true (Zsg [0] [.ag [.j,.j,.s]] []) .b [] (fun x=>q7 lo x.1 x.2.1 x.2.2:Int×Int×ByteArray->Option Bool)
def fs8(lo:Lo):List FnE:=Ylq lo::fs7 lo
theorem YtH(h:GZ P fm fs7 lo)(t:Ti P fm 294 YtG):GZ P fm fs8 lo:=
  h.p (Ylq lo) .n t
def q8_L3_b:VCode:=
 (Rg [oR 9 .lss 8 7]
 (.seq (Ce 9 0)
 (.seq (.blk 1 (Rg [oM 10 8,oM 5 10]
 (Rg [oM 11 1,oM 12 0,oM 13 5,oI 14 3 12 13,oT 15 3 14,o 16 (.dyn 11 [15])]
 (.cond 16 (Rg [oM 17 5,oM 4 17]
 .ret)
 .skip))))
 (.reg [oR 18 .add 8 (k 1),oM 8 18]))))
def Yd5(lo:Lo):Zt2×Int×Int->Option ((Zt2×Int×Int)⊕ (Int⊕Unit)):=fun x=>match x with
  | (s0,v7,v8)=>bif(decide (v8<v7))then(chk (0<=v8/\v8< (s0.length:Int)) (YG1 (q7 lo ((s0.getD v8.toNat Zd1).1) ((s0.getD v8.toNat Zd1).2.1) ((s0.getD v8.toNat Zd1).2.2)) fun y23=>bif y23 then(some (.inr (.inl v8)))else(some (.inl (s0,v7,(YHl .i64 (v8+1)))))))else(some (.inr (.inr ())))
def Ygt(lo:Lo):Zt2×Int×Int->Option (Int⊕Unit):=lo.run (Yd5 lo)
def YtI(lo:Lo):LpE:=⟨3,[],(Zsg [0,1,7,8] [.l Zc10,.clo 294 [],.j,.j] []),[⟨.ret,(Zsg [4] [.j] [])⟩,⟨.exit 0,(Zsg [] [] [])⟩],Ygt lo⟩
def YtJ(lo:Lo):LL:=(YtI lo,.loop q8_L3_b.er)::[]
theorem YtK(lo:Lo):Lk lo pf (fs8 lo) 0 (YtJ lo):=.l .n (Yd5 lo)
def q8(lo:Lo)(s0:List (Int×Int×ByteArray)):Option Int:=
  YG1 (Ygt lo (s0,(s0.length:Int),(0:Int))) fun y24=>alt2 y24 (fun y25=>some y25) (fun y26=>some (-1:Int))
def YtL:VFn:=⟨true,19,[.t 4],
 (Rg [oK 4 0]
 (.seq (Rg [oM 6 0,oN 7 6,oK 8 0]
 (.blk 0 (.loop 3 q8_L3_b)))
 (Rg [oK 4 (-1)]
 .ret)))⟩
def Ylr(lo:Lo):FnE:=Zfe 309 false (Zsg [0,1] [.l Zc10,.clo 294 []] []) (.i .i64) [] (fun x=>q8 lo x:Zt2->Option Int)
def fs9(lo:Lo):List FnE:=Ylr lo::fs8 lo
theorem YtM(h:GZ P fm fs8 lo)(t:Ti P fm 309 YtL):GZ P fm fs9 lo:=
  h.i (Ylr lo) (YtK lo) t
def q9(lo:Lo)(s0:List (Int×Int×ByteArray)):Option Bool:=
  YG1 (q8 lo s0) fun y27=>some (decide (0<=y27))
def YtN:VFn:=⟨true,9,[.t 4],
 (Rg [oB 4 false]
 (Rg [oM 5 0,oM 6 1,oC 7 309 [5,6],oR 8 .geq 7 (k 0),oM 4 8]
 .ret))⟩
def Yls(lo:Lo):FnE:=Zfe 293 false (Zsg [0,1] [.l Zc10,.clo 294 []] []) .b [] (fun x=>q9 lo x:Zt2->Option Bool)
def fs10(lo:Lo):List FnE:=Yls lo::fs9 lo
theorem YtO(h:GZ P fm fs9 lo)(t:Ti P fm 293 YtN):GZ P fm fs10 lo:=
  h.i (Yls lo) .n t
def q10(lo:Lo)(l0:List (Int×Int×ByteArray)):Option Bool:=
  YG1 (q9 lo l0) fun y28=>some (!y28)
def YtP:VFn:=⟨true,6,[.t 2],
 (Rg [oB 2 false]
 (Rg [oM 3 0,oC 4 293 [3,(.c (.f 294))],oX 5 4,oM 2 5]
 (Fr 2)))⟩
def Ylt(lo:Lo):FnE:=Zfe 257 true (Zsg [0] [.l Zc10] []) .b [] (fun x=>q10 lo x:Zt2->Option Bool)
def fs11(lo:Lo):List FnE:=Ylt lo::fs10 lo
theorem YtQ(h:GZ P fm fs10 lo)(t:Ti P fm 257 YtP):GZ P fm fs11 lo:=
  h.p (Ylt lo) .n t
def q11_L20_b:VCode:=
 (Rg [oR 26 .lss 25 24]
 (.seq (Ce 26 0)
 (.seq (.blk 1 (Rg [oM 27 25,oI 28 1 23 25,oL 29 28,oM 3 27,oM 4 29]
 (Rg [oM 30 4,oC 31 255 [30],oX 32 31,oM 33 32,gF 34 33 (.fad 1 1),gF 35 33 (.load false 1 34),gF 36 33 (.mv 3),gF 37 33 (.slcR 1 35 none (some 36)),gF 38 33 (.mv 4),gF 39 33 (.call 256 [37,38]),oP 40 33 (kb true) 39]
 (.cond 40 (Rg [oK 2 1]
 (Fr 2))
 .skip))))
 (.reg [oR 41 .add 25 (k 1),oM 25 41]))))
def Yd6(lo:Lo):Zp57->Option (Zp57⊕ (Int⊕ (ByteArray×Zt3×Zt12))):=fun x=>match x with
  | (v23,v24,v25,t1_0,t1_1,t1_2)=>bif(decide (v25<v24))then(chk (0<=v25/\v25< (v23.length:Int)) (YG1 (q3 lo (v23.getD v25.toNat (YHk #[]))) fun y13=>bif(!y13)then(some (.inr (.inl (1:Int))))else(chk (0<=(0:Int)/\0<=v25/\v25<=(t1_1.length:Int)) (YG1 (q5 lo ((t1_1.take v25.toNat).drop 0) (v23.getD v25.toNat (YHk #[]))) fun y18=>bif y18 then(some (.inr (.inl (1:Int))))else(some (.inl (v23,v24,(YHl .i64 (v25+1)),t1_0,t1_1,t1_2)))))))else(some (.inr (.inr (t1_0,t1_1,t1_2))))
def Ygu(lo:Lo):Zp57->Option (Int⊕ (ByteArray×Zt3×Zt12)):=lo.run (Yd6 lo)
def YtR(lo:Lo):LpE:=⟨20,[],(Zsg [1,23,24,25] [.ptr 0 0 0,.l (cs [.s]),.j,.j] [.st [.s,.l (cs [.s]),.l Zc15]]),[⟨.ret,(Zsg [2] [.j] [])⟩,⟨.exit 0,(Zsg [1] [.ptr 0 0 0] [.st [.s,.l (cs [.s]),.l Zc15]])⟩],Ygu lo⟩
def Ylu(lo:Lo):LL:=(YtR lo,.loop q11_L20_b.er)::[]
theorem YtS(lo:Lo):Lk lo pf (fs11 lo) 0 (Ylu lo):=.l .n (Yd6 lo)
def q11_L3_b:VCode:=
 (Rg [oR 46 .lss 45 44]
 (.seq (Ce 46 2)
 (.seq (.blk 3 (Rg [oI 47 2 43 45,oT 48 2 47,o 7 (.alloc [.i .i64 0,.e Zc10]),oS 2 7 48]
 (.seq (.blk 4 (Rg [oF 50 0 7,oL 51 50,oM 52 5,oR 53 .leq 51 52,oM 49 53]
 (.cond 49 (Rg [oK 2 1]
 (Fr 2))
 (Rg [oF 55 1 7,oL 56 55,oN 57 56,oF 58 1 1,oL 59 58,oN 60 59,oR 61 .neq 57 60,oM 54 61]
 (.cond 54 (Rg [oK 2 6]
 (Fr 2))
 (Rg [oF 63 1 7,oL 64 63,oC 65 257 [64],oX 66 65,oM 62 66]
 (.cond 62 (Rg [oK 2 1]
 (Fr 2))
 .skip)))))))
 (.reg [oF 67 0 7,oL 68 67,oM 5 68]))))
 (.reg [oR 69 .add 45 (k 1),oM 45 69]))))
def Yd7(lo:Lo):Zp50->Option (Zp50⊕ (Int⊕Unit)):=fun x=>match x with
  | (last5,v43,v44,v45,t1_0,t1_1,t1_2)=>bif(decide (v45<v44))then(chk (0<=v45/\v45< (v43.length:Int)) (bif(decide ((v43.getD v45.toNat ((0:Int),[])).1<=last5))then(some (.inr (.inl (1:Int))))else(bif(!decide ((((v43.getD v45.toNat ((0:Int),[])).2).length:Int)=(t1_1.length:Int)))then(some (.inr (.inl (6:Int))))else(YG1 (q10 lo ((v43.getD v45.toNat ((0:Int),[])).2)) fun y29=>bif(!y29)then(some (.inr (.inl (1:Int))))else(some (.inl ((v43.getD v45.toNat ((0:Int),[])).1,v43,v44,(YHl .i64 (v45+1)),t1_0,t1_1,t1_2)))))))else(some (.inr (.inr ())))
def Ygv(lo:Lo):Zp50->Option (Int⊕Unit):=lo.run (Yd7 lo)
def YtT(lo:Lo):LpE:=⟨3,[],(Zsg [1,5,43,44,45] [.ptr 0 0 0,.j,.l Zc15,.j,.j] [.st [.s,.l (cs [.s]),.l Zc15]]),[⟨.ret,(Zsg [2] [.j] [])⟩,⟨.exit 2,(Zsg [] [] [])⟩],Ygv lo⟩
def YtU(lo:Lo):LL:=(YtT lo,.loop q11_L3_b.er)::Ylu lo
theorem YtV(lo:Lo):Lk lo pf (fs11 lo) 0 (YtU lo):=.l (YtS lo) (Yd7 lo)
def q11(lo:Lo)(t0_0:ByteArray)(t0_1:List ByteArray)(t0_2:List (Int×Zt2)):Option Int:=
  YG1 (q3 lo t0_0) fun y12=>bif(!y12)then(some (1:Int))else(bif(decide ((16:Int)< (t0_1.length:Int)))then(some (3:Int))else(bif(decide ((1000:Int)< (t0_2.length:Int)))then(some (3:Int))else(YG1 (Ygu lo (t0_1,(t0_1.length:Int),(0:Int),t0_0,t0_1,t0_2)) fun y19=>alt2 y19 (fun y20=>some y20) (fun y21=>YG1 (Ygv lo ((0:Int),y21.2.2,(y21.2.2.length:Int),(0:Int),y21.1,y21.2.1,y21.2.2)) fun y30=>alt2 y30 (fun y31=>some y31) (fun y32=>some (0:Int))))))
def YtW:VFn:=⟨true,70,[.t 2],
 (Rg [oG 1 0,oK 2 0]
 (.seq (Rg [oF 8 0 1,oL 9 8,oC 10 255 [9],oX 11 10]
 (.cond 11 (Rg [oK 2 1]
 (Fr 2))
 .skip))
 (.seq (Rg [oF 12 1 1,oL 13 12,oN 14 13,oR 15 .gtr 14 (k 16),oM 16 15,gF 17 16 (.fad 2 1),gF 18 16 (.load false 1 17),gF 19 16 (.len 18),gF 20 16 (.bin .gtr 19 (k 1000)),oP 21 16 (kb true) 20]
 (.cond 21 (Rg [oK 2 3]
 (Fr 2))
 .skip))
 (.seq (Rg [oF 22 1 1,oL 23 22,oN 24 23,oK 25 0]
 (.blk 0 (.loop 20 q11_L20_b)))
 (Rg [oK 5 0]
 (.seq (Rg [oF 42 2 1,oL 43 42,oN 44 43,oK 45 0]
 (.blk 2 (.loop 3 q11_L3_b)))
 (Rg [oK 2 0]
 (Fr 2))))))))⟩
def Ylv(lo:Lo):FnE:=Zfe 230 true (Zsg [0] [.ag [.s,.l (cs [.s]),.l Zc15]] []) (.i .i64) [] (fun x=>q11 lo x.1 x.2.1 x.2.2:ByteArray×Zt3×Zt12->Option Int)
def fs12(lo:Lo):List FnE:=Ylv lo::fs11 lo
theorem YtX(h:GZ P fm fs11 lo)(t:Ti P fm 230 YtW):GZ P fm fs12 lo:=
  h.p (Ylv lo) (YtV lo) t
def q12(lo:Lo)(t0_0:ByteArray)(t0_1:List ByteArray)(t0_2:List (Int×Zt2))(v1:ByteArray):Option (Bool×ByteArray):=
  some ((decide (t0_0=v1)),v1)
def YtY:VFn:=⟨true,8,[.t 3],
 (Rg [oG 2 0,oB 3 false]
 (Rg [oF 4 0 2,oL 5 4,oL 6 1,oR 7 .eql 5 6,oM 3 7]
 .ret))⟩
def Ylw(lo:Lo):FnE:=Zfe 560 false (Zsg [0,1] [.ag [.s,.l (cs [.s]),.l Zc15],.ptr 0 0 0] [.st [.s]]) .b [.st [.s]] (fun x=>q12 lo x.1 x.2.1 x.2.2.1 x.2.2.2:ByteArray×Zt3×Zt12×ByteArray->Option (Bool×ByteArray))
def fs13(lo:Lo):List FnE:=Ylw lo::fs12 lo
theorem YtZ(h:GZ P fm fs12 lo)(t:Ti P fm 560 YtY):GZ P fm fs13 lo:=
  h.i (Ylw lo) .n t
def q13_L3_b:VCode:=
 (Rg [oR 9 .lss 8 7]
 (.seq (Ce 9 0)
 (.seq (.blk 1 (Rg [oM 10 8,oM 5 10]
 (Rg [oM 11 1,oM 12 0,oM 13 5,oI 14 3 12 13,oT 15 3 14,o 16 (.dyn 11 [15])]
 (.cond 16 (Rg [oM 17 5,oM 4 17]
 .ret)
 .skip))))
 (.reg [oR 18 .add 8 (k 1),oM 8 18]))))
def Yd8(lo:Lo):Zt1×Int×Int×ByteArray->Option ((Zt1×Int×Int×ByteArray)⊕ ((Int×ByteArray)⊕ByteArray)):=fun x=>match x with
  | (s0,v7,v8,h0)=>bif(decide (v8<v7))then(chk (0<=v8/\v8< (s0.length:Int)) (YG1 (q12 lo ((s0.getD v8.toNat ((YHk #[]),[],[])).1) ((s0.getD v8.toNat ((YHk #[]),[],[])).2.1) ((s0.getD v8.toNat ((YHk #[]),[],[])).2.2) h0) fun y34=>bif y34.1 then(some (.inr (.inl (v8,y34.2))))else(some (.inl (s0,v7,(YHl .i64 (v8+1)),y34.2)))))else(some (.inr (.inr h0)))
def Ygw(lo:Lo):Zt1×Int×Int×ByteArray->Option ((Int×ByteArray)⊕ByteArray):=lo.run (Yd8 lo)
def Yt0(lo:Lo):LpE:=⟨3,[],(Zsg [0,1,7,8] [.l Zc6,.clo 560 [.ptr 0 0 0],.j,.j] [.st [.s]]),[⟨.ret,(Zsg [4] [.j] [.st [.s]])⟩,⟨.exit 0,(Zsg [] [] [.st [.s]])⟩],Ygw lo⟩
def Yt1(lo:Lo):LL:=(Yt0 lo,.loop q13_L3_b.er)::[]
theorem Yt2(lo:Lo):Lk lo pf (fs13 lo) 1 (Yt1 lo):=.l .n (Yd8 lo)
def q13(lo:Lo)(s0:List (ByteArray×Zt3×Zt12))(h0:ByteArray):Option (Int×ByteArray):=
  YG1 (Ygw lo (s0,(s0.length:Int),(0:Int),h0)) fun y35=>alt2 y35 (fun y36=>some (y36.1,y36.2)) (fun y37=>some ((-1:Int),y37))
def Yt3:VFn:=⟨true,19,[.t 4],
 (Rg [oK 4 0]
 (.seq (Rg [oM 6 0,oN 7 6,oK 8 0]
 (.blk 0 (.loop 3 q13_L3_b)))
 (Rg [oK 4 (-1)]
 .ret)))⟩
def Ylx(lo:Lo):FnE:=Zfe 559 false (Zsg [0,1] [.l Zc6,.clo 560 [.ptr 0 0 0]] [.st [.s]]) (.i .i64) [.st [.s]] (fun x=>q13 lo x.1 x.2:Zt1×ByteArray->Option (Int×ByteArray))
def fs14(lo:Lo):List FnE:=Ylx lo::fs13 lo
theorem Yt4(h:GZ P fm fs13 lo)(t:Ti P fm 559 Yt3):GZ P fm fs14 lo:=
  h.i (Ylx lo) (Yt2 lo) t
def q14(lo:Lo)(l0:List (ByteArray×Zt3×Zt12))(name1:ByteArray):Option Int:=
  YG1 (q13 lo l0 name1) fun y38=>some y38.1
def Yt5:VFn:=⟨true,8,[.t 4],
 (Rg [oG 3 1,oK 4 0]
 (Rg [oM 5 0,o 6 (.mkf 560 [3]),oC 7 559 [5,6],oM 4 7]
 (Fr 4)))⟩
def Yly(lo:Lo):FnE:=Zfe 552 true (Zsg [0,1] [.l Zc6,.s] []) (.i .i64) [] (fun x=>q14 lo x.1 x.2:Zt1×ByteArray->Option Int)
def fs15(lo:Lo):List FnE:=Yly lo::fs14 lo
theorem Yt6(h:GZ P fm fs14 lo)(t:Ti P fm 552 Yt5):GZ P fm fs15 lo:=
  h.p (Yly lo) .n t
def q15_L3_b:VCode:=
 (Rg [oR 14 .lss 13 12]
 (.seq (Ce 14 0)
 (.seq (.blk 1 (Rg [oM 15 13,oI 16 3 11 13,oT 17 3 16,o 4 (.alloc [.s (⟨#[]⟩),.e (cs [.s]),.e Zc15]),oM 3 15,oS 3 4 17]
 (.seq (Rg [oT 18 3 4,oC 19 230 [18],oM 5 19]
 (Rg [oM 20 5,oR 21 .neq 20 (k 0)]
 (.cond 21 (Rg [oM 22 5,oM 2 22]
 (Fr 2))
 .skip)))
 (Rg [oF 23 0 1,oL 24 23,oM 25 3,o 26 (.slcR 3 24 none (some 25)),oF 27 0 4,oL 28 27,oC 29 552 [26,28],oR 30 .geq 29 (k 0)]
 (.cond 30 (Rg [oK 2 5]
 (Fr 2))
 .skip)))))
 (.reg [oR 31 .add 13 (k 1),oM 13 31]))))
def Yd9(lo:Lo):Zt1×Int×Int×Zt1->Option ((Zt1×Int×Int×Zt1)⊕ (Int⊕Unit)):=fun x=>match x with
  | (v11,v12,v13,db1)=>bif(decide (v13<v12))then(chk (0<=v13/\v13< (v11.length:Int)) (YG1 (q11 lo ((v11.getD v13.toNat ((YHk #[]),[],[])).1) ((v11.getD v13.toNat ((YHk #[]),[],[])).2.1) ((v11.getD v13.toNat ((YHk #[]),[],[])).2.2)) fun y33=>bif(!decide (y33=0))then(some (.inr (.inl y33)))else(chk (0<=(0:Int)/\0<=v13/\v13<=(db1.length:Int)) (YG1 (q14 lo ((db1.take v13.toNat).drop 0) ((v11.getD v13.toNat ((YHk #[]),[],[])).1)) fun y39=>bif(decide (0<=y39))then(some (.inr (.inl (5:Int))))else(some (.inl (v11,v12,(YHl .i64 (v13+1)),db1)))))))else(some (.inr (.inr ())))
def Ygx(lo:Lo):Zt1×Int×Int×Zt1->Option (Int⊕Unit):=lo.run (Yd9 lo)
def Yt7(lo:Lo):LpE:=⟨3,[],(Zsg [1,11,12,13] [.ptr 0 0 0,.l Zc6,.j,.j] [.st [.l Zc6]]),[⟨.ret,(Zsg [2] [.j] [])⟩,⟨.exit 0,(Zsg [] [] [])⟩],Ygx lo⟩
def Yt8(lo:Lo):LL:=(Yt7 lo,.loop q15_L3_b.er)::[]
theorem Yt9(lo:Lo):Lk lo pf (fs15 lo) 0 (Yt8 lo):=.l .n (Yd9 lo)
def q15(lo:Lo)(db0:List (ByteArray×Zt3×Zt12)):Option Int:=
  bif(decide ((50:Int)< (db0.length:Int)))then(some (3:Int))else(YG1 (Ygx lo (db0,(db0.length:Int),(0:Int),db0)) fun y40=>alt2 y40 (fun y41=>some y41) (fun y42=>some (0:Int)))
def Yua:VFn:=⟨true,32,[.t 2],
 (Rg [oG 1 0,oK 2 0]
 (.seq (Rg [oF 6 0 1,oL 7 6,oN 8 7,oR 9 .gtr 8 (k 50)]
 (.cond 9 (Rg [oK 2 3]
 (Fr 2))
 .skip))
 (.seq (Rg [oF 10 0 1,oL 11 10,oN 12 11,oK 13 0]
 (.blk 0 (.loop 3 q15_L3_b)))
 (Rg [oK 2 0]
 (Fr 2)))))⟩
def Ylz(lo:Lo):FnE:=Zfe 535 true (Zsg [0] [.ag [.l Zc6]] []) (.i .i64) [] (fun x=>q15 lo x:Zt1->Option Int)
def fs16(lo:Lo):List FnE:=Ylz lo::fs15 lo
theorem Yub(h:GZ P fm fs15 lo)(t:Ti P fm 535 Yua):GZ P fm fs16 lo:=
  h.p (Ylz lo) (Yt9 lo) t
def q16(lo:Lo)(a0:Int)(v1:Int):Option (Bool×Int):=
  bif(decide (a0<0))then(some (true,v1))else(some ((decide (v1<=a0)),v1))
def Yuc:VFn:=⟨true,11,[.t 3],
 (Rg [oB 3 false]
 (Rg [oM 4 0,oR 5 .lss 4 (k 0),oM 6 5,gF 7 6 (.mv 0),gF 8 6 (.load false 1 1),gF 9 6 (.bin .geq 7 8),oP 10 6 (kb true) 9,oM 3 10]
 .ret))⟩
def YlA(lo:Lo):FnE:=Zfe 561 false (Zsg [0,1] [.j,.ptr 0 0 0] [.st [.j]]) .b [.st [.j]] (fun x=>q16 lo x.1 x.2:Int×Int->Option (Bool×Int))
def fs17(lo:Lo):List FnE:=YlA lo::fs16 lo
theorem Yud(h:GZ P fm fs16 lo)(t:Ti P fm 561 Yuc):GZ P fm fs17 lo:=
  h.i (YlA lo) .n t
def q17_L3_b:VCode:=
 (Rg [oR 9 .lss 8 7]
 (.seq (Ce 9 0)
 (.seq (.blk 1 (Rg [oM 10 8,oM 5 10]
 (Rg [oM 11 1,oM 12 0,oM 13 5,oI 14 1 12 13,oL 15 14,o 16 (.dyn 11 [15])]
 (.cond 16 (Rg [oM 17 5,oM 4 17]
 .ret)
 .skip))))
 (.reg [oR 18 .add 8 (k 1),oM 8 18]))))
def YlB(lo:Lo):(List Int)×Int×Int×Int->Option (((List Int)×Int×Int×Int)⊕ ((Int×Int)⊕Int)):=fun x=>match x with
  | (s0,v7,v8,h0)=>bif(decide (v8<v7))then(chk (0<=v8/\v8< (s0.length:Int)) (YG1 (q16 lo (s0.getD v8.toNat (0:Int)) h0) fun y46=>bif y46.1 then(some (.inr (.inl (v8,y46.2))))else(some (.inl (s0,v7,(YHl .i64 (v8+1)),y46.2)))))else(some (.inr (.inr h0)))
def YlC(lo:Lo):(List Int)×Int×Int×Int->Option ((Int×Int)⊕Int):=lo.run (YlB lo)
def Yue(lo:Lo):LpE:=⟨3,[],(Zsg [0,1,7,8] [.l (cs [I]),.clo 561 [.ptr 0 0 0],.j,.j] [.st [.j]]),[⟨.ret,(Zsg [4] [.j] [.st [.j]])⟩,⟨.exit 0,(Zsg [] [] [.st [.j]])⟩],YlC lo⟩
def Yuf(lo:Lo):LL:=(Yue lo,.loop q17_L3_b.er)::[]
theorem Yug(lo:Lo):Lk lo pf (fs17 lo) 1 (Yuf lo):=.l .n (YlB lo)
def q17(lo:Lo)(s0:List Int)(h0:Int):Option (Int×Int):=
  YG1 (YlC lo (s0,(s0.length:Int),(0:Int),h0)) fun y47=>alt2 y47 (fun y48=>some (y48.1,y48.2)) (fun y49=>some ((-1:Int),y49))
def Yuh:VFn:=⟨true,19,[.t 4],
 (Rg [oK 4 0]
 (.seq (Rg [oM 6 0,oN 7 6,oK 8 0]
 (.blk 0 (.loop 3 q17_L3_b)))
 (Rg [oK 4 (-1)]
 .ret)))⟩
def YlD(lo:Lo):FnE:=Zfe 442 false (Zsg [0,1] [.l (cs [I]),.clo 561 [.ptr 0 0 0]] [.st [.j]]) (.i .i64) [.st [.j]] (fun x=>q17 lo x.1 x.2:(List Int)×Int->Option (Int×Int))
def fs18(lo:Lo):List FnE:=YlD lo::fs17 lo
theorem Yui(h:GZ P fm fs17 lo)(t:Ti P fm 442 Yuh):GZ P fm fs18 lo:=
  h.i (YlD lo) (Yug lo) t
def q18(lo:Lo)(s0:List Int)(h0:Int):Option (Bool×Int):=
  YG1 (q17 lo s0 h0) fun y50=>some ((decide ((0:Int)<=y50.1)),y50.2)
def Yuj:VFn:=⟨true,9,[.t 4],
 (Rg [oB 4 false]
 (Rg [oM 5 0,oM 6 1,oC 7 442 [5,6],oR 8 .geq 7 (k 0),oM 4 8]
 .ret))⟩
def YlE(lo:Lo):FnE:=Zfe 426 false (Zsg [0,1] [.l (cs [I]),.clo 561 [.ptr 0 0 0]] [.st [.j]]) .b [.st [.j]] (fun x=>q18 lo x.1 x.2:(List Int)×Int->Option (Bool×Int))
def fs19(lo:Lo):List FnE:=YlE lo::fs18 lo
theorem Yuk(h:GZ P fm fs18 lo)(t:Ti P fm 426 Yuj):GZ P fm fs19 lo:=
  h.i (YlE lo) .n t
def q19(lo:Lo)(l0:List Int)(n1:Int):Option Bool:=
  YG1 (q18 lo l0 n1) fun y51=>some (!y51.1)
def Yul:VFn:=⟨true,9,[.t 4],
 (Rg [oG 3 1,oB 4 false]
 (Rg [oM 5 0,o 6 (.mkf 561 [3]),oC 7 426 [5,6],oX 8 7,oM 4 8]
 (Fr 4)))⟩
def YlF(lo:Lo):FnE:=Zfe 553 true (Zsg [0,1] [.l (cs [I]),.j] []) .b [] (fun x=>q19 lo x.1 x.2:(List Int)×Int->Option Bool)
def fs20(lo:Lo):List FnE:=YlF lo::fs19 lo
theorem Yum(h:GZ P fm fs19 lo)(t:Ti P fm 553 Yul):GZ P fm fs20 lo:=
  h.p (YlF lo) .n t
def q20_L3_b:VCode:=
 (Rg [oR 9 .lss 8 7]
 (.seq (Ce 9 0)
 (.seq (.blk 1 (Rg [oM 10 8,oM 5 10]
 (Rg [oM 11 1,oM 12 0,oM 13 5,oI 14 1 12 13,oL 15 14,oR 16 .eql 11 15]
 (.cond 16 (Rg [oM 17 5,oM 4 17]
 (Fr 4))
 .skip))))
 (.reg [oR 18 .add 8 (k 1),oM 8 18]))))
def YlG(lo:Lo):(List Int)×Int×Int×Int->Option (((List Int)×Int×Int×Int)⊕ (Int⊕Unit)):=fun x=>match x with
  | (s0,v1,v7,v8)=>bif(decide (v8<v7))then(chk (0<=v8/\v8< (s0.length:Int)) (bif(decide (v1=(s0.getD v8.toNat (0:Int))))then(some (.inr (.inl v8)))else(some (.inl (s0,v1,v7,(YHl .i64 (v8+1)))))))else(some (.inr (.inr ())))
def YlH(lo:Lo):(List Int)×Int×Int×Int->Option (Int⊕Unit):=lo.run (YlG lo)
def Yun(lo:Lo):LpE:=⟨3,[],(Zsg [0,1,7,8] [.l (cs [I]),.j,.j,.j] []),[⟨.ret,(Zsg [4] [.j] [])⟩,⟨.exit 0,(Zsg [] [] [])⟩],YlH lo⟩
def Yuo(lo:Lo):LL:=(Yun lo,.loop q20_L3_b.er)::[]
theorem Yup(lo:Lo):Lk lo pf (fs20 lo) 0 (Yuo lo):=.l .n (YlG lo)
def q20(lo:Lo)(s0:List Int)(v1:Int):Option Int:=
  YG1 (YlH lo (s0,v1,(s0.length:Int),(0:Int))) fun y54=>alt2 y54 (fun y55=>some y55) (fun y56=>some (-1:Int))
def Yuq:VFn:=⟨true,19,[.t 4],
 (Rg [oK 4 0]
 (.seq (Rg [oM 6 0,oN 7 6,oK 8 0]
 (.blk 0 (.loop 3 q20_L3_b)))
 (Rg [oK 4 (-1)]
 (Fr 4))))⟩
def YlI(lo:Lo):FnE:=Zfe 448 true (Zsg [0,1] [.l (cs [I]),.j] []) (.i .i64) [] (fun x=>q20 lo x.1 x.2:(List Int)×Int->Option Int)
def fs21(lo:Lo):List FnE:=YlI lo::fs20 lo
theorem Yur(h:GZ P fm fs20 lo)(t:Ti P fm 448 Yuq):GZ P fm fs21 lo:=
  h.p (YlI lo) (Yup lo) t
def q21(lo:Lo)(s0:List Int)(v1:Int):Option Bool:=
  YG1 (q20 lo s0 v1) fun y57=>some (decide (0<=y57))
def Yus:VFn:=⟨true,9,[.t 4],
 (Rg [oB 4 false]
 (Rg [oM 5 0,oM 6 1,oC 7 448 [5,6],oR 8 .geq 7 (k 0),oM 4 8]
 (Fr 4)))⟩
def YlJ(lo:Lo):FnE:=Zfe 434 true (Zsg [0,1] [.l (cs [I]),.j] []) .b [] (fun x=>q21 lo x.1 x.2:(List Int)×Int->Option Bool)
def fs22(lo:Lo):List FnE:=YlJ lo::fs21 lo
theorem Yut(h:GZ P fm fs21 lo)(t:Ti P fm 434 Yus):GZ P fm fs22 lo:=
  h.p (YlJ lo) .n t
def q22_L3_b:VCode:=
 (Rg [oR 8 .lss 7 6]
 (.seq (Ce 8 0)
 (.seq (.blk 1 (Rg [oM 9 7,oI 10 1 5 7,oL 11 10,oM 3 9,oM 4 11]
 (Rg [oM 12 0,oM 13 3,o 14 (.slcR 1 12 none (some 13)),oM 15 4,oC 16 434 [14,15]]
 (.cond 16 (Rg [oB 2 true]
 (Fr 2))
 .skip))))
 (.reg [oR 17 .add 7 (k 1),oM 7 17]))))
def YlK(lo:Lo):(List Int)× (List Int)×Int×Int->Option (((List Int)× (List Int)×Int×Int)⊕ (Bool⊕Unit)):=fun x=>match x with
  | (l0,v5,v6,v7)=>bif(decide (v7<v6))then(chk (0<=v7/\v7< (v5.length:Int)) (chk (0<=(0:Int)/\0<=v7/\v7<=(l0.length:Int)) (YG1 (q21 lo ((l0.take v7.toNat).drop 0) (v5.getD v7.toNat (0:Int))) fun y58=>bif y58 then(some (.inr (.inl true)))else(some (.inl (l0,v5,v6,(YHl .i64 (v7+1))))))))else(some (.inr (.inr ())))
def YlL(lo:Lo):(List Int)× (List Int)×Int×Int->Option (Bool⊕Unit):=lo.run (YlK lo)
def Yuu(lo:Lo):LpE:=⟨3,[],(Zsg [0,5,6,7] [.l (cs [I]),.l (cs [I]),.j,.j] []),[⟨.ret,(Zsg [2] [.b] [])⟩,⟨.exit 0,(Zsg [] [] [])⟩],YlL lo⟩
def Yuv(lo:Lo):LL:=(Yuu lo,.loop q22_L3_b.er)::[]
theorem Yuw(lo:Lo):Lk lo pf (fs22 lo) 0 (Yuv lo):=.l .n (YlK lo)
def q22(lo:Lo)(l0:List Int):Option Bool:=
  YG1 (YlL lo (l0,l0,(l0.length:Int),(0:Int))) fun y59=>alt2 y59 (fun y60=>some y60) (fun y61=>some false)
def Yux:VFn:=⟨true,18,[.t 2],
 (Rg [oB 2 false]
 (.seq (Rg [oM 5 0,oN 6 5,oK 7 0]
 (.blk 0 (.loop 3 q22_L3_b)))
 (Rg [oB 2 false]
 (Fr 2))))⟩
def YlM(lo:Lo):FnE:=Zfe 554 true (Zsg [0] [.l (cs [I])] []) .b [] (fun x=>q22 lo x:(List Int)->Option Bool)
def fs23(lo:Lo):List FnE:=YlM lo::fs22 lo
theorem Yuy(h:GZ P fm fs22 lo)(t:Ti P fm 554 Yux):GZ P fm fs23 lo:=
  h.p (YlM lo) (Yuw lo) t
end Go.Abs.G47
namespace Go.Abs.G47
open Go Go.Abs
set_option maxRecDepth 100000
set_option maxHeartbeats 1000000
variable{P:Program}{fm:FM}{lo:Lo}
def q23(lo:Lo)(db0:List (ByteArray×Zt3×Zt12))(d1_0:ByteArray)(d1_1:List Int)(d1_2:ByteArray)(d1_3:List Int):Option Int:=
  YG1 (q14 lo db0 d1_0) fun y44=>YG1 (q14 lo db0 d1_2) fun y45=>bif(decide (y44<0))then(some (4:Int))else(bif(decide (y45<0))then(some (4:Int))else(bif(!decide ((d1_1.length:Int)=(d1_3.length:Int)))then(some (6:Int))else(chk (0<=y44/\y44< (db0.length:Int)) (YG1 (q19 lo d1_1 (((db0.getD y44.toNat ((YHk #[]),[],[])).2.1).length:Int)) fun y52=>bif(!y52)then(some (6:Int))else(chk (0<=y45/\y45< (db0.length:Int)) (YG1 (q19 lo d1_3 (((db0.getD y45.toNat ((YHk #[]),[],[])).2.1).length:Int)) fun y53=>bif(!y53)then(some (6:Int))else(YG1 (q22 lo d1_1) fun y62=>bif y62 then(some (1:Int))else(YG1 (q22 lo d1_3) fun y63=>bif y63 then(some (1:Int))else(some (0:Int))))))))))
def Yuz:VFn:=⟨true,64,[.t 4],
 (Rg [oG 2 0,oG 3 1,oK 4 0]
 (Rg [oF 7 0 2,oL 8 7,oF 9 0 3,oL 10 9,oC 11 552 [8,10],oF 12 0 2,oL 13 12,oF 14 2 3,oL 15 14,oC 16 552 [13,15],oM 5 11,oM 6 16]
 (.seq (Rg [oM 17 5,oR 18 .lss 17 (k 0),oM 19 18,gF 20 19 (.mv 6),gF 21 19 (.bin .lss 20 (k 0)),oP 22 19 (kb true) 21]
 (.cond 22 (Rg [oK 4 4]
 (Fr 4))
 .skip))
 (.seq (Rg [oF 23 1 3,oL 24 23,oN 25 24,oF 26 3 3,oL 27 26,oN 28 27,oR 29 .neq 25 28,oM 30 29,gF 31 30 (.fad 1 3),gF 32 30 (.load false 1 31),gF 33 30 (.fad 0 2),gF 34 30 (.load false 1 33),gF 35 30 (.mv 5),gF 36 30 (.iad 3 34 35),gF 37 30 (.fad 1 36),gF 38 30 (.load false 1 37),gF 39 30 (.len 38),gF 40 30 (.call 553 [32,39]),gF 41 30 (.not 40),oP 42 30 (kb true) 41,oM 43 42,gF 44 43 (.fad 3 3),gF 45 43 (.load false 1 44),gF 46 43 (.fad 0 2),gF 47 43 (.load false 1 46),gF 48 43 (.mv 6),gF 49 43 (.iad 3 47 48),gF 50 43 (.fad 1 49),gF 51 43 (.load false 1 50),gF 52 43 (.len 51),gF 53 43 (.call 553 [45,52]),gF 54 43 (.not 53),oP 55 43 (kb true) 54]
 (.cond 55 (Rg [oK 4 6]
 (Fr 4))
 .skip))
 (.seq (Rg [oF 56 1 3,oL 57 56,oC 58 554 [57],oM 59 58,gF 60 59 (.fad 3 3),gF 61 59 (.load false 1 60),gF 62 59 (.call 554 [61]),oP 63 59 (kb true) 62]
 (.cond 63 (Rg [oK 4 1]
 (Fr 4))
 .skip))
 (Rg [oK 4 0]
 (Fr 4)))))))⟩
def YlN(lo:Lo):FnE:=Zfe 536 true (Zsg [0,1] [.ag [.l Zc6],.ag [.s,.l (cs [I]),.s,.l (cs [I])]] []) (.i .i64) [] (fun x=>q23 lo x.1 x.2.1 x.2.2.1 x.2.2.2.1 x.2.2.2.2:Zt1×ByteArray× (List Int)×ByteArray× (List Int)->Option Int)
def fs24(lo:Lo):List FnE:=YlN lo::fs23 lo
theorem YuA(h:GZ P fm fs23 lo)(t:Ti P fm 536 Yuz):GZ P fm fs24 lo:=
  h.p (YlN lo) .n t
def q24(lo:Lo)(db0:List (ByteArray×Zt3×Zt12))(d1_0:ByteArray)(d1_1:List Int)(d1_2:ByteArray)(d1_3:List Int):Option Int:=
  YG1 (q15 lo db0) fun y43=>bif(!decide (y43=0))then(some y43)else(YG1 (q23 lo db0 d1_0 d1_1 d1_2 d1_3) fun y64=>some y64)
def YuB:VFn:=⟨true,14,[.t 4],
 (Rg [oG 2 0,oG 3 1,oK 4 0]
 (.seq (Rg [oT 6 1 2,oC 7 535 [6],oM 5 7]
 (Rg [oM 8 5,oR 9 .neq 8 (k 0)]
 (.cond 9 (Rg [oM 10 5,oM 4 10]
 (Fr 4))
 .skip)))
 (Rg [oT 11 1 2,oT 12 4 3,oC 13 536 [11,12],oM 4 13]
 (Fr 4))))⟩
def YlO(lo:Lo):FnE:=Zfe 500 true (Zsg [0,1] [.ag [.l Zc6],.ag [.s,.l (cs [I]),.s,.l (cs [I])]] []) (.i .i64) [] (fun x=>q24 lo x.1 x.2.1 x.2.2.1 x.2.2.2.1 x.2.2.2.2:Zt1×ByteArray× (List Int)×ByteArray× (List Int)->Option Int)
def fs25(lo:Lo):List FnE:=YlO lo::fs24 lo
theorem YuC(h:GZ P fm fs24 lo)(t:Ti P fm 500 YuB):GZ P fm fs25 lo:=
  h.p (YlO lo) .n t
def q25_L3_b:VCode:=
 (Rg [oR 12 .lss 11 10]
 (.seq (Ce 12 0)
 (.seq (.blk 1 (Rg [oI 13 3 9 11,oT 14 3 13,o 7 (.alloc [.s (⟨#[]⟩),.e (cs [.s]),.e Zc15]),oS 3 7 14]
 (Rg [oF 15 0 7,oL 16 15,oM 17 1,oR 18 .eql 16 17]
 (.cond 18 (Rg [oT 19 3 7,oS 3 4 19,oB 5 true]
 (.fz [4,5] .ret))
 .skip))))
 (.reg [oR 20 .add 11 (k 1),oM 11 20]))))
def Yea(lo:Lo):Zp49->Option (Zp49⊕ ((Bool×ByteArray×Zt3×Zt12)⊕ (ByteArray×Zt3×Zt12))):=fun x=>match x with
  | (name1,v9,v10,v11,v4_0,v4_1,v4_2)=>bif(decide (v11<v10))then(chk (0<=v11/\v11< (v9.length:Int)) (bif(decide ((v9.getD v11.toNat ((YHk #[]),[],[])).1=name1))then(some (.inr (.inl (true,(v9.getD v11.toNat ((YHk #[]),[],[])).1,(v9.getD v11.toNat ((YHk #[]),[],[])).2.1,(v9.getD v11.toNat ((YHk #[]),[],[])).2.2))))else(some (.inl (name1,v9,v10,(YHl .i64 (v11+1)),v4_0,v4_1,v4_2)))))else(some (.inr (.inr (v4_0,v4_1,v4_2))))
def Ygy(lo:Lo):Zp49->Option ((Bool×ByteArray×Zt3×Zt12)⊕ (ByteArray×Zt3×Zt12)):=lo.run (Yea lo)
def YuD(lo:Lo):LpE:=⟨3,[],(Zsg [1,4,9,10,11] [.s,.ptr 0 0 0,.l Zc6,.j,.j] [.st [.s,.l (cs [.s]),.l Zc15]]),[⟨.ret,(Zsg [4,5] [.ptr 0 0 0,.b] [.st [.s,.l (cs [.s]),.l Zc15]])⟩,⟨.exit 0,(Zsg [4] [.ptr 0 0 0] [.st [.s,.l (cs [.s]),.l Zc15]])⟩],Ygy lo⟩
def YuE(lo:Lo):LL:=(YuD lo,.loop q25_L3_b.er)::[]
theorem YuF(lo:Lo):Lk lo pf (fs25 lo) 0 (YuE lo):=.l .n (Yea lo)
def q25(lo:Lo)(db0:List (ByteArray×Zt3×Zt12))(name1:ByteArray):Option (ByteArray×Zt3×Zt12×Bool):=
  YG1 (Ygy lo (name1,db0,(db0.length:Int),(0:Int),(YHk #[]),([]:List ByteArray),([]:List (Int×Zt2)))) fun y66=>alt2 y66 (fun y67=>some (y67.2.1,y67.2.2.1,y67.2.2.2,y67.1)) (fun y68=>some ((YHk #[]),([]:List ByteArray),([]:List (Int×Zt2)),false))
def YuG:VFn:=⟨true,22,[.c 4 true 3,.t 5],
 (Rg [oG 2 0,o 4 (.alloc [.s (⟨#[]⟩),.e (cs [.s]),.e Zc15]),oB 5 false]
 (.seq (Rg [oF 8 0 2,oL 9 8,oN 10 9,oK 11 0]
 (.blk 0 (.loop 3 q25_L3_b)))
 (Rg [o 21 (.build [.s (⟨#[]⟩),.e (cs [.s]),.e Zc15] []),oS 3 4 21,oB 5 false]
 (.fz [4,5] .ret))))⟩
def YlP(lo:Lo):FnE:=Zfe 501 true (Zsg [0,1] [.ag [.l Zc6],.s] []) (.tp [.ag [.s,.l (cs [.s]),.l Zc15],.b]) [] (fun x=>q25 lo x.1 x.2:Zt1×ByteArray->Option (ByteArray×Zt3×Zt12×Bool))
def fs26(lo:Lo):List FnE:=YlP lo::fs25 lo
theorem YuH(h:GZ P fm fs25 lo)(t:Ti P fm 501 YuG):GZ P fm fs26 lo:=
  h.p (YlP lo) (YuF lo) t
def q26(lo:Lo)(c0:Int):Option Bool:=
  bif(decide (97<=c0))then(bif(decide (c0<=122))then(some true)else(bif(decide (65<=c0))then(bif(decide (c0<=90))then(some true)else(some (decide (c0=95))))else(some (decide (c0=95)))))else(bif(decide (65<=c0))then(bif(decide (c0<=90))then(some true)else(some (decide (c0=95))))else(some (decide (c0=95))))
def YuI:VFn:=⟨true,21,[.t 2],
 (Rg [oB 2 false]
 (Rg [oM 3 0,oR 4 .geq 3 (ki .u8 97),oM 5 4,gT 6 5 (.mv 0),gT 7 5 (.bin .leq 6 (ki .u8 122)),oP 8 5 7 (kb false),oM 9 8,gF 10 9 (.mv 0),gF 11 9 (.bin .geq 10 (ki .u8 65)),gF 12 9 (.mv 11),gT 13 12 (.mv 0),gT 14 12 (.bin .leq 13 (ki .u8 90)),gF 15 9 (.pick 12 14 (kb false)),oP 16 9 (kb true) 15,oM 17 16,gF 18 17 (.mv 0),gF 19 17 (.bin .eql 18 (ki .u8 95)),oP 20 17 (kb true) 19,oM 2 20]
 (Fr 2)))⟩
def YlQ(lo:Lo):FnE:=Zfe 555 true (Zsg [0] [.i .u8] []) .b [] (fun x=>q26 lo x:Int->Option Bool)
def fs27(lo:Lo):List FnE:=YlQ lo::fs26 lo
theorem YuJ(h:GZ P fm fs26 lo)(t:Ti P fm 555 YuI):GZ P fm fs27 lo:=
  h.p (YlQ lo) .n t
def q27(lo:Lo)(c0:Int):Option Bool:=
  bif(decide (48<=c0))then(some (decide (c0<=57)))else(some false)
def YuK:VFn:=⟨true,9,[.t 2],
 (Rg [oB 2 false]
 (Rg [oM 3 0,oR 4 .geq 3 (ki .u8 48),oM 5 4,gT 6 5 (.mv 0),gT 7 5 (.bin .leq 6 (ki .u8 57)),oP 8 5 7 (kb false),oM 2 8]
 (Fr 2)))⟩
def YlR(lo:Lo):FnE:=Zfe 556 true (Zsg [0] [.i .u8] []) .b [] (fun x=>q27 lo x:Int->Option Bool)
def fs28(lo:Lo):List FnE:=YlR lo::fs27 lo
theorem YuL(h:GZ P fm fs27 lo)(t:Ti P fm 556 YuK):GZ P fm fs28 lo:=
  h.p (YlR lo) .n t
def q28_L3_b:VCode:=
 (Rg [oR 24 .lss 23 22]
 (.seq (Ce 24 0)
 (.seq (.blk 1 (Rg [oM 25 23,oM 3 25]
 (Rg [oM 26 0,oM 27 3,o 28 (.idx 26 27),oC 29 555 [28],oX 30 29,oM 31 30,gT 32 31 (.mv 0),gT 33 31 (.mv 3),gT 34 31 (.idx 32 33),gT 35 31 (.call 556 [34]),gT 36 31 (.not 35),oP 37 31 36 (kb false)]
 (.cond 37 (Rg [oB 2 false]
 (Fr 2))
 .skip))))
 (.reg [oR 38 .add 23 (k 1),oM 23 38]))))
def Yeb(lo:Lo):ByteArray×Int×Int->Option ((ByteArray×Int×Int)⊕ (Bool⊕Unit)):=fun x=>match x with
  | (s0,v22,v23)=>bif(decide (v23<v22))then(chk (0<=v23/\v23< (s0.size:Int)) (YG1 (q26 lo (YBQ s0 v23)) fun y71=>bif(!y71)then(chk (0<=v23/\v23< (s0.size:Int)) (YG1 (q27 lo (YBQ s0 v23)) fun y72=>bif(!y72)then(some (.inr (.inl false)))else(some (.inl (s0,v22,(YHl .i64 (v23+1)))))))else(some (.inl (s0,v22,(YHl .i64 (v23+1)))))))else(some (.inr (.inr ())))
def Ygz(lo:Lo):ByteArray×Int×Int->Option (Bool⊕Unit):=lo.run (Yeb lo)
def YuM(lo:Lo):LpE:=⟨3,[],(Zsg [0,22,23] [.s,.j,.j] []),[⟨.ret,(Zsg [2] [.b] [])⟩,⟨.exit 0,(Zsg [] [] [])⟩],Ygz lo⟩
def YuN(lo:Lo):LL:=(YuM lo,.loop q28_L3_b.er)::[]
theorem YuO(lo:Lo):Lk lo pf (fs28 lo) 0 (YuN lo):=.l .n (Yeb lo)
def q28(lo:Lo)(s0:ByteArray):Option Bool:=
  bif(decide (s0=(YHk #[])))then(some false)else(bif(decide ((24:Int)< (s0.size:Int)))then(some false)else(bif(decide (s0=(YHk #[110,117,108,108])))then(some false)else(chk (0<=(0:Int)/\ (0:Int)< (s0.size:Int)) (YG1 (q26 lo (YBQ s0 (0:Int))) fun y70=>bif(!y70)then(some false)else(YG1 (Ygz lo (s0,(s0.size:Int),(0:Int))) fun y73=>alt2 y73 (fun y74=>some y74) (fun y75=>some true))))))
def YuP:VFn:=⟨true,39,[.t 2],
 (Rg [oB 2 false]
 (.seq (Rg [oM 4 0,oR 5 .eql 4 (ks (⟨#[]⟩)),oM 6 5,gF 7 6 (.mv 0),gF 8 6 (.lenS 7),gF 9 6 (.bin .gtr 8 (k 24)),oP 10 6 (kb true) 9,oM 11 10,gF 12 11 (.mv 0),gF 13 11 (.bin .eql 12 (ks (⟨#[110,117,108,108]⟩))),oP 14 11 (kb true) 13,oM 15 14,gF 16 15 (.mv 0),gF 17 15 (.idx 16 (k 0)),gF 18 15 (.call 555 [17]),gF 19 15 (.not 18),oP 20 15 (kb true) 19]
 (.cond 20 (Rg [oB 2 false]
 (Fr 2))
 .skip))
 (.seq (Rg [oM 21 0,o 22 (.lenS 21),oK 23 0]
 (.blk 0 (.loop 3 q28_L3_b)))
 (Rg [oB 2 true]
 (Fr 2)))))⟩
def YlS(lo:Lo):FnE:=Zfe 538 true (Zsg [0] [.s] []) .b [] (fun x=>q28 lo x:ByteArray->Option Bool)
def fs29(lo:Lo):List FnE:=YlS lo::fs28 lo
theorem YuQ(h:GZ P fm fs28 lo)(t:Ti P fm 538 YuP):GZ P fm fs29 lo:=
  h.p (YlS lo) (YuO lo) t
def q29(lo:Lo)(t0_0:ByteArray)(t0_1:Int)(t0_2:Int)(t0_3:ByteArray):Option Bool:=
  bif(!decide (t0_0=(YHk #[])))then(YG1 (q28 lo t0_0) fun y76=>bif y76 then(some ((decide (t0_1=0))&& ((decide (t0_2=0))&& ((decide (t0_3=(YHk #[])))&&true))))else(some false))else(YG1 (q6 lo t0_1 t0_2 t0_3) fun y77=>some y77)
def YuR:VFn:=⟨true,18,[.t 2],
 (Rg [oG 1 0,oB 2 false]
 (.seq (Rg [oF 3 0 1,oL 4 3,oR 5 .neq 4 (ks (⟨#[]⟩))]
 (.cond 5 (Rg [oF 6 0 1,oL 7 6,oC 8 538 [7],oM 9 8,gT 10 9 (.fad 1 1),gT 11 9 (.load true 3 10),gT 12 9 (.build [.i .i64 0,.i .i64 0,.s (⟨#[]⟩)] []),gT 13 9 (.eqa false [1,1,2] 11 12),oP 14 9 13 (kb false),oM 2 14]
 (Fr 2))
 .skip))
 (Rg [oF 15 1 1,oT 16 3 15,oC 17 283 [16],oM 2 17]
 (Fr 2))))⟩
def YlT(lo:Lo):FnE:=Zfe 504 true (Zsg [0] [.ag [.s,.j,.j,.s]] []) .b [] (fun x=>q29 lo x.1 x.2.1 x.2.2.1 x.2.2.2:Zp62->Option Bool)
def fs30(lo:Lo):List FnE:=YlT lo::fs29 lo
theorem YuS(h:GZ P fm fs29 lo)(t:Ti P fm 504 YuR):GZ P fm fs30 lo:=
  h.p (YlT lo) .n t
def q30(lo:Lo)(t0_0:ByteArray)(t0_1:Int)(t0_2:Int)(t0_3:ByteArray):Option Bool:=
  YG1 (q29 lo t0_0 t0_1 t0_2 t0_3) fun y78=>some (!y78)
def YuT:VFn:=⟨true,6,[.t 2],
 (Rg [oG 1 0,oB 2 false]
 (Rg [oT 3 4 1,oC 4 504 [3],oX 5 4,oM 2 5]
 (Fr 2)))⟩
def YlU(lo:Lo):FnE:=Zfe 503 true (Zsg [0] [.ag [.s,.j,.j,.s]] []) .b [] (fun x=>q30 lo x.1 x.2.1 x.2.2.1 x.2.2.2:Zp62->Option Bool)
def fs31(lo:Lo):List FnE:=YlU lo::fs30 lo
theorem YuU(h:GZ P fm fs30 lo)(t:Ti P fm 503 YuT):GZ P fm fs31 lo:=
  h.p (YlU lo) .n t
def q31_L3_b:VCode:=
 (Rg [oR 9 .lss 8 7]
 (.seq (Ce 9 0)
 (.seq (.blk 1 (Rg [oM 10 8,oM 5 10]
 (Rg [oM 11 1,oM 12 0,oM 13 5,oI 14 4 12 13,oT 15 4 14,o 16 (.dyn 11 [15])]
 (.cond 16 (Rg [oM 17 5,oM 4 17]
 .ret)
 .skip))))
 (.reg [oR 18 .add 8 (k 1),oM 8 18]))))
def Yec(lo:Lo):Zt7×Int×Int->Option ((Zt7×Int×Int)⊕ (Int⊕Unit)):=fun x=>match x with
  | (s0,v7,v8)=>bif(decide (v8<v7))then(chk (0<=v8/\v8< (s0.length:Int)) (YG1 (q30 lo ((s0.getD v8.toNat Zd0).1) ((s0.getD v8.toNat Zd0).2.1) ((s0.getD v8.toNat Zd0).2.2.1) ((s0.getD v8.toNat Zd0).2.2.2)) fun y79=>bif y79 then(some (.inr (.inl v8)))else(some (.inl (s0,v7,(YHl .i64 (v8+1)))))))else(some (.inr (.inr ())))
def YgA(lo:Lo):Zt7×Int×Int->Option (Int⊕Unit):=lo.run (Yec lo)
def YuV(lo:Lo):LpE:=⟨3,[],(Zsg [0,1,7,8] [.l Zc13,.clo 503 [],.j,.j] []),[⟨.ret,(Zsg [4] [.j] [])⟩,⟨.exit 0,(Zsg [] [] [])⟩],YgA lo⟩
def YuW(lo:Lo):LL:=(YuV lo,.loop q31_L3_b.er)::[]
theorem YuX(lo:Lo):Lk lo pf (fs31 lo) 0 (YuW lo):=.l .n (Yec lo)
def q31(lo:Lo)(s0:List Zp62):Option Int:=
  YG1 (YgA lo (s0,(s0.length:Int),(0:Int))) fun y80=>alt2 y80 (fun y81=>some y81) (fun y82=>some (-1:Int))
def YuY:VFn:=⟨true,19,[.t 4],
 (Rg [oK 4 0]
 (.seq (Rg [oM 6 0,oN 7 6,oK 8 0]
 (.blk 0 (.loop 3 q31_L3_b)))
 (Rg [oK 4 (-1)]
 .ret)))⟩
def YlV(lo:Lo):FnE:=Zfe 537 false (Zsg [0,1] [.l Zc13,.clo 503 []] []) (.i .i64) [] (fun x=>q31 lo x:Zt7->Option Int)
def fs32(lo:Lo):List FnE:=YlV lo::fs31 lo
theorem YuZ(h:GZ P fm fs31 lo)(t:Ti P fm 537 YuY):GZ P fm fs32 lo:=
  h.i (YlV lo) (YuX lo) t
def q32(lo:Lo)(s0:List Zp62):Option Bool:=
  YG1 (q31 lo s0) fun y83=>some (decide (0<=y83))
def Yu0:VFn:=⟨true,9,[.t 4],
 (Rg [oB 4 false]
 (Rg [oM 5 0,oM 6 1,oC 7 537 [5,6],oR 8 .geq 7 (k 0),oM 4 8]
 .ret))⟩
def YlW(lo:Lo):FnE:=Zfe 502 false (Zsg [0,1] [.l Zc13,.clo 503 []] []) .b [] (fun x=>q32 lo x:Zt7->Option Bool)
def fs33(lo:Lo):List FnE:=YlW lo::fs32 lo
theorem Yu1(h:GZ P fm fs32 lo)(t:Ti P fm 502 Yu0):GZ P fm fs33 lo:=
  h.i (YlW lo) .n t
def q33(lo:Lo)(t0_0:ByteArray)(t0_1:Int)(t0_2:Int)(t0_3:ByteArray)(v1:ByteArray):Option (Bool×ByteArray):=
  some ((decide (t0_0=v1)),v1)
def Yu2:VFn:=⟨true,8,[.t 3],
 (Rg [oG 2 0,oB 3 false]
 (Rg [oF 4 0 2,oL 5 4,oL 6 1,oR 7 .eql 5 6,oM 3 7]
 .ret))⟩
def YlX(lo:Lo):FnE:=Zfe 541 false (Zsg [0,1] [.ag [.s,.j,.j,.s],.ptr 0 0 0] [.st [.s]]) .b [.st [.s]] (fun x=>q33 lo x.1 x.2.1 x.2.2.1 x.2.2.2.1 x.2.2.2.2:ByteArray×Int×Int×ByteArray×ByteArray->Option (Bool×ByteArray))
def fs34(lo:Lo):List FnE:=YlX lo::fs33 lo
theorem Yu3(h:GZ P fm fs33 lo)(t:Ti P fm 541 Yu2):GZ P fm fs34 lo:=
  h.i (YlX lo) .n t
def q34_L3_b:VCode:=
 (Rg [oR 9 .lss 8 7]
 (.seq (Ce 9 0)
 (.seq (.blk 1 (Rg [oM 10 8,oM 5 10]
 (Rg [oM 11 1,oM 12 0,oM 13 5,oI 14 4 12 13,oT 15 4 14,o 16 (.dyn 11 [15])]
 (.cond 16 (Rg [oM 17 5,oM 4 17]
 .ret)
 .skip))))
 (.reg [oR 18 .add 8 (k 1),oM 8 18]))))
def Yed(lo:Lo):Zt7×Int×Int×ByteArray->Option ((Zt7×Int×Int×ByteArray)⊕ ((Int×ByteArray)⊕ByteArray)):=fun x=>match x with
  | (s0,v7,v8,h0)=>bif(decide (v8<v7))then(chk (0<=v8/\v8< (s0.length:Int)) (YG1 (q33 lo ((s0.getD v8.toNat Zd0).1) ((s0.getD v8.toNat Zd0).2.1) ((s0.getD v8.toNat Zd0).2.2.1) ((s0.getD v8.toNat Zd0).2.2.2) h0) fun y89=>bif y89.1 then(some (.inr (.inl (v8,y89.2))))else(some (.inl (s0,v7,(YHl .i64 (v8+1)),y89.2)))))else(some (.inr (.inr h0)))
def YgB(lo:Lo):Zt7×Int×Int×ByteArray->Option ((Int×ByteArray)⊕ByteArray):=lo.run (Yed lo)
def Yu4(lo:Lo):LpE:=⟨3,[],(Zsg [0,1,7,8] [.l Zc13,.clo 541 [.ptr 0 0 0],.j,.j] [.st [.s]]),[⟨.ret,(Zsg [4] [.j] [.st [.s]])⟩,⟨.exit 0,(Zsg [] [] [.st [.s]])⟩],YgB lo⟩
def Yu5(lo:Lo):LL:=(Yu4 lo,.loop q34_L3_b.er)::[]
theorem Yu6(lo:Lo):Lk lo pf (fs34 lo) 1 (Yu5 lo):=.l .n (Yed lo)
def q34(lo:Lo)(s0:List Zp62)(h0:ByteArray):Option (Int×ByteArray):=
  YG1 (YgB lo (s0,(s0.length:Int),(0:Int),h0)) fun y90=>alt2 y90 (fun y91=>some (y91.1,y91.2)) (fun y92=>some ((-1:Int),y92))
def Yu7:VFn:=⟨true,19,[.t 4],
 (Rg [oK 4 0]
 (.seq (Rg [oM 6 0,oN 7 6,oK 8 0]
 (.blk 0 (.loop 3 q34_L3_b)))
 (Rg [oK 4 (-1)]
 .ret)))⟩
def YlY(lo:Lo):FnE:=Zfe 537 false (Zsg [0,1] [.l Zc13,.clo 541 [.ptr 0 0 0]] [.st [.s]]) (.i .i64) [.st [.s]] (fun x=>q34 lo x.1 x.2:Zt7×ByteArray->Option (Int×ByteArray))
def fs35(lo:Lo):List FnE:=YlY lo::fs34 lo
theorem Yu8(h:GZ P fm fs34 lo)(t:Ti P fm 537 Yu7):GZ P fm fs35 lo:=
  h.i (YlY lo) (Yu6 lo) t
def q35(lo:Lo)(s0:List Zp62)(h0:ByteArray):Option (Bool×ByteArray):=
  YG1 (q34 lo s0 h0) fun y93=>some ((decide ((0:Int)<=y93.1)),y93.2)
def Yu9:VFn:=⟨true,9,[.t 4],
 (Rg [oB 4 false]
 (Rg [oM 5 0,oM 6 1,oC 7 537 [5,6],oR 8 .geq 7 (k 0),oM 4 8]
 .ret))⟩
def YlZ(lo:Lo):FnE:=Zfe 502 false (Zsg [0,1] [.l Zc13,.clo 541 [.ptr 0 0 0]] [.st [.s]]) .b [.st [.s]] (fun x=>q35 lo x.1 x.2:Zt7×ByteArray->Option (Bool×ByteArray))
def fs36(lo:Lo):List FnE:=YlZ lo::fs35 lo
theorem Yva(h:GZ P fm fs35 lo)(t:Ti P fm 502 Yu9):GZ P fm fs36 lo:=
  h.i (YlZ lo) .n t
def q36(lo:Lo)(a0_0:ByteArray)(a0_1:List Zp62)(v1:ByteArray):Option (Bool×ByteArray):=
  YG1 (q35 lo a0_1 v1) fun y94=>some (y94.1,y94.2)
def Yvb:VFn:=⟨true,8,[.t 3],
 (Rg [oG 2 0,oB 3 false]
 (Rg [oF 4 1 2,oL 5 4,o 6 (.mkf 541 [1]),oC 7 502 [5,6],oM 3 7]
 .ret))⟩
def Yl0(lo:Lo):FnE:=Zfe 540 false (Zsg [0,1] [.ag [.s,.l Zc13],.ptr 0 0 0] [.st [.s]]) .b [.st [.s]] (fun x=>q36 lo x.1 x.2.1 x.2.2:ByteArray×Zt7×ByteArray->Option (Bool×ByteArray))
def fs37(lo:Lo):List FnE:=Yl0 lo::fs36 lo
theorem Yvc(h:GZ P fm fs36 lo)(t:Ti P fm 540 Yvb):GZ P fm fs37 lo:=
  h.i (Yl0 lo) .n t
def q37_L3_b:VCode:=
 (Rg [oR 9 .lss 8 7]
 (.seq (Ce 9 0)
 (.seq (.blk 1 (Rg [oM 10 8,oM 5 10]
 (Rg [oM 11 1,oM 12 0,oM 13 5,oI 14 2 12 13,oT 15 2 14,o 16 (.dyn 11 [15])]
 (.cond 16 (Rg [oM 17 5,oM 4 17]
 .ret)
 .skip))))
 (.reg [oR 18 .add 8 (k 1),oM 8 18]))))
def Yee(lo:Lo):Zt0×Int×Int×ByteArray->Option ((Zt0×Int×Int×ByteArray)⊕ ((Int×ByteArray)⊕ByteArray)):=fun x=>match x with
  | (s0,v7,v8,h0)=>bif(decide (v8<v7))then(chk (0<=v8/\v8< (s0.length:Int)) (YG1 (q36 lo ((s0.getD v8.toNat ((YHk #[]),[])).1) ((s0.getD v8.toNat ((YHk #[]),[])).2) h0) fun y95=>bif y95.1 then(some (.inr (.inl (v8,y95.2))))else(some (.inl (s0,v7,(YHl .i64 (v8+1)),y95.2)))))else(some (.inr (.inr h0)))
def YgC(lo:Lo):Zt0×Int×Int×ByteArray->Option ((Int×ByteArray)⊕ByteArray):=lo.run (Yee lo)
def Yvd(lo:Lo):LpE:=⟨3,[],(Zsg [0,1,7,8] [.l Zc5,.clo 540 [.ptr 0 0 0],.j,.j] [.st [.s]]),[⟨.ret,(Zsg [4] [.j] [.st [.s]])⟩,⟨.exit 0,(Zsg [] [] [.st [.s]])⟩],YgC lo⟩
def Yve(lo:Lo):LL:=(Yvd lo,.loop q37_L3_b.er)::[]
theorem Yvf(lo:Lo):Lk lo pf (fs37 lo) 1 (Yve lo):=.l .n (Yee lo)
def q37(lo:Lo)(s0:List (ByteArray×Zt7))(h0:ByteArray):Option (Int×ByteArray):=
  YG1 (YgC lo (s0,(s0.length:Int),(0:Int),h0)) fun y96=>alt2 y96 (fun y97=>some (y97.1,y97.2)) (fun y98=>some ((-1:Int),y98))
def Yvg:VFn:=⟨true,19,[.t 4],
 (Rg [oK 4 0]
 (.seq (Rg [oM 6 0,oN 7 6,oK 8 0]
 (.blk 0 (.loop 3 q37_L3_b)))
 (Rg [oK 4 (-1)]
 .ret)))⟩
def Yl1(lo:Lo):FnE:=Zfe 557 false (Zsg [0,1] [.l Zc5,.clo 540 [.ptr 0 0 0]] [.st [.s]]) (.i .i64) [.st [.s]] (fun x=>q37 lo x.1 x.2:Zt0×ByteArray->Option (Int×ByteArray))
def fs38(lo:Lo):List FnE:=Yl1 lo::fs37 lo
theorem Yvh(h:GZ P fm fs37 lo)(t:Ti P fm 557 Yvg):GZ P fm fs38 lo:=
  h.i (Yl1 lo) (Yvf lo) t
def q38(lo:Lo)(s0:List (ByteArray×Zt7))(h0:ByteArray):Option (Bool×ByteArray):=
  YG1 (q37 lo s0 h0) fun y99=>some ((decide ((0:Int)<=y99.1)),y99.2)
def Yvi:VFn:=⟨true,9,[.t 4],
 (Rg [oB 4 false]
 (Rg [oM 5 0,oM 6 1,oC 7 557 [5,6],oR 8 .geq 7 (k 0),oM 4 8]
 .ret))⟩
def Yl2(lo:Lo):FnE:=Zfe 539 false (Zsg [0,1] [.l Zc5,.clo 540 [.ptr 0 0 0]] [.st [.s]]) .b [.st [.s]] (fun x=>q38 lo x.1 x.2:Zt0×ByteArray->Option (Bool×ByteArray))
def fs39(lo:Lo):List FnE:=Yl2 lo::fs38 lo
theorem Yvj(h:GZ P fm fs38 lo)(t:Ti P fm 539 Yvi):GZ P fm fs39 lo:=
  h.i (Yl2 lo) .n t
def q39_L3_b:VCode:=
 (Rg [oR 9 .lss 8 7]
 (.seq (Ce 9 0)
 (.seq (.blk 1 (Rg [oM 10 8,oI 11 1 6 8,oL 12 11,o 4 (.alloc [.s (⟨#[]⟩)]),oM 3 10,oS 1 4 12]
 (Rg [oL 13 4,oR 14 .eql 13 (ks (⟨#[]⟩)),oM 15 14,gF 16 15 (.fad 0 1),gF 17 15 (.load false 1 16),gF 18 15 (.mv 3),gF 19 15 (.slcR 1 17 none (some 18)),gF 20 15 (.load false 1 4),gF 21 15 (.call 256 [19,20]),oP 22 15 (kb true) 21,oM 23 22,gF 24 23 (.fad 1 1),gF 25 23 (.load false 1 24),gF 26 23 (.mkf 540 [4]),gF 27 23 (.call 539 [25,26]),gF 28 23 (.not 27),oP 29 23 (kb true) 28]
 (.cond 29 (Rg [oB 2 false]
 (Fr 2))
 .skip))))
 (.reg [oR 30 .add 8 (k 1),oM 8 30]))))
def Yef(lo:Lo):Zt3×Int×Int×Zt3×Zt0->Option ((Zt3×Int×Int×Zt3×Zt0)⊕ (Bool⊕Unit)):=fun x=>match x with
  | (v6,v7,v8,q1_0,q1_1)=>bif(decide (v8<v7))then(chk (0<=v8/\v8< (v6.length:Int)) (bif(decide ((v6.getD v8.toNat (YHk #[]))=(YHk #[])))then(some (.inr (.inl false)))else(chk (0<=(0:Int)/\0<=v8/\v8<=(q1_0.length:Int)) (YG1 (q5 lo ((q1_0.take v8.toNat).drop 0) (v6.getD v8.toNat (YHk #[]))) fun y88=>bif y88 then(some (.inr (.inl false)))else(YG1 (q38 lo q1_1 (v6.getD v8.toNat (YHk #[]))) fun y100=>bif(!y100.1)then(some (.inr (.inl false)))else(some (.inl (v6,v7,(YHl .i64 (v8+1)),q1_0,q1_1))))))))else(some (.inr (.inr ())))
def YgD(lo:Lo):Zt3×Int×Int×Zt3×Zt0->Option (Bool⊕Unit):=lo.run (Yef lo)
def Yvk(lo:Lo):LpE:=⟨3,[],(Zsg [1,6,7,8] [.ptr 0 0 0,.l (cs [.s]),.j,.j] [.st [.l (cs [.s]),.l Zc5]]),[⟨.ret,(Zsg [2] [.b] [])⟩,⟨.exit 0,(Zsg [] [] [])⟩],YgD lo⟩
def Yvl(lo:Lo):LL:=(Yvk lo,.loop q39_L3_b.er)::[]
theorem Yvm(lo:Lo):Lk lo pf (fs39 lo) 0 (Yvl lo):=.l .n (Yef lo)
def q39(lo:Lo)(q0_0:List ByteArray)(q0_1:List (ByteArray×Zt7)):Option Bool:=
  YG1 (YgD lo (q0_0,(q0_0.length:Int),(0:Int),q0_0,q0_1)) fun y101=>alt2 y101 (fun y102=>some y102) (fun y103=>some true)
def Yvn:VFn:=⟨true,31,[.t 2],
 (Rg [oG 1 0,oB 2 false]
 (.seq (Rg [oF 5 0 1,oL 6 5,oN 7 6,oK 8 0]
 (.blk 0 (.loop 3 q39_L3_b)))
 (Rg [oB 2 true]
 (Fr 2))))⟩
def Yl3(lo:Lo):FnE:=Zfe 505 true (Zsg [0] [.ag [.l (cs [.s]),.l Zc5]] []) .b [] (fun x=>q39 lo x.1 x.2:Zt3×Zt0->Option Bool)
def fs40(lo:Lo):List FnE:=Yl3 lo::fs39 lo
theorem Yvo(h:GZ P fm fs39 lo)(t:Ti P fm 505 Yvn):GZ P fm fs40 lo:=
  h.p (Yl3 lo) (Yvm lo) t
def q40_L6_b:VCode:=
 (Rg [oR 30 .lss 29 28]
 (.seq (Ce 30 0)
 (.seq (.blk 1 (Rg [oI 31 2 27 29,oT 32 2 31,o 7 (.alloc [.s (⟨#[]⟩),.e Zc13]),oS 2 7 32]
 (Rg [oT 34 1 2,oF 35 0 7,oL 36 35,oC 37 501 [34,36],oM 33 37,oE 38 33 0,oE 39 33 1,o 8 (.alloc [.s (⟨#[]⟩),.e (cs [.s]),.e Zc15]),oS 3 8 38,oM 9 39]
 (.blk 2 (Rg [oM 41 9,oX 42 41,oM 40 42]
 (.cond 40 (Rg [oK 4 4]
 (Fr 4))
 (Rg [oF 44 1 8,oL 45 44,oN 46 45,oF 47 1 7,oL 48 47,oN 49 48,oR 50 .neq 46 49,oM 43 50]
 (.cond 43 (Rg [oK 4 6]
 (Fr 4))
 (Rg [oF 52 1 7,oL 53 52,oC 54 502 [53,(.c (.f 503))],oM 51 54]
 (.cond 51 (Rg [oK 4 1]
 (Fr 4))
 .skip))))))))))
 (.reg [oR 55 .add 29 (k 1),oM 29 55]))))
def Yeg(lo:Lo):Zt0×Int×Int×Zt1×Zt3×Zt0->Option ((Zt0×Int×Int×Zt1×Zt3×Zt0)⊕ (Int⊕ (Zt3×Zt0))):=fun x=>match x with
  | (v27,v28,v29,db2,q3_0,q3_1)=>bif(decide (v29<v28))then(chk (0<=v29/\v29< (v27.length:Int)) (YG1 (q25 lo db2 ((v27.getD v29.toNat ((YHk #[]),[])).1)) fun y69=>bif(!y69.2.2.2)then(some (.inr (.inl (4:Int))))else(bif(!decide ((y69.2.1.length:Int)=(((v27.getD v29.toNat ((YHk #[]),[])).2).length:Int)))then(some (.inr (.inl (6:Int))))else(YG1 (q32 lo ((v27.getD v29.toNat ((YHk #[]),[])).2)) fun y84=>bif y84 then(some (.inr (.inl (1:Int))))else(some (.inl (v27,v28,(YHl .i64 (v29+1)),db2,q3_0,q3_1)))))))else(some (.inr (.inr (q3_0,q3_1))))
def YgE(lo:Lo):Zt0×Int×Int×Zt1×Zt3×Zt0->Option (Int⊕ (Zt3×Zt0)):=lo.run (Yeg lo)
def Yvp(lo:Lo):LpE:=⟨6,[],(Zsg [2,3,27,28,29] [.ptr 0 0 0,.ptr 1 0 0,.l Zc5,.j,.j] [.st [.l Zc6],.st [.l (cs [.s]),.l Zc5]]),[⟨.ret,(Zsg [4] [.j] [])⟩,⟨.exit 0,(Zsg [3] [.ptr 0 0 0] [.st [.l (cs [.s]),.l Zc5]])⟩],YgE lo⟩
def Yvq(lo:Lo):LL:=(Yvp lo,.loop q40_L6_b.er)::[]
theorem Yvr(lo:Lo):Lk lo pf (fs40 lo) 0 (Yvq lo):=.l .n (Yeg lo)
def q40(lo:Lo)(db0:List (ByteArray×Zt3×Zt12))(q1_0:List ByteArray)(q1_1:List (ByteArray×Zt7)):Option Int:=
  YG1 (q24 lo db0 (YHk #[]) ([]:List Int) (YHk #[]) ([]:List Int)) fun y65=>bif(!decide (y65=4))then(some y65)else(bif(decide ((q1_1.length:Int)<1))then(some (1:Int))else(bif(decide ((6:Int)< (q1_1.length:Int)))then(some (1:Int))else(YG1 (YgE lo (q1_1,(q1_1.length:Int),(0:Int),db0,q1_0,q1_1)) fun y85=>alt2 y85 (fun y86=>some y86) (fun y87=>YG1 (q39 lo y87.1 y87.2) fun y104=>bif(!y104)then(some (1:Int))else(some (0:Int))))))
def Yvs:VFn:=⟨true,59,[.t 4],
 (Rg [oG 2 0,oG 3 1,oK 4 0]
 (.seq (Rg [oT 10 1 2,o 11 (.build [.s (⟨#[]⟩),.e (cs [I]),.s (⟨#[]⟩),.e (cs [I])] []),oC 12 500 [10,11],oM 5 12]
 (Rg [oM 13 5,oR 14 .neq 13 (k 4)]
 (.cond 14 (Rg [oM 15 5,oM 4 15]
 (Fr 4))
 .skip)))
 (.seq (Rg [oF 16 1 3,oL 17 16,oN 18 17,oR 19 .lss 18 (k 1),oM 20 19,gF 21 20 (.fad 1 3),gF 22 20 (.load false 1 21),gF 23 20 (.len 22),gF 24 20 (.bin .gtr 23 (k 6)),oP 25 20 (kb true) 24]
 (.cond 25 (Rg [oK 4 1]
 (Fr 4))
 .skip))
 (.seq (Rg [oF 26 1 3,oL 27 26,oN 28 27,oK 29 0]
 (.blk 0 (.loop 6 q40_L6_b)))
 (.seq (Rg [oT 56 2 3,oC 57 505 [56],oX 58 57]
 (.cond 58 (Rg [oK 4 1]
 (Fr 4))
 .skip))
 (Rg [oK 4 0]
 (Fr 4)))))))⟩
def Yl4(lo:Lo):FnE:=Zfe 472 true (Zsg [0,1] [.ag [.l Zc6],.ag [.l (cs [.s]),.l Zc5]] []) (.i .i64) [] (fun x=>q40 lo x.1 x.2.1 x.2.2:Zt1×Zt3×Zt0->Option Int)
def fs41(lo:Lo):List FnE:=Yl4 lo::fs40 lo
theorem Yvt(h:GZ P fm fs40 lo)(t:Ti P fm 472 Yvs):GZ P fm fs41 lo:=
  h.p (Yl4 lo) (Yvr lo) t
def q41_L3_b:VCode:=
 (Rg [oR 18 .lss 17 16]
 (.seq (Ce 18 0)
 (.seq (.blk 1 (Rg [oI 19 2 15 17,oT 20 2 19,o 7 (.alloc [.s (⟨#[]⟩),.e Zc13]),oS 2 7 20]
 (Rg [oT 22 1 2,oF 23 0 7,oL 24 23,oC 25 501 [22,24],oM 21 25,oE 26 21 0,oE 27 21 1,o 8 (.alloc [.s (⟨#[]⟩),.e (cs [.s]),.e Zc15]),oS 3 8 26,oM 9 27]
 (.reg [oM 28 5,oM 29 5,o 30 (.nilc 29),oF 31 2 30,oL 32 31,oT 33 3 8,o 34 (.bsl Zc6 1 [(0,33)]),o 35 (.app Zc6 0 32 34),o 36 (.nilc 28),oF 37 2 36,oS 1 37 35]))))
 (.reg [oR 38 .add 17 (k 1),oM 17 38]))))
def Yeh(lo:Lo):Zp37->Option (Zp37⊕ ((Zt3×Zt0×Zt1×Int×Zt4×Bool×Bool× (List Int)))):=fun x=>match x with
  | (v15,v16,v17,db2,m5_0,m5_1,h2,h3_0,h3_1,h3_2,h3_3,h4)=>bif(decide (v17<v16))then(chk (0<=v17/\v17< (v15.length:Int)) (YG1 (q25 lo db2 ((v15.getD v17.toNat ((YHk #[]),[])).1)) fun y106=>chk (h2.length+([(y106.1,y106.2.1,y106.2.2.1)]).length<=maxEl) (some (.inl (v15,v16,(YHl .i64 (v17+1)),db2,m5_0,m5_1,(h2++([(y106.1,y106.2.1,y106.2.2.1)])),h3_0,h3_1,h3_2,h3_3,h4)))))else(some (.inr (m5_0,m5_1,h2,h3_0,h3_1,h3_2,h3_3,h4)))
def YgF(lo:Lo):Zp37->Option ((Zt3×Zt0×Zt1×Int×Zt4×Bool×Bool× (List Int))):=lo.run (Yeh lo)
def Yvu(lo:Lo):LpE:=⟨3,[(5,some 2,false),(5,some 4,false)],(Zsg [2,5,15,16,17] [.ptr 0 0 0,.ptr 1 0 0,.l Zc5,.j,.j] [.st [.l Zc6],.st [.l (cs [.s]),.l Zc5,.ref 2,.np 3,.ref 4,.u],.sq Zc6,.st [.j,.l Zc14,.b,.b],.sq (cs [I])]),[⟨.exit 0,(Zsg [5] [.ptr 0 0 0] [.st [.l (cs [.s]),.l Zc5,.ref 1,.np 2,.ref 3,.u],.sq Zc6,.st [.j,.l Zc14,.b,.b],.sq (cs [I])])⟩],YgF lo⟩
def Yvv(lo:Lo):LL:=(Yvu lo,.loop q41_L3_b.er)::[]
theorem Yvw(lo:Lo):Lk lo pf (fs41 lo) 0 (Yvv lo):=.l .n (Yeh lo)
def q41(lo:Lo)(db0:List (ByteArray×Zt3×Zt12))(q1_0:List ByteArray)(q1_1:List (ByteArray×Zt7)):Option (Zt3×Zt0×Zt1×Int×Zt4×Bool×Bool× (List Int)):=
  YG1 (YgF lo (q1_1,(q1_1.length:Int),(0:Int),db0,q1_0,q1_1,[],(0:Int),([]:List (Int×ByteArray×Int×Int×ByteArray)),false,false,[])) fun y107=>some (y107.1,y107.2.1,y107.2.2.1,y107.2.2.2.1,y107.2.2.2.2.1,y107.2.2.2.2.2.1,y107.2.2.2.2.2.2.1,y107.2.2.2.2.2.2.2)
def Yvx:VFn:=⟨true,40,[.t 4],
 (Rg [oG 2 0,oG 3 1,o 4 (.mv (.c (.one .nl)))]
 (Rg [oT 10 2 3,o 11 (.mkm none I (cs [I,.s]) true),o 12 (.build [.e (cs [.s]),.e Zc5,.e Zc6,.v (.map none),.e (cs [I]),.v .nilFunc] [(0,2,10),(3,1,11)]),oG 13 12,oM 5 13]
 (.seq (Rg [oF 14 1 3,oL 15 14,oN 16 15,oK 17 0]
 (.blk 0 (.loop 3 q41_L3_b)))
 (Rg [oM 39 5,oM 4 39]
 (.ow [(4,some 4,false),(4,some 2,false)] .ret)))))⟩
def Yl5(lo:Lo):FnE:=Zfe 512 false (Zsg [0,1] [.ag [.l Zc6],.ag [.l (cs [.s]),.l Zc5]] []) (.ptr 0 0 0) [.st [.l (cs [.s]),.l Zc5,.ref 1,.np 2,.ref 3,.u],.sq Zc6,.st [.j,.l Zc14,.b,.b],.sq (cs [I])] (fun x=>q41 lo x.1 x.2.1 x.2.2:Zt1×Zt3×Zt0->Option (Zt3×Zt0×Zt1×Int×Zt4×Bool×Bool× (List Int)))
def fs42(lo:Lo):List FnE:=Yl5 lo::fs41 lo
theorem Yvy(h:GZ P fm fs41 lo)(t:Ti P fm 512 Yvx):GZ P fm fs42 lo:=
  h.i (Yl5 lo) (Yvw lo) t
end Go.Abs.G47
namespace Go.Abs.G47
open Go Go.Abs
set_option maxRecDepth 100000
set_option maxHeartbeats 1000000
variable{P:Program}{fm:FM}{lo:Lo}
def q42_L3_b:VCode:=
 (Rg [oR 13 .lss 12 11]
 (.seq (Ce 13 0)
 (.seq (.blk 1 (Rg [oI 14 1 10 12,oL 15 14,oM 5 15]
 (.reg [oM 16 3,oM 17 0,o 18 (.nilc 17),oF 19 3 18,oL 20 19,oM 21 5,o 22 (.mget none I (cs [I,.s]) true false 20 21),o 23 (.bsl Zc10 1 [(0,22)]),o 24 (.app Zc10 0 16 23),oM 3 24])))
 (.reg [oR 25 .add 12 (k 1),oM 12 25]))))
def Yei(lo:Lo):Zp32->Option (Zp32⊕ ((Zt3×Zt0×Zt1×Int×Zt4×Bool×Bool× (List Int)×Int×Zt9×Bool×Zt2))):=fun x=>match x with
  | (v10,v11,v12,m0_0,m0_1,h1,h2_0,h2_1,h2_2,h2_3,h3,h6_0,h6_1,h6_2,out3)=>bif(decide (v12<v11))then(chk (0<=v12/\v12< (v10.length:Int)) (chk (out3.length+([(mgt eqS (v10.getD v12.toNat (YHk #[])) h2_1 Zd1)]).length<=maxEl) (some (.inl (v10,v11,(YHl .i64 (v12+1)),m0_0,m0_1,h1,h2_0,h2_1,h2_2,h2_3,h3,h6_0,h6_1,h6_2,(out3++([(mgt eqS (v10.getD v12.toNat (YHk #[])) h2_1 Zd1)])))))))else(some (.inr (m0_0,m0_1,h1,h2_0,h2_1,h2_2,h2_3,h3,h6_0,h6_1,h6_2,out3)))
def YgG(lo:Lo):Zp32->Option ((Zt3×Zt0×Zt1×Int×Zt4×Bool×Bool× (List Int)×Int×Zt9×Bool×Zt2)):=lo.run (Yei lo)
def Yvz(lo:Lo):LpE:=⟨3,[(0,some 2,false),(0,some 4,false),(3,none,false)],(Zsg [0,3,10,11,12] [.ptr 0 0 0,.ref 7,.l (cs [.s]),.j,.j] [.st [.l (cs [.s]),.l Zc5,.ref 1,.np 2,.ref 3,.clo 513 [.ptr 4 0 0,.ptr 5 0 0]],.sq Zc6,.st [.j,.l Zc14,.b,.b],.sq (cs [I]),.st [.ptr 0 0 0],.st [.np 6],.st [.j,.l Zc16,.b],.sq Zc10]),[⟨.exit 0,(Zsg [0,3] [.ptr 0 0 0,.ref 7] [.st [.l (cs [.s]),.l Zc5,.ref 1,.np 2,.ref 3,.clo 513 [.ptr 4 0 0,.ptr 5 0 0]],.sq Zc6,.st [.j,.l Zc14,.b,.b],.sq (cs [I]),.st [.ptr 0 0 0],.st [.np 6],.st [.j,.l Zc16,.b],.sq Zc10])⟩],YgG lo⟩
def YvA(lo:Lo):LL:=(Yvz lo,.loop q42_L3_b.er)::[]
theorem YvB(lo:Lo):Lk lo pf (fs42 lo) 7 (YvA lo):=.l .n (Yei lo)
def q42(lo:Lo)(m0_0:List ByteArray)(m0_1:List (ByteArray×Zt7))(h1:List (ByteArray×Zt3×Zt12))(h2_0:Int)(h2_1:List (Int×ByteArray×Int×Int×ByteArray))(h2_2:Bool)(h2_3:Bool)(h3:List Int)(h6_0:Int)(h6_1:List (Int×ByteArray×Zt2))(h6_2:Bool):Option (Zt3×Zt0×Zt1×Int×Zt4×Bool×Bool× (List Int)×Int×Zt9×Bool×Zt2):=
  YG1 (YgG lo (m0_0,(m0_0.length:Int),(0:Int),m0_0,m0_1,h1,h2_0,h2_1,h2_2,h2_3,h3,h6_0,h6_1,h6_2,[])) fun y109=>some (y109.1,y109.2.1,y109.2.2.1,y109.2.2.2.1,y109.2.2.2.2.1,y109.2.2.2.2.2.1,y109.2.2.2.2.2.2.1,y109.2.2.2.2.2.2.2.1,y109.2.2.2.2.2.2.2.2.1,y109.2.2.2.2.2.2.2.2.2.1,y109.2.2.2.2.2.2.2.2.2.2.1,y109.2.2.2.2.2.2.2.2.2.2.2)
def YvC:VFn:=⟨true,27,[.t 2],
 (Rg [o 2 (.mv (ke Zc10))]
 (Rg [o 3 (.mv (ke Zc10))]
 (.seq (Rg [oM 6 0,o 7 (.nilc 6),oF 8 0 7,oF 9 0 8,oL 10 9,oN 11 10,oK 12 0]
 (.blk 0 (.loop 3 q42_L3_b)))
 (Rg [oM 26 3,oM 2 26]
 (.ow [(0,some 4,false),(0,some 2,false)] .ret)))))⟩
def Yl6(lo:Lo):FnE:=Zfe 514 false (Zsg [0] [.ptr 0 0 0] [.st [.l (cs [.s]),.l Zc5,.ref 1,.np 2,.ref 3,.clo 513 [.ptr 4 0 0,.ptr 5 0 0]],.sq Zc6,.st [.j,.l Zc14,.b,.b],.sq (cs [I]),.st [.ptr 0 0 0],.st [.np 6],.st [.j,.l Zc16,.b]]) (.ref 7) [.st [.l (cs [.s]),.l Zc5,.ref 1,.np 2,.ref 3,.clo 513 [.ptr 4 0 0,.ptr 5 0 0]],.sq Zc6,.st [.j,.l Zc14,.b,.b],.sq (cs [I]),.st [.ptr 0 0 0],.st [.np 6],.st [.j,.l Zc16,.b],.sq Zc10] (fun x=>q42 lo x.1 x.2.1 x.2.2.1 x.2.2.2.1 x.2.2.2.2.1 x.2.2.2.2.2.1 x.2.2.2.2.2.2.1 x.2.2.2.2.2.2.2.1 x.2.2.2.2.2.2.2.2.1 x.2.2.2.2.2.2.2.2.2.1 x.2.2.2.2.2.2.2.2.2.2:Zt3×Zt0×Zt1×Int×Zt4×Bool×Bool× (List Int)×Int×Zt9×Bool->Option (Zt3×Zt0×Zt1×Int×Zt4×Bool×Bool× (List Int)×Int×Zt9×Bool×Zt2))
def fs43(lo:Lo):List FnE:=Yl6 lo::fs42 lo
theorem YvD(h:GZ P fm fs42 lo)(t:Ti P fm 514 YvC):GZ P fm fs43 lo:=
  h.i (Yl6 lo) (YvB lo) t
def q43_L3_b:VCode:=
 (.seq (Rg [oM 10 6,oR 11 .geq 10 (k 0)]
 (Ce 11 0))
 (.seq (.blk 1 (.reg [oM 14 0,oM 15 5,oM 16 6,oR 17 .shr 15 16,o 18 (.conv .u8 17),o 19 (.bsl Zc20 1 [(0,18)]),o 20 (.appb 14 19),oM 0 20]))
 (.reg [oM 12 6,oR 13 .sub 12 (k 8),oM 6 13])))
def YgH(lo:Lo):Int×Int×ByteArray->Option ((Int×Int×ByteArray)⊕ByteArray):=fun x=>match x with
  | (u5,shift6,out0)=>bif(decide (0<=shift6))then(chk (0<=shift6) (bif inB ([(YHl .u8 (u5.fdiv (2^(min shift6.toNat (IntKind.bits .u64)))))])then(chk (out0.size+([(YHl .u8 (u5.fdiv (2^(min shift6.toNat (IntKind.bits .u64)))))]).length<=maxEl) (some (.inl (u5,(YHl .i64 (shift6-8)),(out0++YBU ([(YHl .u8 (u5.fdiv (2^(min shift6.toNat (IntKind.bits .u64)))))]))))))else none))else(some (.inr out0))
def YgI(lo:Lo):Int×Int×ByteArray->Option ByteArray:=lo.run (YgH lo)
def YvE(lo:Lo):LpE:=⟨3,[(0,some 0,false)],(Zsg [0,5,6] [.ref 1,.i .u64,.j] [.dd,.sb]),[⟨.exit 0,(Zsg [0] [.ref 1] [.dd,.sb])⟩],YgI lo⟩
def YvF(lo:Lo):LL:=(YvE lo,.loop q43_L3_b.er)::[]
theorem YvG(lo:Lo):Lk lo pf (fs43 lo) 1 (YvF lo):=.l .n (YgH lo)
def q43(lo:Lo)(n1:Int)(out0:ByteArray):Option ByteArray:=
  YG1 (YgI lo ((bits .xor .u64 (YHl .u64 n1) (9223372036854775808:Int)),(56:Int),out0)) fun y112=>some y112
def YvH:VFn:=⟨true,22,[.t 4],
 (Rg [o 4 (.mv (ke Zc20))]
 (Rg [oM 7 1,o 8 (.conv .u64 7),oR 9 .xor 8 (ki .u64 9223372036854775808),oM 5 9]
 (.seq (Rg [oK 6 56]
 (.blk 0 (.loop 3 q43_L3_b)))
 (Rg [oM 21 0,oM 4 21]
 .ret))))⟩
def Yl7(lo:Lo):FnE:=Zfe 310 false (Zsg [0,1] [.ref 0,.j] [.sb]) (.ref 1) [.dd,.sb] (fun x=>q43 lo x.1 x.2:Int×ByteArray->Option ByteArray)
def fs44(lo:Lo):List FnE:=Yl7 lo::fs43 lo
theorem YvI(h:GZ P fm fs43 lo)(t:Ti P fm 310 YvH):GZ P fm fs44 lo:=
  h.i (Yl7 lo) (YvG lo) t
def q44_L5_b:VCode:=
 (Rg [oR 28 .lss 27 26]
 (.seq (Ce 28 1)
 (.seq (.blk 2 (Rg [oM 29 27,oM 5 29]
 (Rg [oM 30 4,oF 31 2 1,oL 32 31,oM 33 5,o 34 (.idx 32 33),o 35 (.bsl Zc20 1 [(0,34)]),o 36 (.appb 30 35),oM 4 36]
 (Rg [oF 37 2 1,oL 38 37,oM 39 5,o 40 (.idx 38 39),oR 41 .eql 40 (ki .u8 0)]
 (.cond 41 (.reg [oM 42 4,o 43 (.bsl Zc20 1 [(0,(ki .u8 255))]),o 44 (.appb 42 43),oM 4 44])
 .skip)))))
 (.reg [oR 45 .add 27 (k 1),oM 27 45]))))
def Yej(lo:Lo):Zp54->Option (Zp54⊕ByteArray):=fun x=>match x with
  | (v26,v27,v1_0,v1_1,v1_2,out4)=>bif(decide (v27<v26))then(chk (0<=v27/\v27< (v1_2.size:Int)) (bif inB ([(YBQ v1_2 v27)])then(chk (out4.size+([(YBQ v1_2 v27)]).length<=maxEl) (chk (0<=v27/\v27< (v1_2.size:Int)) (bif(decide ((YBQ v1_2 v27)=(0:Int)))then(bif inB ([(255:Int)])then(chk ((out4++YBU ([(YBQ v1_2 v27)])).size+([(255:Int)]).length<=maxEl) (some (.inl (v26,(YHl .i64 (v27+1)),v1_0,v1_1,v1_2,((out4++YBU ([(YBQ v1_2 v27)]))++YBU ([(255:Int)]))))))else none)else(some (.inl (v26,(YHl .i64 (v27+1)),v1_0,v1_1,v1_2,(out4++YBU ([(YBQ v1_2 v27)]))))))))else none))else(some (.inr out4))
def YgJ(lo:Lo):Zp54->Option ByteArray:=lo.run (Yej lo)
def YvJ(lo:Lo):LpE:=⟨5,[],(Zsg [1,4,26,27] [.ptr 0 0 0,.ref 1,.j,.j] [.st [.j,.j,.s],.sb]),[⟨.exit 1,(Zsg [4] [.ref 0] [.sb])⟩],YgJ lo⟩
def Yl8(lo:Lo):LL:=(YvJ lo,.loop q44_L5_b.er)::[]
theorem YvK(lo:Lo):Lk lo pf (fs44 lo) 0 (Yl8 lo):=.l .n (Yej lo)
def q44_J17_b:VCode:=
 (.cond 15 (.reg [oM 18 4,oF 19 1 1,oL 20 19,oC 21 310 [18,20],oM 4 21])
 (Rg [oR 23 .eql 14 (k 2),oM 22 23]
 (.cond 22 (.seq (Rg [oF 24 2 1,oL 25 24,o 26 (.lenS 25),oK 27 0]
 (.blk 1 (.loop 5 q44_L5_b)))
 (.reg [oM 46 4,o 47 (.bsl Zc20 2 [(0,(ki .u8 0)),(1,(ki .u8 1))]),o 48 (.appb 46 47),oM 4 48]))
 .skip)))
def YbI(lo:Lo):Int×Bool×Int×Int×ByteArray×ByteArray->Option ByteArray:=fun x=>match x with
  | (v14,v15,v1_0,v1_1,v1_2,out4)=>bif v15 then(YG1 (q43 lo v1_1 out4) fun y113=>some y113)else(bif(decide (v14=2))then(YG1 (YgJ lo ((v1_2.size:Int),(0:Int),v1_0,v1_1,v1_2,out4)) fun y114=>bif inB ([(0:Int),(1:Int)])then(chk (y114.size+([(0:Int),(1:Int)]).length<=maxEl) (some (y114++YBU ([(0:Int),(1:Int)]))))else none)else(some out4))
def YvL(lo:Lo):LpE:=⟨17,[],(Zsg [1,4,14,15] [.ptr 0 0 0,.ref 1,.j,.b] [.st [.j,.j,.s],.sb]),[⟨.nor,(Zsg [4] [.ref 0] [.sb])⟩],YbI lo⟩
def YvM(lo:Lo):LL:=(YvL lo,q44_J17_b.er)::Yl8 lo
theorem YvN(lo:Lo):Lk lo pf (fs44 lo) 0 (YvM lo):=.j (YvK lo)
def q44(lo:Lo)(v0_0:Int)(v0_1:Int)(v0_2:ByteArray):Option (ByteArray×Int):=
  YG1 (q6 lo v0_0 v0_1 v0_2) fun y111=>bif(!y111)then(some ((YHk #[]),(1:Int)))else(bif inB [(YHl .u8 v0_0)]then(bif(decide (v0_0=1))then(YG1 (YbI lo (v0_0,true,v0_0,v0_1,v0_2,(YBU [(YHl .u8 v0_0)]))) fun y115=>some (y115,(0:Int)))else(YG1 (YbI lo (v0_0,(decide (v0_0=3)),v0_0,v0_1,v0_2,(YBU [(YHl .u8 v0_0)]))) fun y116=>some (y116,(0:Int))))else none)
def YvO:VFn:=⟨true,51,[.t 2,.t 3],
 (Rg [oG 1 0,o 2 (.mv (ks (⟨#[]⟩))),oK 3 0]
 (.seq (Rg [oT 6 3 1,oC 7 283 [6],oX 8 7]
 (.cond 8 (Rg [o 2 (.mv (ks (⟨#[]⟩))),oK 3 1]
 (.fz [2,3] .ret))
 .skip))
 (Rg [oF 9 0 1,oL 10 9,o 11 (.conv .u8 10),o 12 (.litb [11]),oM 4 12]
 (.seq (Rg [oF 13 0 1,oL 14 13]
 (.blk 0 (.seq (Rg [oR 16 .eql 14 (k 1),oM 15 16]
 (.cond 15 .skip
 (.reg [oR 17 .eql 14 (k 3),oM 15 17])))
 (.jn 17 q44_J17_b))))
 (Rg [oM 49 4,o 50 (.bstr 49),oM 2 50,oK 3 0]
 (.fz [2,3] .ret))))))⟩
def Yl9(lo:Lo):FnE:=Zfe 296 true (Zsg [0] [.ag [.j,.j,.s]] []) (.tp [.s,.j]) [] (fun x=>q44 lo x.1 x.2.1 x.2.2:Int×Int×ByteArray->Option (ByteArray×Int))
def fs45(lo:Lo):List FnE:=Yl9 lo::fs44 lo
theorem YvP(h:GZ P fm fs44 lo)(t:Ti P fm 296 YvO):GZ P fm fs45 lo:=
  h.p (Yl9 lo) (YvN lo) t
def q45(lo:Lo)(s:ByteArray):Option ByteArray:=some s
def YvQ(lo:Lo):FnE:=vchkE2 164
def fs46(lo:Lo):List FnE:=YvQ lo::fs45 lo
theorem YvR(h:GZ P fm fs45 lo)(hG: ∀f,fm f=164->YBT P f=true/\ ∃ρ:Go.Shelf.Ren,Go.Proofs.Lays.n240 P ρ/\BldOK P fm ρ/\ρ.f 240=f):GZ P fm fs46 lo:=
  ⟨h.1,h.2,YsN h.S rfl hG⟩
def q46(lo:Lo)(s1:ByteArray)(h1:ByteArray):Option (Int×ByteArray):=
  YG1 (q45 lo h1) fun y118=>chk (y118.size=h1.size) (chk (y118.size+s1.size<=maxEl) (some ((s1.size:Int),(y118++s1))))
def YvS:VFn:=⟨true,19,[.t 4,.t 5],
 (Rg [oK 4 0,o 5 (.mv (.c (.v .nilIface)))]
 (Rg [oM 6 0,oC 7 164 [6]]
 (Rg [oM 8 0,oM 9 0,o 10 (.nilc 9),oF 11 1 10,oL 12 11,oM 13 1,o 14 (.apps 12 13),o 15 (.nilc 8),oF 16 1 15,oS 1 16 14]
 (Rg [oM 17 1,o 18 (.lenS 17),oM 4 18,o 5 (.mv (.c (.v .nilIface)))]
 .ret))))⟩
def Yma(lo:Lo):FnE:=Zfe 149 false (Zsg [0,1] [.ptr 0 0 0,.s] [.st [.np 0,.ref 1],.sb]) (.tp [.j,.u]) [.st [.np 0,.ref 2],.dd,.sb] (fun x=>q46 lo x.1 x.2:ByteArray×ByteArray->Option (Int×ByteArray))
def fs47(lo:Lo):List FnE:=Yma lo::fs46 lo
theorem YvT(h:GZ P fm fs46 lo)(t:Ti P fm 149 YvS):GZ P fm fs47 lo:=
  h.i (Yma lo) .n t
def q47(lo:Lo)(s:ByteArray):Option ByteArray:=some s
def YvU(lo:Lo):FnE:=vstrE 151
def fs48(lo:Lo):List FnE:=YvU lo::fs47 lo
theorem YvV(h:GZ P fm fs47 lo)(hG: ∀f,fm f=151->YBT P f=true/\ ∃ρ:Go.Shelf.Ren,Go.Proofs.Lays.n169 P ρ/\BldOK P fm ρ/\fm.bu=ρ.t 5/\ρ.f 169=f):GZ P fm fs48 lo:=
  ⟨h.1,h.2,YsU h.S rfl hG⟩
def q48_L4_b:VCode:=
 (Rg [oR 14 .lss 13 12]
 (.seq (Ce 14 0)
 (.seq (.blk 1 (Rg [oI 15 3 11 13,oT 16 3 15,o 6 (.alloc [.i .i64 0,.i .i64 0,.s (⟨#[]⟩)]),oS 3 6 16]
 (Rg [oT 18 3 6,oC 19 296 [18],oM 17 19,oE 20 17 0,oE 21 17 1,oM 7 20,oM 8 21]
 (.reg [oM 22 7,oC 23 149 [4,22]]))))
 (.reg [oR 24 .add 13 (k 1),oM 13 24]))))
def Yek(lo:Lo):Zp29->Option (Zp29⊕ ((Zt3×Zt0×Int×Zt9×Bool×Zt1×Int×Zt4×Bool×Bool× (List Int)×Zt2×ByteArray))):=fun x=>match x with
  | (v12,v13,h2_0,h2_1,h3_0,h3_1,h3_2,h4,h5_0,h5_1,h5_2,h5_3,h6,l3,h9)=>bif(decide (v13<v12))then(chk (0<=v13/\v13< (l3.length:Int)) (YG1 (q44 lo ((l3.getD v13.toNat Zd1).1) ((l3.getD v13.toNat Zd1).2.1) ((l3.getD v13.toNat Zd1).2.2)) fun y123=>YG1 (q46 lo y123.1 h9) fun y124=>some (.inl (v12,(YHl .i64 (v13+1)),h2_0,h2_1,h3_0,h3_1,h3_2,h4,h5_0,h5_1,h5_2,h5_3,h6,l3,y124.2))))else(some (.inr (h2_0,h2_1,h3_0,h3_1,h3_2,h4,h5_0,h5_1,h5_2,h5_3,h6,l3,h9)))
def YgK(lo:Lo):Zp29->Option ((Zt3×Zt0×Int×Zt9×Bool×Zt1×Int×Zt4×Bool×Bool× (List Int)×Zt2×ByteArray)):=lo.run (Yek lo)
def YvW(lo:Lo):LpE:=⟨4,[],(Zsg [0,1,3,4,11,12,13] [.ptr 0 0 0,.ptr 1 0 0,.ref 7,.ptr 8 0 0,.ref 7,.j,.j] [.st [.ptr 2 0 0],.st [.np 3],.st [.l (cs [.s]),.l Zc5,.ref 4,.np 5,.ref 6,.clo 513 [.ptr 0 0 0,.ptr 1 0 0]],.st [.j,.l Zc16,.b],.sq Zc6,.st [.j,.l Zc14,.b,.b],.sq (cs [I]),.sq Zc10,.st [.np 8,.ref 9],.sb]),[⟨.exit 0,(Zsg [0,1,3,4] [.ptr 0 0 0,.ptr 1 0 0,.ref 7,.ptr 8 0 0] [.st [.ptr 2 0 0],.st [.np 3],.st [.l (cs [.s]),.l Zc5,.ref 4,.np 5,.ref 6,.clo 513 [.ptr 0 0 0,.ptr 1 0 0]],.st [.j,.l Zc16,.b],.sq Zc6,.st [.j,.l Zc14,.b,.b],.sq (cs [I]),.sq Zc10,.st [.np 8,.ref 9],.sb])⟩],YgK lo⟩
def YvX(lo:Lo):LL:=(YvW lo,.loop q48_L4_b.er)::[]
theorem YvY(lo:Lo):Lk lo pf (fs48 lo) 7 (YvX lo):=.l .n (Yek lo)
def q48(lo:Lo)(h2_0:List ByteArray)(h2_1:List (ByteArray×Zt7))(h3_0:Int)(h3_1:List (Int×ByteArray×Zt2))(h3_2:Bool)(h4:List (ByteArray×Zt3×Zt12))(h5_0:Int)(h5_1:List (Int×ByteArray×Int×Int×ByteArray))(h5_2:Bool)(h5_3:Bool)(h6:List Int):Option (Bool×Zt3×Zt0×Int×Zt9×Bool×Zt1×Int×Zt4×Bool×Bool× (List Int)):=
  YG1 (q42 lo h2_0 h2_1 h4 h5_0 h5_1 h5_2 h5_3 h6 h3_0 h3_1 h3_2) fun y122=>chk (y122.2.2.1.length=h4.length) (chk (y122.2.2.2.2.2.2.2.1.length=h6.length) (YG1 (YgK lo ((y122.2.2.2.2.2.2.2.2.2.2.2.length:Int),(0:Int),y122.1,y122.2.1,y122.2.2.2.2.2.2.2.2.1,y122.2.2.2.2.2.2.2.2.2.1,y122.2.2.2.2.2.2.2.2.2.2.1,y122.2.2.1,y122.2.2.2.1,y122.2.2.2.2.1,y122.2.2.2.2.2.1,y122.2.2.2.2.2.2.1,y122.2.2.2.2.2.2.2.1,y122.2.2.2.2.2.2.2.2.2.2.2,(YHk #[]))) fun y125=>YG1 (q47 lo y125.2.2.2.2.2.2.2.2.2.2.2.2) fun y126=>some ((decide (((mpt eqS y125.2.2.1 y126 y125.2.2.2.2.2.2.2.2.2.2.2.1 y125.2.2.2.1).length:Int)<=(10000:Int))),y125.1,y125.2.1,(mck eqS y125.2.2.1 y126 y125.2.2.2.1),(mpt eqS y125.2.2.1 y126 y125.2.2.2.2.2.2.2.2.2.2.2.1 y125.2.2.2.1),y125.2.2.2.2.1,y125.2.2.2.2.2.1,y125.2.2.2.2.2.2.1,y125.2.2.2.2.2.2.2.1,y125.2.2.2.2.2.2.2.2.1,y125.2.2.2.2.2.2.2.2.2.1,y125.2.2.2.2.2.2.2.2.2.2.1)))
def YvZ:VFn:=⟨true,31,[.t 2],
 (Rg [oB 2 false]
 (Rg [oL 9 0,oC 10 514 [9],oM 3 10]
 (Rg [o 4 (.bld)]
 (.ow [(4,some 1,false)] (.seq (Rg [oM 11 3,oN 12 11,oK 13 0]
 (.blk 0 (.loop 4 q48_L4_b)))
 (.seq (.fz [3] (.regN [1000000000004] [⟨some 25,.load false 1 1,none,true,false⟩,⟨some 26,.call 151 [4],none,false,true⟩,oM 27 3,on (.mput none (.l Zc10) (cs []) false 25 26 27)]))
 (Rg [oL 28 1,o 29 (.mlen 28),oR 30 .leq 29 (k 10000),oM 2 30]
 .ret)))))))⟩
def Ymb(lo:Lo):FnE:=Zfe 513 false (Zsg [0,1] [.ptr 0 0 0,.ptr 1 0 0] [.st [.ptr 2 0 0],.st [.np 3],.st [.l (cs [.s]),.l Zc5,.ref 4,.np 5,.ref 6,.clo 513 [.ptr 0 0 0,.ptr 1 0 0]],.st [.j,.l Zc16,.b],.sq Zc6,.st [.j,.l Zc14,.b,.b],.sq (cs [I])]) .b [.st [.ptr 2 0 0],.st [.np 3],.st [.l (cs [.s]),.l Zc5,.ref 4,.np 5,.ref 6,.clo 513 [.ptr 0 0 0,.ptr 1 0 0]],.st [.j,.l Zc16,.b],.sq Zc6,.st [.j,.l Zc14,.b,.b],.sq (cs [I])] (fun x=>q48 lo x.1 x.2.1 x.2.2.1 x.2.2.2.1 x.2.2.2.2.1 x.2.2.2.2.2.1 x.2.2.2.2.2.2.1 x.2.2.2.2.2.2.2.1 x.2.2.2.2.2.2.2.2.1 x.2.2.2.2.2.2.2.2.2.1 x.2.2.2.2.2.2.2.2.2.2:Zt3×Zt0×Int×Zt9×Bool×Zt1×Int×Zt4×Bool×Bool× (List Int)->Option (Bool×Zt3×Zt0×Int×Zt9×Bool×Zt1×Int×Zt4×Bool×Bool× (List Int)))
def fs49(lo:Lo):List FnE:=Ymb lo::fs48 lo
theorem Yv0(h:GZ P fm fs48 lo)(t:Ti P fm 513 YvZ):GZ P fm fs49 lo:=
  h.i (Ymb lo) (YvY lo) t
def q49_J13_b:VCode:=
 (Rg [oM 36 12,oX 37 36]
 (.cond 37 (Rg [oM 38 0,o 39 (.nilc 38),oF 40 3 39,oL 41 40,oF 42 0 10,oL 43 42,oF 44 1 5,oL 45 44,oM 46 9,oI 47 3 45 46,oT 48 3 47,on (.mput none I (cs [I,.s]) true 41 43 48)]
 (.reg [oM 49 8,oF 50 0 10,oL 51 50,o 52 (.bsl (cs [.s]) 1 [(0,51)]),o 53 (.app (cs [.s]) 0 49 52),oM 8 53]))
 (Rg [oT 54 3 11,oF 55 1 5,oL 56 55,oM 57 9,oI 58 3 56 57,oT 59 3 58,o 60 (.eqa true [1,1,2] 54 59)]
 (.cond 60 (Rg [oM 61 8,oM 6 61,oB 7 false]
 (.ow [(0,some 4,false),(0,some 2,false)] .ret))
 .skip))))
def Yel(lo:Lo):Int×Bool×Zt7×Int×Int×Zt3×Zt0×Zt1×Int×Zt4×Bool×Bool× (List Int)×Int×Zt9×Bool×Int×Zt2×Zt3×ByteArray×Int×Int×ByteArray×Int×Int×ByteArray->Option (Zp28⊕ (Bool×Zt3×Zt0×Zt1×Int×Zt4×Bool×Bool× (List Int)×Int×Zt9×Bool×Zt3)):=fun x=>match x with
  | (i9,known12,v14,v15,v16,m0_0,m0_1,h1,h2_0,h2_1,h2_2,h2_3,h3,h6_0,h6_1,h6_2,r5_0,r5_1,fresh8,t10_0,t10_1,t10_2,t10_3,v11_0,v11_1,v11_2)=>bif(!known12)then(chk (0<=i9/\i9< (r5_1.length:Int)) (chk (fresh8.length+[t10_0].length<=maxEl) (some (.inl (v14,v15,v16,m0_0,m0_1,h1,(mck eqS h2_0 t10_0 h2_1),(mpt eqS h2_0 t10_0 (r5_1.getD i9.toNat Zd1) h2_1),h2_2,h2_3,h3,h6_0,h6_1,h6_2,r5_0,r5_1,(fresh8++[t10_0]))))))else(chk (0<=i9/\i9< (r5_1.length:Int)) (bif(!((decide (v11_0=(r5_1.getD i9.toNat Zd1).1))&& ((decide (v11_1=(r5_1.getD i9.toNat Zd1).2.1))&& ((decide (v11_2=(r5_1.getD i9.toNat Zd1).2.2))&&true))))then(some (.inr (false,m0_0,m0_1,h1,h2_0,h2_1,h2_2,h2_3,h3,h6_0,h6_1,h6_2,fresh8)))else(some (.inl (v14,v15,v16,m0_0,m0_1,h1,h2_0,h2_1,h2_2,h2_3,h3,h6_0,h6_1,h6_2,r5_0,r5_1,fresh8)))))
def Yv1(lo:Lo):LpE:=⟨13,[(0,some 2,false),(0,some 4,false)],(Zsg [0,5,8,9,10,11,12,14,15,16] [.ptr 0 0 0,.ptr 7 0 0,.ref 8,.j,.ptr 9 0 0,.ptr 10 0 0,.b,.l Zc13,.j,.j] [.st [.l (cs [.s]),.l Zc5,.ref 1,.np 2,.ref 3,.clo 513 [.ptr 4 0 0,.ptr 5 0 0]],.sq Zc6,.st [.j,.l Zc14,.b,.b],.sq (cs [I]),.st [.ptr 0 0 0],.st [.np 6],.st [.j,.l Zc16,.b],.st [.j,.l Zc10],.sq (cs [.s]),.st [.s,.j,.j,.s],.st [.j,.j,.s]]),[⟨.nor,(Zsg [0,5,8,14,15,16] [.ptr 0 0 0,.ptr 7 0 0,.ref 8,.l Zc13,.j,.j] [.st [.l (cs [.s]),.l Zc5,.ref 1,.np 2,.ref 3,.clo 513 [.ptr 4 0 0,.ptr 5 0 0]],.sq Zc6,.st [.j,.l Zc14,.b,.b],.sq (cs [I]),.st [.ptr 0 0 0],.st [.np 6],.st [.j,.l Zc16,.b],.st [.j,.l Zc10],.sq (cs [.s])])⟩,⟨.ret,(Zsg [6,7,0] [.ref 7,.b,.ptr 0 0 0] [.st [.l (cs [.s]),.l Zc5,.ref 1,.np 2,.ref 3,.clo 513 [.ptr 4 0 0,.ptr 5 0 0]],.sq Zc6,.st [.j,.l Zc14,.b,.b],.sq (cs [I]),.st [.ptr 0 0 0],.st [.np 6],.st [.j,.l Zc16,.b],.sq (cs [.s])])⟩],Yel lo⟩
def Ymc(lo:Lo):LL:=(Yv1 lo,q49_J13_b.er)::[]
theorem Yv2(lo:Lo):Lk lo pf (fs49 lo) 7 (Ymc lo):=.j .n
def q49_L3_b:VCode:=
 (Rg [oR 17 .lss 16 15]
 (.seq (Ce 17 0)
 (.seq (.blk 1 (Rg [oM 18 16,oI 19 4 14 16,oT 20 4 19,o 10 (.alloc [.s (⟨#[]⟩),.i .i64 0,.i .i64 0,.s (⟨#[]⟩)]),oM 9 18,oS 4 10 20]
 (Rg [oF 21 1 10,oT 22 3 21,o 11 (.alloc [.i .i64 0,.i .i64 0,.s (⟨#[]⟩)]),oS 3 11 22,oB 12 true]
 (.seq (Rg [oF 23 0 10,oL 24 23,oR 25 .neq 24 (ks (⟨#[]⟩))]
 (.cond 25 (.reg [oM 27 0,o 28 (.nilc 27),oF 29 3 28,oL 30 29,oF 31 0 10,oL 32 31,o 33 (.mget none I (cs [I,.s]) true true 30 32),oM 26 33,oE 34 26 0,oE 35 26 1,oS 3 11 34,oM 12 35])
 .skip))
 (.jn 13 q49_J13_b)))))
 (.reg [oR 62 .add 16 (k 1),oM 16 62]))))
def YcQ(lo:Lo):Zp28->Option (Zp28⊕ ((Bool×Zt3×Zt0×Zt1×Int×Zt4×Bool×Bool× (List Int)×Int×Zt9×Bool×Zt3)⊕ (Zt3×Zt0×Zt1×Int×Zt4×Bool×Bool× (List Int)×Int×Zt9×Bool×Zt3))):=fun x=>match x with
  | (v14,v15,v16,m0_0,m0_1,h1,h2_0,h2_1,h2_2,h2_3,h3,h6_0,h6_1,h6_2,r5_0,r5_1,fresh8)=>bif(decide (v16<v15))then(chk (0<=v16/\v16< (v14.length:Int)) (bif(!decide ((v14.getD v16.toNat Zd0).1=(YHk #[])))then(YG1 (Yel lo (v16,(mhs eqS ((v14.getD v16.toNat Zd0).1) h2_1),v14,v15,v16,m0_0,m0_1,h1,h2_0,h2_1,h2_2,h2_3,h3,h6_0,h6_1,h6_2,r5_0,r5_1,fresh8,(v14.getD v16.toNat Zd0).1,(v14.getD v16.toNat Zd0).2.1,(v14.getD v16.toNat Zd0).2.2.1,(v14.getD v16.toNat Zd0).2.2.2,(mgt eqS ((v14.getD v16.toNat Zd0).1) h2_1 Zd1).1,(mgt eqS ((v14.getD v16.toNat Zd0).1) h2_1 Zd1).2.1,(mgt eqS ((v14.getD v16.toNat Zd0).1) h2_1 Zd1).2.2)) fun y128=>alt2 y128 (fun y129=>some (.inl (y129.1,y129.2.1,(YHl .i64 (y129.2.2.1+(1:Int))),y129.2.2.2.1,y129.2.2.2.2.1,y129.2.2.2.2.2.1,y129.2.2.2.2.2.2.1,y129.2.2.2.2.2.2.2.1,y129.2.2.2.2.2.2.2.2.1,y129.2.2.2.2.2.2.2.2.2.1,y129.2.2.2.2.2.2.2.2.2.2.1,y129.2.2.2.2.2.2.2.2.2.2.2.1,y129.2.2.2.2.2.2.2.2.2.2.2.2.1,y129.2.2.2.2.2.2.2.2.2.2.2.2.2.1,y129.2.2.2.2.2.2.2.2.2.2.2.2.2.2.1,y129.2.2.2.2.2.2.2.2.2.2.2.2.2.2.2.1,y129.2.2.2.2.2.2.2.2.2.2.2.2.2.2.2.2))) (fun y130=>some (.inr (.inl (y130.1,y130.2.1,y130.2.2.1,y130.2.2.2.1,y130.2.2.2.2.1,y130.2.2.2.2.2.1,y130.2.2.2.2.2.2.1,y130.2.2.2.2.2.2.2.1,y130.2.2.2.2.2.2.2.2.1,y130.2.2.2.2.2.2.2.2.2.1,y130.2.2.2.2.2.2.2.2.2.2.1,y130.2.2.2.2.2.2.2.2.2.2.2.1,y130.2.2.2.2.2.2.2.2.2.2.2.2)))))else(YG1 (Yel lo (v16,true,v14,v15,v16,m0_0,m0_1,h1,h2_0,h2_1,h2_2,h2_3,h3,h6_0,h6_1,h6_2,r5_0,r5_1,fresh8,(v14.getD v16.toNat Zd0).1,(v14.getD v16.toNat Zd0).2.1,(v14.getD v16.toNat Zd0).2.2.1,(v14.getD v16.toNat Zd0).2.2.2,(v14.getD v16.toNat Zd0).2.1,(v14.getD v16.toNat Zd0).2.2.1,(v14.getD v16.toNat Zd0).2.2.2)) fun y131=>alt2 y131 (fun y132=>some (.inl (y132.1,y132.2.1,(YHl .i64 (y132.2.2.1+(1:Int))),y132.2.2.2.1,y132.2.2.2.2.1,y132.2.2.2.2.2.1,y132.2.2.2.2.2.2.1,y132.2.2.2.2.2.2.2.1,y132.2.2.2.2.2.2.2.2.1,y132.2.2.2.2.2.2.2.2.2.1,y132.2.2.2.2.2.2.2.2.2.2.1,y132.2.2.2.2.2.2.2.2.2.2.2.1,y132.2.2.2.2.2.2.2.2.2.2.2.2.1,y132.2.2.2.2.2.2.2.2.2.2.2.2.2.1,y132.2.2.2.2.2.2.2.2.2.2.2.2.2.2.1,y132.2.2.2.2.2.2.2.2.2.2.2.2.2.2.2.1,y132.2.2.2.2.2.2.2.2.2.2.2.2.2.2.2.2))) (fun y133=>some (.inr (.inl (y133.1,y133.2.1,y133.2.2.1,y133.2.2.2.1,y133.2.2.2.2.1,y133.2.2.2.2.2.1,y133.2.2.2.2.2.2.1,y133.2.2.2.2.2.2.2.1,y133.2.2.2.2.2.2.2.2.1,y133.2.2.2.2.2.2.2.2.2.1,y133.2.2.2.2.2.2.2.2.2.2.1,y133.2.2.2.2.2.2.2.2.2.2.2.1,y133.2.2.2.2.2.2.2.2.2.2.2.2)))))))else(some (.inr (.inr (m0_0,m0_1,h1,h2_0,h2_1,h2_2,h2_3,h3,h6_0,h6_1,h6_2,fresh8))))
def YgL(lo:Lo):Zp28->Option ((Bool×Zt3×Zt0×Zt1×Int×Zt4×Bool×Bool× (List Int)×Int×Zt9×Bool×Zt3)⊕ (Zt3×Zt0×Zt1×Int×Zt4×Bool×Bool× (List Int)×Int×Zt9×Bool×Zt3)):=lo.run (YcQ lo)
def Yv3(lo:Lo):LpE:=⟨3,[(0,some 2,false),(0,some 4,false),(8,none,false)],(Zsg [0,5,8,14,15,16] [.ptr 0 0 0,.ptr 7 0 0,.ref 8,.l Zc13,.j,.j] [.st [.l (cs [.s]),.l Zc5,.ref 1,.np 2,.ref 3,.clo 513 [.ptr 4 0 0,.ptr 5 0 0]],.sq Zc6,.st [.j,.l Zc14,.b,.b],.sq (cs [I]),.st [.ptr 0 0 0],.st [.np 6],.st [.j,.l Zc16,.b],.st [.j,.l Zc10],.sq (cs [.s])]),[⟨.ret,(Zsg [6,7,0] [.ref 7,.b,.ptr 0 0 0] [.st [.l (cs [.s]),.l Zc5,.ref 1,.np 2,.ref 3,.clo 513 [.ptr 4 0 0,.ptr 5 0 0]],.sq Zc6,.st [.j,.l Zc14,.b,.b],.sq (cs [I]),.st [.ptr 0 0 0],.st [.np 6],.st [.j,.l Zc16,.b],.sq (cs [.s])])⟩,⟨.exit 0,(Zsg [0,8] [.ptr 0 0 0,.ref 7] [.st [.l (cs [.s]),.l Zc5,.ref 1,.np 2,.ref 3,.clo 513 [.ptr 4 0 0,.ptr 5 0 0]],.sq Zc6,.st [.j,.l Zc14,.b,.b],.sq (cs [I]),.st [.ptr 0 0 0],.st [.np 6],.st [.j,.l Zc16,.b],.sq (cs [.s])])⟩],YgL lo⟩
def Yv4(lo:Lo):LL:=(Yv3 lo,.loop q49_L3_b.er)::Ymc lo
theorem Yv5(lo:Lo):Lk lo pf (fs49 lo) 7 (Yv4 lo):=.l (Yv2 lo) (YcQ lo)
def q49(lo:Lo)(a1_0:ByteArray)(a1_1:List Zp62)(r2_0:Int)(r2_1:List (Int×Int×ByteArray))(m0_0:List ByteArray)(m0_1:List (ByteArray×Zt7))(h1:List (ByteArray×Zt3×Zt12))(h2_0:Int)(h2_1:List (Int×ByteArray×Int×Int×ByteArray))(h2_2:Bool)(h2_3:Bool)(h3:List Int)(h6_0:Int)(h6_1:List (Int×ByteArray×Zt2))(h6_2:Bool):Option (Bool×Zt3×Zt0×Zt1×Int×Zt4×Bool×Bool× (List Int)×Int×Zt9×Bool×Zt3):=
  YG1 (YgL lo (a1_1,(a1_1.length:Int),(0:Int),m0_0,m0_1,h1,h2_0,h2_1,h2_2,h2_3,h3,h6_0,h6_1,h6_2,r2_0,r2_1,[])) fun y134=>alt2 y134 (fun y135=>some (y135.1,y135.2.1,y135.2.2.1,y135.2.2.2.1,y135.2.2.2.2.1,y135.2.2.2.2.2.1,y135.2.2.2.2.2.2.1,y135.2.2.2.2.2.2.2.1,y135.2.2.2.2.2.2.2.2.1,y135.2.2.2.2.2.2.2.2.2.1,y135.2.2.2.2.2.2.2.2.2.2.1,y135.2.2.2.2.2.2.2.2.2.2.2.1,y135.2.2.2.2.2.2.2.2.2.2.2.2)) (fun y136=>some (true,y136.1,y136.2.1,y136.2.2.1,y136.2.2.2.1,y136.2.2.2.2.1,y136.2.2.2.2.2.1,y136.2.2.2.2.2.2.1,y136.2.2.2.2.2.2.2.1,y136.2.2.2.2.2.2.2.2.1,y136.2.2.2.2.2.2.2.2.2.1,y136.2.2.2.2.2.2.2.2.2.2.1,y136.2.2.2.2.2.2.2.2.2.2.2))
def Yv6:VFn:=⟨true,64,[.t 6,.t 7],
 (Rg [oG 4 1,oG 5 2,o 6 (.mv (ke (cs [.s]))),oB 7 false]
 (Rg [o 8 (.mv (ke (cs [.s])))]
 (.seq (Rg [oF 13 1 4,oL 14 13,oN 15 14,oK 16 0]
 (.blk 0 (.loop 3 q49_L3_b)))
 (Rg [oM 63 8,oM 6 63,oB 7 true]
 (.ow [(0,some 4,false),(0,some 2,false)] .ret)))))⟩
def Ymd(lo:Lo):FnE:=Zfe 543 false (Zsg [0,1,2] [.ptr 0 0 0,.ag [.s,.l Zc13],.ag [.j,.l Zc10]] [.st [.l (cs [.s]),.l Zc5,.ref 1,.np 2,.ref 3,.clo 513 [.ptr 4 0 0,.ptr 5 0 0]],.sq Zc6,.st [.j,.l Zc14,.b,.b],.sq (cs [I]),.st [.ptr 0 0 0],.st [.np 6],.st [.j,.l Zc16,.b]]) (.tp [.ref 7,.b]) [.st [.l (cs [.s]),.l Zc5,.ref 1,.np 2,.ref 3,.clo 513 [.ptr 4 0 0,.ptr 5 0 0]],.sq Zc6,.st [.j,.l Zc14,.b,.b],.sq (cs [I]),.st [.ptr 0 0 0],.st [.np 6],.st [.j,.l Zc16,.b],.sq (cs [.s])] (fun x=>q49 lo x.1 x.2.1 x.2.2.1 x.2.2.2.1 x.2.2.2.2.1 x.2.2.2.2.2.1 x.2.2.2.2.2.2.1 x.2.2.2.2.2.2.2.1 x.2.2.2.2.2.2.2.2.1 x.2.2.2.2.2.2.2.2.2.1 x.2.2.2.2.2.2.2.2.2.2.1 x.2.2.2.2.2.2.2.2.2.2.2.1 x.2.2.2.2.2.2.2.2.2.2.2.2.1 x.2.2.2.2.2.2.2.2.2.2.2.2.2.1 x.2.2.2.2.2.2.2.2.2.2.2.2.2.2:ByteArray×Zt7×Int×Zt2×Zt3×Zt0×Zt1×Int×Zt4×Bool×Bool× (List Int)×Int×Zt9×Bool->Option (Bool×Zt3×Zt0×Zt1×Int×Zt4×Bool×Bool× (List Int)×Int×Zt9×Bool×Zt3))
def fs50(lo:Lo):List FnE:=Ymd lo::fs49 lo
theorem Yv7(h:GZ P fm fs49 lo)(t:Ti P fm 543 Yv6):GZ P fm fs50 lo:=
  h.i (Ymd lo) (Yv5 lo) t
end Go.Abs.G47
namespace Go.Abs.G47
open Go Go.Abs
set_option maxRecDepth 100000
set_option maxHeartbeats 1000000
variable{P:Program}{fm:FM}{lo:Lo}
def YgM(F:Zp36->Option (Bool×Zt3×Zt0×Zt1×Int×Zt4×Bool×Bool×Int×Zt9×Bool× (List Int))):FnE:=⟨515,false,(Zsg [0,1] [.ptr 0 0 0,.j] [.st [.l (cs [.s]),.l Zc5,.ref 1,.np 2,.ref 3,.clo 513 [.ptr 4 0 0,.ptr 5 0 0]],.sq Zc6,.st [.j,.l Zc14,.b,.b],.sq (cs [I]),.st [.ptr 0 0 0],.st [.np 6],.st [.j,.l Zc16,.b]]),.b,[.st [.l (cs [.s]),.l Zc5,.ref 1,.np 2,.ref 7,.clo 513 [.ptr 4 0 0,.ptr 5 0 0]],.sq Zc6,.st [.j,.l Zc14,.b,.b],.dd,.st [.ptr 0 0 0],.st [.np 6],.st [.j,.l Zc16,.b],.sq (cs [I])],(cs [.b,.l (cs [.s]),.l Zc5,.l Zc6,I,.l Zc14,.b,.b,I,.l Zc16,.b,.l (cs [I])]),F⟩
def q50_L8_b:VCode:=
 (Rg [oR 83 .lss 82 81]
 (.seq (Ce 83 2)
 (.seq (.blk 3 (Rg [oI 84 1 80 82,oL 85 84,oM 11 85]
 (.reg [oM 86 0,o 87 (.nilc 86),oF 88 3 87,oL 89 88,oM 90 11,on (.mdel none I (cs [I,.s]) 89 90)])))
 (.reg [oR 91 .add 82 (k 1),oM 82 91]))))
def Yem(lo:Lo)(rec:Zp36->Option (Bool×Zt3×Zt0×Zt1×Int×Zt4×Bool×Bool×Int×Zt9×Bool× (List Int))):Zp26->Option (Zp26⊕ ((Int×Bool×Zt12×Int×Int×Zt3×Zt0×Zt1×Int×Zt4×Bool×Bool×Int×Zt9×Bool× (List Int)))):=fun x=>match x with
  | (i1,on9,v32,v33,v34,v81,v82,m0_0,m0_1,h1,h2_0,h2_1,h2_2,h2_3,h6_0,h6_1,h6_2,v80,h8)=>bif(decide (v82<v81))then(chk (0<=v82/\v82< (v80.length:Int)) (some (.inl (i1,on9,v32,v33,v34,v81,(YHl .i64 (v82+1)),m0_0,m0_1,h1,h2_0,(mdl eqS (v80.getD v82.toNat (YHk #[])) h2_1),h2_2,h2_3,h6_0,h6_1,h6_2,v80,h8))))else(some (.inr (i1,on9,v32,v33,v34,m0_0,m0_1,h1,h2_0,h2_1,h2_2,h2_3,h6_0,h6_1,h6_2,h8)))
def Yen(lo:Lo)(rec:Zp36->Option (Bool×Zt3×Zt0×Zt1×Int×Zt4×Bool×Bool×Int×Zt9×Bool× (List Int))):Zp26->Option ((Int×Bool×Zt12×Int×Int×Zt3×Zt0×Zt1×Int×Zt4×Bool×Bool×Int×Zt9×Bool× (List Int))):=lo.run (Yem lo rec)
def Yv8(lo:Lo)(rec:Zp36->Option (Bool×Zt3×Zt0×Zt1×Int×Zt4×Bool×Bool×Int×Zt9×Bool× (List Int))):LpE:=⟨8,[(0,some 2,false),(0,some 4,false)],(Zsg [0,1,9,32,33,34,80,81,82] [.ptr 0 0 0,.j,.b,.l Zc15,.j,.j,.ref 7,.j,.j] [.st [.l (cs [.s]),.l Zc5,.ref 1,.np 2,.ref 8,.clo 513 [.ptr 4 0 0,.ptr 5 0 0]],.sq Zc6,.st [.j,.l Zc14,.b,.b],.dd,.st [.ptr 0 0 0],.st [.np 6],.st [.j,.l Zc16,.b],.sq (cs [.s]),.sq (cs [I])]),[⟨.exit 2,(Zsg [0,1,9,32,33,34] [.ptr 0 0 0,.j,.b,.l Zc15,.j,.j] [.st [.l (cs [.s]),.l Zc5,.ref 1,.np 2,.ref 7,.clo 513 [.ptr 4 0 0,.ptr 5 0 0]],.sq Zc6,.st [.j,.l Zc14,.b,.b],.dd,.st [.ptr 0 0 0],.st [.np 6],.st [.j,.l Zc16,.b],.sq (cs [I])])⟩],Yen lo rec⟩
def Yme(lo:Lo)(rec:Zp36->Option (Bool×Zt3×Zt0×Zt1×Int×Zt4×Bool×Bool×Int×Zt9×Bool× (List Int))):LL:=(Yv8 lo rec,.loop q50_L8_b.er)::[]
theorem Yv9(lo:Lo)(rec:Zp36->Option (Bool×Zt3×Zt0×Zt1×Int×Zt4×Bool×Bool×Int×Zt9×Bool× (List Int))):Lk lo pf (YgM rec::fs50 lo) 7 (Yme lo rec):=.l .n (Yem lo rec)
def q50_L3_b:VCode:=
 (Rg [oR 35 .lss 34 33]
 (.seq (Ce 35 0)
 (.seq (.blk 1 (Rg [oI 36 2 32 34,oT 37 2 36,o 6 (.alloc [.i .i64 0,.e Zc10]),oS 2 6 37]
 (Rg [oM 39 0,oM 40 0,o 41 (.nilc 40),oF 42 0 41,oF 43 1 42,oL 44 43,oM 45 1,oI 46 2 44 45,oT 47 2 46,oT 48 2 6,oC 49 543 [39,47,48],oM 38 49,oE 50 38 0,oE 51 38 1,oM 7 50,oM 8 51]
 (Rg [oM 52 0,oM 53 0,o 54 (.nilc 53),oF 55 4 54,oL 56 55,oF 57 0 6,oL 58 57,o 59 (.bsl (cs [I]) 1 [(0,58)]),o 60 (.app (cs [I]) 0 56 59),o 61 (.nilc 52),oF 62 4 61,oS 1 62 60]
 (Rg [oM 63 8,oX 64 63,oM 65 64,gF 66 65 (.mv 0),gF 67 65 (.mv 1),gF 68 65 (.bin .add 67 (k 1)),gF 69 65 (.call 515 [66,68]),oP 70 65 (kb true) 69,oM 9 70]
 (Rg [oM 71 0,oM 72 0,o 73 (.nilc 72),oF 74 4 73,oL 75 74,oM 76 1,o 77 (.slcR 1 75 none (some 76)),o 78 (.nilc 71),oF 79 4 78,oS 1 79 77]
 (.seq (Rg [oM 80 7,oN 81 80,oK 82 0]
 (.blk 2 (.loop 8 q50_L8_b)))
 (Rg [oM 92 9,oX 93 92]
 (.cond 93 (Rg [oB 4 false]
 (.ow [(1000003,none,true),(0,some 4,false),(0,some 2,false)] .ret))
 .skip)))))))))
 (.reg [oR 94 .add 34 (k 1),oM 34 94]))))
def Yb3(lo:Lo)(rec:Zp36->Option (Bool×Zt3×Zt0×Zt1×Int×Zt4×Bool×Bool×Int×Zt9×Bool× (List Int))):Zp31->Option (Zp31⊕ ((Bool×Zt3×Zt0×Zt1×Int×Zt4×Bool×Bool×Int×Zt9×Bool× (List Int))⊕ (Zt3×Zt0×Zt1×Int×Zt4×Bool×Bool×Int×Zt9×Bool× (List Int)))):=fun x=>match x with
  | (i1,v32,v33,v34,m0_0,m0_1,h1,h2_0,h2_1,h2_2,h2_3,h6_0,h6_1,h6_2,h7)=>bif(decide (v34<v33))then(chk (0<=v34/\v34< (v32.length:Int)) (chk (0<=i1/\i1< (m0_1.length:Int)) (YG1 (q49 lo ((m0_1.getD i1.toNat ((YHk #[]),[])).1) ((m0_1.getD i1.toNat ((YHk #[]),[])).2) ((v32.getD v34.toNat ((0:Int),[])).1) ((v32.getD v34.toNat ((0:Int),[])).2) m0_0 m0_1 h1 h2_0 h2_1 h2_2 h2_3 h7 h6_0 h6_1 h6_2) fun y156=>chk (y156.2.2.2.1.length=h1.length) (chk (y156.2.2.2.2.2.2.2.2.1.length=h7.length) (chk (y156.2.2.2.2.2.2.2.2.1.length+([(v32.getD v34.toNat ((0:Int),[])).1]).length<=maxEl) (bif(!y156.1)then(chk ((0:Int)=0/\0<=i1/\i1<=((y156.2.2.2.2.2.2.2.2.1++([(v32.getD v34.toNat ((0:Int),[])).1])).length:Int)) (YG1 (Yen lo rec (i1,true,v32,v33,v34,(y156.2.2.2.2.2.2.2.2.2.2.2.2.length:Int),(0:Int),y156.2.1,y156.2.2.1,y156.2.2.2.1,y156.2.2.2.2.1,y156.2.2.2.2.2.1,y156.2.2.2.2.2.2.1,y156.2.2.2.2.2.2.2.1,y156.2.2.2.2.2.2.2.2.2.1,y156.2.2.2.2.2.2.2.2.2.2.1,y156.2.2.2.2.2.2.2.2.2.2.2.1,y156.2.2.2.2.2.2.2.2.2.2.2.2,((y156.2.2.2.2.2.2.2.2.1++([(v32.getD v34.toNat ((0:Int),[])).1])).take i1.toNat))) fun y157=>bif(!y157.2.1)then(some (.inr (.inl (false,y157.2.2.2.2.2.1,y157.2.2.2.2.2.2.1,y157.2.2.2.2.2.2.2.1,y157.2.2.2.2.2.2.2.2.1,y157.2.2.2.2.2.2.2.2.2.1,y157.2.2.2.2.2.2.2.2.2.2.1,y157.2.2.2.2.2.2.2.2.2.2.2.1,y157.2.2.2.2.2.2.2.2.2.2.2.2.1,y157.2.2.2.2.2.2.2.2.2.2.2.2.2.1,y157.2.2.2.2.2.2.2.2.2.2.2.2.2.2.1,y157.2.2.2.2.2.2.2.2.2.2.2.2.2.2.2))))else(some (.inl (y157.1,y157.2.2.1,y157.2.2.2.1,(YHl .i64 (y157.2.2.2.2.1+(1:Int))),y157.2.2.2.2.2.1,y157.2.2.2.2.2.2.1,y157.2.2.2.2.2.2.2.1,y157.2.2.2.2.2.2.2.2.1,y157.2.2.2.2.2.2.2.2.2.1,y157.2.2.2.2.2.2.2.2.2.2.1,y157.2.2.2.2.2.2.2.2.2.2.2.1,y157.2.2.2.2.2.2.2.2.2.2.2.2.1,y157.2.2.2.2.2.2.2.2.2.2.2.2.2.1,y157.2.2.2.2.2.2.2.2.2.2.2.2.2.2.1,y157.2.2.2.2.2.2.2.2.2.2.2.2.2.2.2)))))else(YG1 (rec ((YHl .i64 (i1+1)),y156.2.1,y156.2.2.1,y156.2.2.2.1,y156.2.2.2.2.1,y156.2.2.2.2.2.1,y156.2.2.2.2.2.2.1,y156.2.2.2.2.2.2.2.1,(y156.2.2.2.2.2.2.2.2.1++([(v32.getD v34.toNat ((0:Int),[])).1])),y156.2.2.2.2.2.2.2.2.2.1,y156.2.2.2.2.2.2.2.2.2.2.1,y156.2.2.2.2.2.2.2.2.2.2.2.1)) fun y158=>chk (y158.2.2.2.1.length=y156.2.2.2.1.length) (chk ((0:Int)=0/\0<=i1/\i1<=(y158.2.2.2.2.2.2.2.2.2.2.2.length:Int)) (YG1 (Yen lo rec (i1,y158.1,v32,v33,v34,(y156.2.2.2.2.2.2.2.2.2.2.2.2.length:Int),(0:Int),y158.2.1,y158.2.2.1,y158.2.2.2.1,y158.2.2.2.2.1,y158.2.2.2.2.2.1,y158.2.2.2.2.2.2.1,y158.2.2.2.2.2.2.2.1,y158.2.2.2.2.2.2.2.2.1,y158.2.2.2.2.2.2.2.2.2.1,y158.2.2.2.2.2.2.2.2.2.2.1,y156.2.2.2.2.2.2.2.2.2.2.2.2,(y158.2.2.2.2.2.2.2.2.2.2.2.take i1.toNat))) fun y159=>bif(!y159.2.1)then(some (.inr (.inl (false,y159.2.2.2.2.2.1,y159.2.2.2.2.2.2.1,y159.2.2.2.2.2.2.2.1,y159.2.2.2.2.2.2.2.2.1,y159.2.2.2.2.2.2.2.2.2.1,y159.2.2.2.2.2.2.2.2.2.2.1,y159.2.2.2.2.2.2.2.2.2.2.2.1,y159.2.2.2.2.2.2.2.2.2.2.2.2.1,y159.2.2.2.2.2.2.2.2.2.2.2.2.2.1,y159.2.2.2.2.2.2.2.2.2.2.2.2.2.2.1,y159.2.2.2.2.2.2.2.2.2.2.2.2.2.2.2))))else(some (.inl (y159.1,y159.2.2.1,y159.2.2.2.1,(YHl .i64 (y159.2.2.2.2.1+(1:Int))),y159.2.2.2.2.2.1,y159.2.2.2.2.2.2.1,y159.2.2.2.2.2.2.2.1,y159.2.2.2.2.2.2.2.2.1,y159.2.2.2.2.2.2.2.2.2.1,y159.2.2.2.2.2.2.2.2.2.2.1,y159.2.2.2.2.2.2.2.2.2.2.2.1,y159.2.2.2.2.2.2.2.2.2.2.2.2.1,y159.2.2.2.2.2.2.2.2.2.2.2.2.2.1,y159.2.2.2.2.2.2.2.2.2.2.2.2.2.2.1,y159.2.2.2.2.2.2.2.2.2.2.2.2.2.2.2))))))))))))else(some (.inr (.inr (m0_0,m0_1,h1,h2_0,h2_1,h2_2,h2_3,h6_0,h6_1,h6_2,h7))))
def YcR(lo:Lo)(rec:Zp36->Option (Bool×Zt3×Zt0×Zt1×Int×Zt4×Bool×Bool×Int×Zt9×Bool× (List Int))):Zp31->Option ((Bool×Zt3×Zt0×Zt1×Int×Zt4×Bool×Bool×Int×Zt9×Bool× (List Int))⊕ (Zt3×Zt0×Zt1×Int×Zt4×Bool×Bool×Int×Zt9×Bool× (List Int))):=lo.run (Yb3 lo rec)
def Ywa(lo:Lo)(rec:Zp36->Option (Bool×Zt3×Zt0×Zt1×Int×Zt4×Bool×Bool×Int×Zt9×Bool× (List Int))):LpE:=⟨3,[(1000003,none,true),(0,some 2,false),(0,some 4,false)],(Zsg [0,1,32,33,34] [.ptr 0 0 0,.j,.l Zc15,.j,.j] [.st [.l (cs [.s]),.l Zc5,.ref 1,.np 2,.ref 7,.clo 513 [.ptr 4 0 0,.ptr 5 0 0]],.sq Zc6,.st [.j,.l Zc14,.b,.b],.dd,.st [.ptr 0 0 0],.st [.np 6],.st [.j,.l Zc16,.b],.sq (cs [I])]),[⟨.ret,(Zsg [4,0] [.b,.ptr 0 0 0] [.st [.l (cs [.s]),.l Zc5,.ref 1,.np 2,.ref 7,.clo 513 [.ptr 4 0 0,.ptr 5 0 0]],.sq Zc6,.st [.j,.l Zc14,.b,.b],.dd,.st [.ptr 0 0 0],.st [.np 6],.st [.j,.l Zc16,.b],.sq (cs [I])])⟩,⟨.exit 0,(Zsg [0] [.ptr 0 0 0] [.st [.l (cs [.s]),.l Zc5,.ref 1,.np 2,.ref 7,.clo 513 [.ptr 4 0 0,.ptr 5 0 0]],.sq Zc6,.st [.j,.l Zc14,.b,.b],.dd,.st [.ptr 0 0 0],.st [.np 6],.st [.j,.l Zc16,.b],.sq (cs [I])])⟩],YcR lo rec⟩
def Ymf(lo:Lo)(rec:Zp36->Option (Bool×Zt3×Zt0×Zt1×Int×Zt4×Bool×Bool×Int×Zt9×Bool× (List Int))):LL:=(Ywa lo rec,.loop q50_L3_b.er)::Yme lo rec
theorem Ywb(lo:Lo)(rec:Zp36->Option (Bool×Zt3×Zt0×Zt1×Int×Zt4×Bool×Bool×Int×Zt9×Bool× (List Int))):Lk lo pf (YgM rec::fs50 lo) 7 (Ymf lo rec):=.l (Yv9 lo rec) (Yb3 lo rec)
def Yb4(lo:Lo)(rec:Zp36->Option (Bool×Zt3×Zt0×Zt1×Int×Zt4×Bool×Bool×Int×Zt9×Bool× (List Int)))(i1:Int)(m0_0:List ByteArray)(m0_1:List (ByteArray×Zt7))(h1:List (ByteArray×Zt3×Zt12))(h2_0:Int)(h2_1:List (Int×ByteArray×Int×Int×ByteArray))(h2_2:Bool)(h2_3:Bool)(h3:List Int)(h6_0:Int)(h6_1:List (Int×ByteArray×Zt2))(h6_2:Bool):Option (Bool×Zt3×Zt0×Zt1×Int×Zt4×Bool×Bool×Int×Zt9×Bool× (List Int)):=
  bif(decide (i1=(m0_1.length:Int)))then(YG1 (q48 lo m0_0 m0_1 h6_0 h6_1 h6_2 h1 h2_0 h2_1 h2_2 h2_3 h3) fun y155=>chk (y155.2.2.2.2.2.2.1.length=h1.length) (chk (y155.2.2.2.2.2.2.2.2.2.2.2.length=h3.length) (some (y155.1,y155.2.1,y155.2.2.1,y155.2.2.2.2.2.2.1,y155.2.2.2.2.2.2.2.1,y155.2.2.2.2.2.2.2.2.1,y155.2.2.2.2.2.2.2.2.2.1,y155.2.2.2.2.2.2.2.2.2.2.1,y155.2.2.2.1,y155.2.2.2.2.1,y155.2.2.2.2.2.1,y155.2.2.2.2.2.2.2.2.2.2.2))))else(chk (0<=i1/\i1< (h1.length:Int)) (YG1 (YcR lo rec (i1,(h1.getD i1.toNat ((YHk #[]),[],[])).2.2,(((h1.getD i1.toNat ((YHk #[]),[],[])).2.2).length:Int),(0:Int),m0_0,m0_1,h1,h2_0,h2_1,h2_2,h2_3,h6_0,h6_1,h6_2,h3)) fun y160=>alt2 y160 (fun y161=>some (y161.1,y161.2.1,y161.2.2.1,y161.2.2.2.1,y161.2.2.2.2.1,y161.2.2.2.2.2.1,y161.2.2.2.2.2.2.1,y161.2.2.2.2.2.2.2.1,y161.2.2.2.2.2.2.2.2.1,y161.2.2.2.2.2.2.2.2.2.1,y161.2.2.2.2.2.2.2.2.2.2.1,y161.2.2.2.2.2.2.2.2.2.2.2)) (fun y162=>some (true,y162.1,y162.2.1,y162.2.2.1,y162.2.2.2.1,y162.2.2.2.2.1,y162.2.2.2.2.2.1,y162.2.2.2.2.2.2.1,y162.2.2.2.2.2.2.2.1,y162.2.2.2.2.2.2.2.2.1,y162.2.2.2.2.2.2.2.2.2.1,y162.2.2.2.2.2.2.2.2.2.2))))
def YaX(lo:Lo):Nat->Int×Zt3×Zt0×Zt1×Int×Zt4×Bool×Bool× (List Int)×Int×Zt9×Bool->Option (Bool×Zt3×Zt0×Zt1×Int×Zt4×Bool×Bool×Int×Zt9×Bool× (List Int))
  |0,_=>none
  |n+1,x=>Yb4 lo (YaX lo n) x.1 x.2.1 x.2.2.1 x.2.2.2.1 x.2.2.2.2.1 x.2.2.2.2.2.1 x.2.2.2.2.2.2.1 x.2.2.2.2.2.2.2.1 x.2.2.2.2.2.2.2.2.1 x.2.2.2.2.2.2.2.2.2.1 x.2.2.2.2.2.2.2.2.2.2.1 x.2.2.2.2.2.2.2.2.2.2.2
def q50(lo:Lo)(i1:Int)(m0_0:List ByteArray)(m0_1:List (ByteArray×Zt7))(h1:List (ByteArray×Zt3×Zt12))(h2_0:Int)(h2_1:List (Int×ByteArray×Int×Int×ByteArray))(h2_2:Bool)(h2_3:Bool)(h3:List Int)(h6_0:Int)(h6_1:List (Int×ByteArray×Zt2))(h6_2:Bool):Option (Bool×Zt3×Zt0×Zt1×Int×Zt4×Bool×Bool×Int×Zt9×Bool× (List Int)):=lo.run (fixS (YaX lo)) (0,(i1,m0_0,m0_1,h1,h2_0,h2_1,h2_2,h2_3,h3,h6_0,h6_1,h6_2))
def Ywc:VFn:=⟨true,95,[.t 4],
 (Rg [oB 4 false]
 (.seq (Rg [oM 12 1,oM 13 0,o 14 (.nilc 13),oF 15 0 14,oF 16 1 15,oL 17 16,oN 18 17,oR 19 .eql 12 18]
 (.cond 19 (Rg [oM 20 0,o 21 (.nilc 20),oF 22 5 21,oL 23 22,o 24 (.dyn 23 []),oM 4 24]
 (.ow [(1000003,none,true),(0,some 4,false),(0,some 2,false)] .ret))
 .skip))
 (.seq (Rg [oM 25 0,o 26 (.nilc 25),oF 27 2 26,oL 28 27,oM 29 1,oI 30 3 28 29,oF 31 2 30,oL 32 31,oN 33 32,oK 34 0]
 (.blk 0 (.loop 3 q50_L3_b)))
 (Rg [oB 4 true]
 (.ow [(1000003,none,true),(0,some 4,false),(0,some 2,false)] .ret)))))⟩
def Ymg(lo:Lo):FnE:=YgM (fun x=>q50 lo x.1 x.2.1 x.2.2.1 x.2.2.2.1 x.2.2.2.2.1 x.2.2.2.2.2.1 x.2.2.2.2.2.2.1 x.2.2.2.2.2.2.2.1 x.2.2.2.2.2.2.2.2.1 x.2.2.2.2.2.2.2.2.2.1 x.2.2.2.2.2.2.2.2.2.2.1 x.2.2.2.2.2.2.2.2.2.2.2)
def fs51(lo:Lo):List FnE:=Ymg lo::fs50 lo
theorem Ywd(h:GZ P fm fs50 lo)(t:Ti P fm 515 Ywc):GZ P fm fs51 lo:=
  h.ir (Ymg lo) (YaX lo) (ls:=fun rec=>Ymf lo rec) (fun rec=>(Ywb lo rec)) t (by kernel_rfl) (fun _=>rfl) rfl (fun _=>by kernel_rfl) fun n x=>by kernel_rfl
def q51_J9_b:VCode:=
 (.seq (Rg [oM 13 0,oR 14 .geq 13 (ki .u64 256)]
 (.cond 14 (Rg [oM 15 0,oR 16 .shr 15 (ki .u64 8),oM 0 16]
 (.reg [oM 17 2,oR 18 .add 17 (k 8),oM 2 18]))
 .skip))
 (Rg [oM 19 2,oM 20 0,o 21 (.conv .u8 20),o 22 (.idx (ks (⟨#[0,1,2,2,3,3,3,3,4,4,4,4,4,4,4,4,5,5,5,5,5,5,5,5,5,5,5,5,5,5,5,5,6,6,6,6,6,6,6,6,6,6,6,6,6,6,6,6,6,6,6,6,6,6,6,6,6,6,6,6,6,6,6,6,7,7,7,7,7,7,7,7,7,7,7,7,7,7,7,7,7,7,7,7,7,7,7,7,7,7,7,7,7,7,7,7,7,7,7,7,7,7,7,7,7,7,7,7,7,7,7,7,7,7,7,7,7,7,7,7,7,7,7,7,7,7,7,7,8,8,8,8,8,8,8,8,8,8,8,8,8,8,8,8,8,8,8,8,8,8,8,8,8,8,8,8,8,8,8,8,8,8,8,8,8,8,8,8,8,8,8,8,8,8,8,8,8,8,8,8,8,8,8,8,8,8,8,8,8,8,8,8,8,8,8,8,8,8,8,8,8,8,8,8,8,8,8,8,8,8,8,8,8,8,8,8,8,8,8,8,8,8,8,8,8,8,8,8,8,8,8,8,8,8,8,8,8,8,8,8,8,8,8,8,8,8,8,8,8,8,8,8,8,8,8,8]⟩)) 21),o 23 (.conv .i64 22),oR 24 .add 19 23,oM 2 24]
 (Fr 2)))
def YcS(lo:Lo):Int×Int->Option Int:=fun x=>match x with
  | (x0,n2)=>bif(decide (256<=x0))then(chk (0<=(8:Int)) (chk (0<=(YHl .u8 (x0.fdiv (2^(min (8:Int).toNat (IntKind.bits .u64)))))/\ (YHl .u8 (x0.fdiv (2^(min (8:Int).toNat (IntKind.bits .u64)))))< ((YHk #[0,1,2,2,3,3,3,3,4,4,4,4,4,4,4,4,5,5,5,5,5,5,5,5,5,5,5,5,5,5,5,5,6,6,6,6,6,6,6,6,6,6,6,6,6,6,6,6,6,6,6,6,6,6,6,6,6,6,6,6,6,6,6,6,7,7,7,7,7,7,7,7,7,7,7,7,7,7,7,7,7,7,7,7,7,7,7,7,7,7,7,7,7,7,7,7,7,7,7,7,7,7,7,7,7,7,7,7,7,7,7,7,7,7,7,7,7,7,7,7,7,7,7,7,7,7,7,7,8,8,8,8,8,8,8,8,8,8,8,8,8,8,8,8,8,8,8,8,8,8,8,8,8,8,8,8,8,8,8,8,8,8,8,8,8,8,8,8,8,8,8,8,8,8,8,8,8,8,8,8,8,8,8,8,8,8,8,8,8,8,8,8,8,8,8,8,8,8,8,8,8,8,8,8,8,8,8,8,8,8,8,8,8,8,8,8,8,8,8,8,8,8,8,8,8,8,8,8,8,8,8,8,8,8,8,8,8,8,8,8,8,8,8,8,8,8,8,8,8,8,8,8,8,8,8,8]).size:Int)) (some (YHl .i64 ((YHl .i64 (n2+8))+(YHl .i64 (YBQ (YHk #[0,1,2,2,3,3,3,3,4,4,4,4,4,4,4,4,5,5,5,5,5,5,5,5,5,5,5,5,5,5,5,5,6,6,6,6,6,6,6,6,6,6,6,6,6,6,6,6,6,6,6,6,6,6,6,6,6,6,6,6,6,6,6,6,7,7,7,7,7,7,7,7,7,7,7,7,7,7,7,7,7,7,7,7,7,7,7,7,7,7,7,7,7,7,7,7,7,7,7,7,7,7,7,7,7,7,7,7,7,7,7,7,7,7,7,7,7,7,7,7,7,7,7,7,7,7,7,7,8,8,8,8,8,8,8,8,8,8,8,8,8,8,8,8,8,8,8,8,8,8,8,8,8,8,8,8,8,8,8,8,8,8,8,8,8,8,8,8,8,8,8,8,8,8,8,8,8,8,8,8,8,8,8,8,8,8,8,8,8,8,8,8,8,8,8,8,8,8,8,8,8,8,8,8,8,8,8,8,8,8,8,8,8,8,8,8,8,8,8,8,8,8,8,8,8,8,8,8,8,8,8,8,8,8,8,8,8,8,8,8,8,8,8,8,8,8,8,8,8,8,8,8,8,8,8,8]) (YHl .u8 (x0.fdiv (2^(min (8:Int).toNat (IntKind.bits .u64))))))))))))else(chk (0<=(YHl .u8 x0)/\ (YHl .u8 x0)< ((YHk #[0,1,2,2,3,3,3,3,4,4,4,4,4,4,4,4,5,5,5,5,5,5,5,5,5,5,5,5,5,5,5,5,6,6,6,6,6,6,6,6,6,6,6,6,6,6,6,6,6,6,6,6,6,6,6,6,6,6,6,6,6,6,6,6,7,7,7,7,7,7,7,7,7,7,7,7,7,7,7,7,7,7,7,7,7,7,7,7,7,7,7,7,7,7,7,7,7,7,7,7,7,7,7,7,7,7,7,7,7,7,7,7,7,7,7,7,7,7,7,7,7,7,7,7,7,7,7,7,8,8,8,8,8,8,8,8,8,8,8,8,8,8,8,8,8,8,8,8,8,8,8,8,8,8,8,8,8,8,8,8,8,8,8,8,8,8,8,8,8,8,8,8,8,8,8,8,8,8,8,8,8,8,8,8,8,8,8,8,8,8,8,8,8,8,8,8,8,8,8,8,8,8,8,8,8,8,8,8,8,8,8,8,8,8,8,8,8,8,8,8,8,8,8,8,8,8,8,8,8,8,8,8,8,8,8,8,8,8,8,8,8,8,8,8,8,8,8,8,8,8,8,8,8,8,8,8]).size:Int)) (some (YHl .i64 (n2+(YHl .i64 (YBQ (YHk #[0,1,2,2,3,3,3,3,4,4,4,4,4,4,4,4,5,5,5,5,5,5,5,5,5,5,5,5,5,5,5,5,6,6,6,6,6,6,6,6,6,6,6,6,6,6,6,6,6,6,6,6,6,6,6,6,6,6,6,6,6,6,6,6,7,7,7,7,7,7,7,7,7,7,7,7,7,7,7,7,7,7,7,7,7,7,7,7,7,7,7,7,7,7,7,7,7,7,7,7,7,7,7,7,7,7,7,7,7,7,7,7,7,7,7,7,7,7,7,7,7,7,7,7,7,7,7,7,8,8,8,8,8,8,8,8,8,8,8,8,8,8,8,8,8,8,8,8,8,8,8,8,8,8,8,8,8,8,8,8,8,8,8,8,8,8,8,8,8,8,8,8,8,8,8,8,8,8,8,8,8,8,8,8,8,8,8,8,8,8,8,8,8,8,8,8,8,8,8,8,8,8,8,8,8,8,8,8,8,8,8,8,8,8,8,8,8,8,8,8,8,8,8,8,8,8,8,8,8,8,8,8,8,8,8,8,8,8,8,8,8,8,8,8,8,8,8,8,8,8,8,8,8,8,8,8]) (YHl .u8 x0)))))))
def Ywe(lo:Lo):LpE:=⟨9,[],(Zsg [0,2] [.i .u64,.j] []),[⟨.ret,(Zsg [2] [.j] [])⟩],YcS lo⟩
def Ywf(lo:Lo):LL:=(Ywe lo,q51_J9_b.er)::[]
theorem Ywg(lo:Lo):Lk lo pf (fs51 lo) 0 (Ywf lo):=.j .n
def q51(lo:Lo)(x0:Int):Option Int:=
  bif(decide (4294967296<=x0))then(chk (0<=(32:Int)) (bif(decide ((65536:Int)<=(x0.fdiv (2^(min (32:Int).toNat (IntKind.bits .u64))))))then(chk (0<=(16:Int)) (YG1 (YcS lo (((x0.fdiv (2^(min (32:Int).toNat (IntKind.bits .u64)))).fdiv (2^(min (16:Int).toNat (IntKind.bits .u64)))),(YHl .i64 ((32:Int)+(16:Int))))) fun y167=>some y167))else(YG1 (YcS lo ((x0.fdiv (2^(min (32:Int).toNat (IntKind.bits .u64)))),(32:Int))) fun y168=>some y168)))else(bif(decide (65536<=x0))then(chk (0<=(16:Int)) (YG1 (YcS lo ((x0.fdiv (2^(min (16:Int).toNat (IntKind.bits .u64)))),(YHl .i64 ((0:Int)+(16:Int))))) fun y169=>some y169))else(YG1 (YcS lo (x0,(0:Int))) fun y170=>some y170))
def Ywh:VFn:=⟨true,25,[.t 2],
 (Rg [oK 2 0]
 (.seq (Rg [oM 3 0,oR 4 .geq 3 (ki .u64 4294967296)]
 (.cond 4 (Rg [oM 5 0,oR 6 .shr 5 (ki .u64 32),oM 0 6]
 (.reg [oK 2 32]))
 .skip))
 (.seq (Rg [oM 7 0,oR 8 .geq 7 (ki .u64 65536)]
 (.cond 8 (Rg [oM 9 0,oR 10 .shr 9 (ki .u64 16),oM 0 10]
 (.reg [oM 11 2,oR 12 .add 11 (k 16),oM 2 12]))
 .skip))
 (.jn 9 q51_J9_b))))⟩
def Ymh(lo:Lo):FnE:=Zfe 187 true (Zsg [0] [.i .u64] []) (.i .i64) [] (fun x=>q51 lo x:Int->Option Int)
def fs52(lo:Lo):List FnE:=Ymh lo::fs51 lo
theorem Ywi(h:GZ P fm fs51 lo)(t:Ti P fm 187 Ywh):GZ P fm fs52 lo:=
  h.p (Ymh lo) (Ywg lo) t
def q52(lo:Lo)(x0:Int):Option Int:=
  YG1 (q51 lo x0) fun y171=>some y171
def Ywj:VFn:=⟨true,8,[.t 2],
 (Rg [oK 2 0]
 (.seq (.cond (kb false) (Rg [oM 3 0,o 4 (.conv .u32 3),oC 5 186 [4],oM 2 5]
 (Fr 2))
 .skip)
 (Rg [oM 6 0,oC 7 187 [6],oM 2 7]
 (Fr 2))))⟩
def Ymi(lo:Lo):FnE:=Zfe 163 true (Zsg [0] [.i .u64] []) (.i .i64) [] (fun x=>q52 lo x:Int->Option Int)
def fs53(lo:Lo):List FnE:=Ymi lo::fs52 lo
theorem Ywk(h:GZ P fm fs52 lo)(t:Ti P fm 163 Ywj):GZ P fm fs53 lo:=
  h.p (Ymi lo) .n t
def q53(lo:Lo)(x0:ByteArray):Option Bool:=
  some (!decide (x0=x0))
def Ywl:VFn:=⟨true,6,[.t 2],
 (Rg [oB 2 false]
 (Rg [oM 3 0,oM 4 0,oR 5 .neq 3 4,oM 2 5]
 (Fr 2)))⟩
def Ymj(lo:Lo):FnE:=Zfe 325 true (Zsg [0] [.s] []) .b [] (fun x=>q53 lo x:ByteArray->Option Bool)
def fs54(lo:Lo):List FnE:=Ymj lo::fs53 lo
theorem Ywm(h:GZ P fm fs53 lo)(t:Ti P fm 325 Ywl):GZ P fm fs54 lo:=
  h.p (Ymj lo) .n t
def q54(lo:Lo)(x0:ByteArray)(y1:ByteArray):Option Bool:=
  YG1 (q53 lo x0) fun y173=>bif y173 then(YG1 (q53 lo y1) fun y174=>bif(!y174)then(some true)else(some (Op.bytesLess x0.toList y1.toList)))else(some (Op.bytesLess x0.toList y1.toList))
def Ywn:VFn:=⟨true,17,[.t 4],
 (Rg [oB 4 false]
 (Rg [oM 5 0,oC 6 325 [5],oM 7 6,gT 8 7 (.mv 1),gT 9 7 (.call 325 [8]),gT 10 7 (.not 9),oP 11 7 10 (kb false),oM 12 11,gF 13 12 (.mv 0),gF 14 12 (.mv 1),gF 15 12 (.bin .lss 13 14),oP 16 12 (kb true) 15,oM 4 16]
 (Fr 4)))⟩
def Ymk(lo:Lo):FnE:=Zfe 317 true (Zsg [0,1] [.s,.s] []) .b [] (fun x=>q54 lo x.1 x.2:ByteArray×ByteArray->Option Bool)
def fs55(lo:Lo):List FnE:=Ymk lo::fs54 lo
theorem Ywo(h:GZ P fm fs54 lo)(t:Ti P fm 317 Ywn):GZ P fm fs55 lo:=
  h.p (Ymk lo) .n t
def q55_L3_b:VCode:=
 (.seq (Rg [oM 16 7,oM 17 1,oR 18 .gtr 16 17,oM 19 18,gT 20 19 (.mv 0),gT 21 19 (.mv 7),gT 22 19 (.iad 1 20 21),gT 23 19 (.load false 1 22),gT 24 19 (.mv 0),gT 25 19 (.mv 7),gT 26 19 (.bin .sub 25 (k 1)),gT 27 19 (.iad 1 24 26),gT 28 19 (.load false 1 27),gT 29 19 (.call 317 [23,28]),oP 30 19 29 (kb false)]
 (Ce 30 2))
 (.seq (.blk 3 (.reg [oM 33 0,oM 34 7,oM 35 0,oM 36 7,oR 37 .sub 36 (k 1),oM 38 0,oM 39 7,oR 40 .sub 39 (k 1),oI 41 1 38 40,oL 42 41,oM 43 0,oM 44 7,oI 45 1 43 44,oL 46 45,oI 47 1 33 34,oS 1 47 42,oI 48 1 35 37,oS 1 48 46]))
 (.reg [oM 31 7,oR 32 .sub 31 (k 1),oM 7 32])))
def Yml(lo:Lo):Int×Int×Int×Int×Zt3->Option ((Int×Int×Int×Int×Zt3)⊕ ((Int×Int×Int×Zt3))):=fun x=>match x with
  | (a1,b2,i6,j7,data0)=>bif(decide (a1<j7))then(chk (0<=j7/\j7< (data0.length:Int)) (chk (0<=(YHl .i64 (j7-1))/\ (YHl .i64 (j7-1))< (data0.length:Int)) (YG1 (q54 lo (data0.getD j7.toNat (YHk #[])) (data0.getD ((YHl .i64 (j7-1)).toNat) (YHk #[]))) fun y175=>bif y175 then(chk (0<=(YHl .i64 (j7-1))/\ (YHl .i64 (j7-1))< (data0.length:Int)) (chk (0<=j7/\j7< (data0.length:Int)) (chk (0<=j7/\j7< (data0.length:Int)) (chk (0<=(YHl .i64 (j7-1))/\ (YHl .i64 (j7-1))< ((data0.set j7.toNat (data0.getD ((YHl .i64 (j7-1)).toNat) (YHk #[]))).length:Int)) (some (.inl (a1,b2,i6,(YHl .i64 (j7-1)),((data0.set j7.toNat (data0.getD ((YHl .i64 (j7-1)).toNat) (YHk #[]))).set ((YHl .i64 (j7-1)).toNat) (data0.getD j7.toNat (YHk #[]))))))))))else(some (.inr (a1,b2,i6,data0))))))else(some (.inr (a1,b2,i6,data0)))
def Ymm(lo:Lo):Int×Int×Int×Int×Zt3->Option ((Int×Int×Int×Zt3)):=lo.run (Yml lo)
def Ywp(lo:Lo):LpE:=⟨3,[],(Zsg [0,1,2,6,7] [.ref 0,.j,.j,.j,.j] [.sq (cs [.s])]),[⟨.exit 2,(Zsg [0,1,2,6] [.ref 0,.j,.j,.j] [.sq (cs [.s])])⟩],Ymm lo⟩
def Ymn(lo:Lo):LL:=(Ywp lo,.loop q55_L3_b.er)::[]
theorem Ywq(lo:Lo):Lk lo pf (fs55 lo) 1 (Ymn lo):=.l .n (Yml lo)
def q55_L1_b:VCode:=
 (.seq (Rg [oM 10 6,oM 11 2,oR 12 .lss 10 11]
 (Ce 12 0))
 (.seq (.blk 1 (Rg [oM 15 6,oM 7 15]
 (.blk 2 (.loop 3 q55_L3_b))))
 (.reg [oM 13 6,oR 14 .add 13 (k 1),oM 6 14])))
def Ymo(lo:Lo):Int×Int×Int×Zt3->Option ((Int×Int×Int×Zt3)⊕ ((Zt3))):=fun x=>match x with
  | (a1,b2,i6,data0)=>bif(decide (i6<b2))then(YG1 (Ymm lo (a1,b2,i6,i6,data0)) fun y176=>some (.inl (y176.1,y176.2.1,(YHl .i64 (y176.2.2.1+(1:Int))),y176.2.2.2)))else(some (.inr data0))
def Ymp(lo:Lo):Int×Int×Int×Zt3->Option ((Zt3)):=lo.run (Ymo lo)
def Ywr(lo:Lo):LpE:=⟨1,[],(Zsg [0,1,2,6] [.ref 0,.j,.j,.j] [.sq (cs [.s])]),[⟨.exit 0,(Zsg [] [] [.sq (cs [.s])])⟩],Ymp lo⟩
def Yws(lo:Lo):LL:=(Ywr lo,.loop q55_L1_b.er)::Ymn lo
theorem Ywt(lo:Lo):Lk lo pf (fs55 lo) 1 (Yws lo):=.l (Ywq lo) (Ymo lo)
def q55(lo:Lo)(a1:Int)(b2:Int)(data0:List ByteArray):Option (Zt3):=
  YG1 (Ymp lo (a1,b2,(YHl .i64 (a1+1)),data0)) fun y177=>some y177
def Ywu:VFn:=⟨true,49,[],
 (Rg [oM 8 1,oR 9 .add 8 (k 1),oM 6 9]
 (.blk 0 (.loop 1 q55_L1_b)))⟩
def Ymq(lo:Lo):FnE:=Zfe 311 false (Zsg [0,1,2] [.ref 0,.j,.j] [.sq (cs [.s])]) (.tp []) [.sq (cs [.s])] (fun x=>q55 lo x.1 x.2.1 x.2.2:Int×Int×Zt3->Option (Zt3))
def fs56(lo:Lo):List FnE:=Ymq lo::fs55 lo
theorem Ywv(h:GZ P fm fs55 lo)(t:Ti P fm 311 Ywu):GZ P fm fs56 lo:=
  h.i (Ymq lo) (Ywt lo) t
def q56(lo:Lo)(x0:Int)(x1:Int)(x2:List ByteArray):Option (Zt3):=none
def Ymr(lo:Lo):FnE:=Zfe 312 false (Zsg [0,1,2] [.ref 0,.j,.j] [.sq (cs [.s])]) (.tp []) [.sq (cs [.s])] (fun x=>q56 lo x.1 x.2.1 x.2.2:Int×Int×Zt3->Option (Zt3))
def fs57(lo:Lo):List FnE:=Ymr lo::fs56 lo
theorem Yww(h:GZ P fm fs56 lo)(hN:True):GZ P fm fs57 lo:=
  ⟨h.1,h.2,YbH h.S (Ymr lo) (fun _=>rfl)⟩
def q57(lo:Lo)(x0:Int)(x1:Int)(x2:List ByteArray):Option (Zt3):=none
def Yms(lo:Lo):FnE:=Zfe 313 false (Zsg [0,1,2] [.ref 0,.j,.j] [.sq (cs [.s])]) (.tp []) [.sq (cs [.s])] (fun x=>q57 lo x.1 x.2.1 x.2.2:Int×Int×Zt3->Option (Zt3))
def fs58(lo:Lo):List FnE:=Yms lo::fs57 lo
theorem Ywx(h:GZ P fm fs57 lo)(hN:True):GZ P fm fs58 lo:=
  ⟨h.1,h.2,YbH h.S (Yms lo) (fun _=>rfl)⟩
def q58(lo:Lo)(x0:List ByteArray)(x1:Int)(x2:Int):Option (Int×Int):=none
def Ymt(lo:Lo):FnE:=Zfe 314 true (Zsg [0,1,2] [.l (cs [.s]),.j,.j] []) (.tp [.j,.j]) [] (fun x=>q58 lo x.1 x.2.1 x.2.2:Zt3×Int×Int->Option (Int×Int))
def fs59(lo:Lo):List FnE:=Ymt lo::fs58 lo
theorem Ywy(h:GZ P fm fs58 lo)(hN:True):GZ P fm fs59 lo:=
  ⟨h.1,h.2,YbH h.S (Ymt lo) (fun _=>rfl)⟩
def q59(lo:Lo)(x0:Int)(x1:Int)(x2:List ByteArray):Option (Zt3):=none
def Ymu(lo:Lo):FnE:=Zfe 315 false (Zsg [0,1,2] [.ref 0,.j,.j] [.sq (cs [.s])]) (.tp []) [.sq (cs [.s])] (fun x=>q59 lo x.1 x.2.1 x.2.2:Int×Int×Zt3->Option (Zt3))
def fs60(lo:Lo):List FnE:=Ymu lo::fs59 lo
theorem Ywz(h:GZ P fm fs59 lo)(hN:True):GZ P fm fs60 lo:=
  ⟨h.1,h.2,YbH h.S (Ymu lo) (fun _=>rfl)⟩
def q60(lo:Lo)(x0:Int)(x1:Int)(x2:List ByteArray):Option (Bool×Zt3):=none
def Ymv(lo:Lo):FnE:=Zfe 316 false (Zsg [0,1,2] [.ref 0,.j,.j] [.sq (cs [.s])]) .b [.sq (cs [.s])] (fun x=>q60 lo x.1 x.2.1 x.2.2:Int×Int×Zt3->Option (Bool×Zt3))
def fs61(lo:Lo):List FnE:=Ymv lo::fs60 lo
theorem YwA(h:GZ P fm fs60 lo)(hN:True):GZ P fm fs61 lo:=
  ⟨h.1,h.2,YbH h.S (Ymv lo) (fun _=>rfl)⟩
def q61(lo:Lo)(x0:Int)(x1:Int)(x2:Int)(x3:List ByteArray):Option (Int×Zt3):=none
def Ymw(lo:Lo):FnE:=Zfe 318 false (Zsg [0,1,2,3] [.ref 0,.j,.j,.j] [.sq (cs [.s])]) (.i .i64) [.sq (cs [.s])] (fun x=>q61 lo x.1 x.2.1 x.2.2.1 x.2.2.2:Int×Int×Int×Zt3->Option (Int×Zt3))
def fs62(lo:Lo):List FnE:=Ymw lo::fs61 lo
theorem YwB(h:GZ P fm fs61 lo)(hN:True):GZ P fm fs62 lo:=
  ⟨h.1,h.2,YbH h.S (Ymw lo) (fun _=>rfl)⟩
def q62(lo:Lo)(x0:Int)(x1:Int)(x2:Int)(x3:List ByteArray):Option (Int×Bool×Zt3):=none
def Ymx(lo:Lo):FnE:=Zfe 319 false (Zsg [0,1,2,3] [.ref 0,.j,.j,.j] [.sq (cs [.s])]) (.tp [.j,.b]) [.sq (cs [.s])] (fun x=>q62 lo x.1 x.2.1 x.2.2.1 x.2.2.2:Int×Int×Int×Zt3->Option (Int×Bool×Zt3))
def fs63(lo:Lo):List FnE:=Ymx lo::fs62 lo
theorem YwC(h:GZ P fm fs62 lo)(hN:True):GZ P fm fs63 lo:=
  ⟨h.1,h.2,YbH h.S (Ymx lo) (fun _=>rfl)⟩
end Go.Abs.G47
namespace Go.Abs.G47
open Go Go.Abs
set_option maxRecDepth 100000
set_option maxHeartbeats 1000000
variable{P:Program}{fm:FM}{lo:Lo}
def YcT(F:Int×Int×Int×Zt3->Option (Zt3)):FnE:=⟨301,false,(Zsg [0,1,2,3] [.ref 0,.j,.j,.j] [.sq (cs [.s])]),.tp [],[.sq (cs [.s])],(cs [.l (cs [.s])]),F⟩
def q63_J20_b:VCode:=
 (.seq (Rg [oM 73 1,oR 74 .gtr 73 (k 0),oM 75 74,gT 76 75 (.mv 0),gT 77 75 (.mv 1),gT 78 75 (.bin .sub 77 (k 1)),gT 79 75 (.iad 1 76 78),gT 80 75 (.load false 1 79),gT 81 75 (.mv 0),gT 82 75 (.mv 11),gT 83 75 (.iad 1 81 82),gT 84 75 (.load false 1 83),gT 85 75 (.call 317 [80,84]),gT 86 75 (.not 85),oP 87 75 86 (kb false)]
 (.cond 87 (Rg [oM 88 0,oM 89 1,oM 90 2,oM 91 11,oC 92 318 [88,89,90,91],oM 13 92]
 (Rg [oM 93 13,oM 1 93]
 (.exit 1)))
 .skip))
 (Rg [oM 95 0,oM 96 1,oM 97 2,oM 98 11,oC 99 319 [95,96,97,98],oM 94 99,oE 100 94 0,oE 101 94 1,oM 14 100,oM 15 101]
 (Rg [oM 102 15,oM 9 102]
 (Rg [oM 103 14,oM 104 1,oR 105 .sub 103 104,oM 106 2,oM 107 14,oR 108 .sub 106 107,oM 16 105,oM 17 108]
 (Rg [oM 109 10,oR 110 .quo 109 (k 8),oM 18 110]
 (Rg [oM 111 16,oM 112 17,oR 113 .lss 111 112]
 (.cond 113 (Rg [oM 114 16,oM 115 18,oR 116 .geq 114 115,oM 8 116]
 (Rg [oM 117 0,oM 118 1,oM 119 14,oM 120 3,oC 121 301 [117,118,119,120]]
 (.reg [oM 122 14,oR 123 .add 122 (k 1),oM 1 123])))
 (Rg [oM 124 17,oM 125 18,oR 126 .geq 124 125,oM 8 126]
 (Rg [oM 127 0,oM 128 14,oR 129 .add 128 (k 1),oM 130 2,oM 131 3,oC 132 301 [127,129,130,131]]
 (.reg [oM 133 14,oM 2 133]))))))))))
def YcU(lo:Lo)(rec:Int×Int×Int×Zt3->Option (Zt3)):Int×Int×Int×Bool×Bool×Int×Int×Zt3->Option (Zp60⊕Zp60):=fun x=>match x with
  | (a1,b2,limit3,wasBalanced8,wasPartitioned9,length10,pivot11,data0)=>bif(decide (0<a1))then(chk (0<=(YHl .i64 (a1-1))/\ (YHl .i64 (a1-1))< (data0.length:Int)) (chk (0<=pivot11/\pivot11< (data0.length:Int)) (YG1 (q54 lo (data0.getD ((YHl .i64 (a1-1)).toNat) (YHk #[])) (data0.getD pivot11.toNat (YHk #[]))) fun y184=>bif(!y184)then(YG1 (q61 lo a1 b2 pivot11 data0) fun y185=>chk (y185.2.length=data0.length) (some (.inl (y185.1,b2,limit3,wasBalanced8,wasPartitioned9,y185.2))))else(YG1 (q62 lo a1 b2 pivot11 data0) fun y186=>chk (y186.2.2.length=data0.length) (chk ((8:Int)≠0) (bif(decide ((YHl .i64 (y186.1-a1))< (YHl .i64 (b2-y186.1))))then(YG1 (rec (a1,y186.1,limit3,y186.2.2)) fun y187=>chk (y187.length=y186.2.2.length) (some (.inr ((YHl .i64 (y186.1+(1:Int))),b2,limit3,(decide ((YHl .i64 (length10.tdiv (8:Int)))<=(YHl .i64 (y186.1-a1)))),y186.2.1,y187))))else(YG1 (rec ((YHl .i64 (y186.1+(1:Int))),b2,limit3,y186.2.2)) fun y188=>chk (y188.length=y186.2.2.length) (some (.inr (a1,y186.1,limit3,(decide ((YHl .i64 (length10.tdiv (8:Int)))<=(YHl .i64 (b2-y186.1)))),y186.2.1,y188))))))))))else(YG1 (q62 lo a1 b2 pivot11 data0) fun y189=>chk (y189.2.2.length=data0.length) (chk ((8:Int)≠0) (bif(decide ((YHl .i64 (y189.1-a1))< (YHl .i64 (b2-y189.1))))then(YG1 (rec (a1,y189.1,limit3,y189.2.2)) fun y190=>chk (y190.length=y189.2.2.length) (some (.inr ((YHl .i64 (y189.1+(1:Int))),b2,limit3,(decide ((YHl .i64 (length10.tdiv (8:Int)))<=(YHl .i64 (y189.1-a1)))),y189.2.1,y190))))else(YG1 (rec ((YHl .i64 (y189.1+(1:Int))),b2,limit3,y189.2.2)) fun y191=>chk (y191.length=y189.2.2.length) (some (.inr (a1,y189.1,limit3,(decide ((YHl .i64 (length10.tdiv (8:Int)))<=(YHl .i64 (b2-y189.1)))),y189.2.1,y191)))))))
def YwD(lo:Lo)(rec:Int×Int×Int×Zt3->Option (Zt3)):LpE:=⟨20,[],(Zsg [0,1,2,3,8,9,10,11] [.ref 0,.j,.j,.j,.b,.b,.j,.j] [.sq (cs [.s])]),[⟨.exit 1,(Zsg [0,1,2,3,8,9] [.ref 0,.j,.j,.j,.b,.b] [.sq (cs [.s])])⟩,⟨.nor,(Zsg [0,1,2,3,8,9] [.ref 0,.j,.j,.j,.b,.b] [.sq (cs [.s])])⟩],YcU lo rec⟩
def Ymy(lo:Lo)(rec:Int×Int×Int×Zt3->Option (Zt3)):LL:=(YwD lo rec,q63_J20_b.er)::[]
theorem YwE(lo:Lo)(rec:Int×Int×Int×Zt3->Option (Zt3)):Lk lo pf (YcT rec::fs63 lo) 1 (Ymy lo rec):=.j .n
def q63_J25_b:VCode:=
 (.seq (Rg [oM 61 8,oM 62 61,gT 63 62 (.mv 9),oP 64 62 63 (kb false),oM 65 64,gT 66 65 (.mv 12),gT 67 65 (.bin .eql 66 (k 1)),oP 68 65 67 (kb false)]
 (.cond 68 (Rg [oM 69 0,oM 70 1,oM 71 2,oC 72 316 [69,70,71]]
 (.cond 72 .ret
 .skip))
 .skip))
 (.jn 20 q63_J20_b))
def YgN(lo:Lo)(rec:Int×Int×Int×Zt3->Option (Zt3)):Int×Int×Int×Bool×Bool×Int×Int×Int×Zt3->Option ((Zt3)⊕Zp60⊕Zp60):=fun x=>match x with
  | (a1,b2,limit3,wasBalanced8,wasPartitioned9,length10,pivot11,hint12,data0)=>bif wasBalanced8 then(bif wasPartitioned9 then(bif(decide (hint12=1))then(YG1 (q60 lo a1 b2 data0) fun y183=>chk (y183.2.length=data0.length) (bif y183.1 then(some (.inl y183.2))else(YG1 (YcU lo rec (a1,b2,limit3,wasBalanced8,wasPartitioned9,length10,pivot11,y183.2)) fun y192=>alt2 y192 (fun y193=>some (.inr (.inl (y193.1,y193.2.1,y193.2.2.1,y193.2.2.2.1,y193.2.2.2.2.1,y193.2.2.2.2.2)))) (fun y194=>some (.inr (.inr (y194.1,y194.2.1,y194.2.2.1,y194.2.2.2.1,y194.2.2.2.2.1,y194.2.2.2.2.2)))))))else(YG1 (YcU lo rec (a1,b2,limit3,wasBalanced8,wasPartitioned9,length10,pivot11,data0)) fun y195=>alt2 y195 (fun y196=>some (.inr (.inl (y196.1,y196.2.1,y196.2.2.1,y196.2.2.2.1,y196.2.2.2.2.1,y196.2.2.2.2.2)))) (fun y197=>some (.inr (.inr (y197.1,y197.2.1,y197.2.2.1,y197.2.2.2.1,y197.2.2.2.2.1,y197.2.2.2.2.2))))))else(YG1 (YcU lo rec (a1,b2,limit3,wasBalanced8,wasPartitioned9,length10,pivot11,data0)) fun y198=>alt2 y198 (fun y199=>some (.inr (.inl (y199.1,y199.2.1,y199.2.2.1,y199.2.2.2.1,y199.2.2.2.2.1,y199.2.2.2.2.2)))) (fun y200=>some (.inr (.inr (y200.1,y200.2.1,y200.2.2.1,y200.2.2.2.1,y200.2.2.2.2.1,y200.2.2.2.2.2))))))else(YG1 (YcU lo rec (a1,b2,limit3,wasBalanced8,wasPartitioned9,length10,pivot11,data0)) fun y201=>alt2 y201 (fun y202=>some (.inr (.inl (y202.1,y202.2.1,y202.2.2.1,y202.2.2.2.1,y202.2.2.2.2.1,y202.2.2.2.2.2)))) (fun y203=>some (.inr (.inr (y203.1,y203.2.1,y203.2.2.1,y203.2.2.2.1,y203.2.2.2.2.1,y203.2.2.2.2.2)))))
def YwF(lo:Lo)(rec:Int×Int×Int×Zt3->Option (Zt3)):LpE:=⟨25,[],(Zsg [0,1,2,3,8,9,10,11,12] [.ref 0,.j,.j,.j,.b,.b,.j,.j,.j] [.sq (cs [.s])]),[⟨.ret,(Zsg [] [] [.sq (cs [.s])])⟩,⟨.exit 1,(Zsg [0,1,2,3,8,9] [.ref 0,.j,.j,.j,.b,.b] [.sq (cs [.s])])⟩,⟨.nor,(Zsg [0,1,2,3,8,9] [.ref 0,.j,.j,.j,.b,.b] [.sq (cs [.s])])⟩],YgN lo rec⟩
def Ymz(lo:Lo)(rec:Int×Int×Int×Zt3->Option (Zt3)):LL:=(YwF lo rec,q63_J25_b.er)::Ymy lo rec
theorem YwG(lo:Lo)(rec:Int×Int×Int×Zt3->Option (Zt3)):Lk lo pf (YcT rec::fs63 lo) 1 (Ymz lo rec):=.j (YwE lo rec)
def q63_J30_b:VCode:=
 (Rg [oM 43 0,oM 44 1,oM 45 2,oC 46 314 [43,44,45],oM 42 46,oE 47 42 0,oE 48 42 1,oM 11 47,oM 12 48]
 (.seq (Rg [oM 49 12,oR 50 .eql 49 (k 2)]
 (.cond 50 (Rg [oM 51 0,oM 52 1,oM 53 2,oC 54 315 [51,52,53]]
 (Rg [oM 55 2,oR 56 .sub 55 (k 1),oM 57 11,oM 58 1,oR 59 .sub 57 58,oR 60 .sub 56 59,oM 11 60]
 (.reg [oK 12 1])))
 .skip))
 (.jn 25 q63_J25_b)))
def YgO(lo:Lo)(rec:Int×Int×Int×Zt3->Option (Zt3)):Int×Int×Int×Bool×Bool×Int×Zt3->Option ((Zt3)⊕Zp60⊕Zp60):=fun x=>match x with
  | (a1,b2,limit3,wasBalanced8,wasPartitioned9,length10,data0)=>YG1 (q58 lo data0 a1 b2) fun y181=>bif(decide (y181.2=(2:Int)))then(YG1 (q59 lo a1 b2 data0) fun y182=>chk (y182.length=data0.length) (YG1 (YgN lo rec (a1,b2,limit3,wasBalanced8,wasPartitioned9,length10,(YHl .i64 ((YHl .i64 (b2-1))-(YHl .i64 (y181.1-a1)))),(1:Int),y182)) fun y204=>alt2 y204 (fun y205=>some (.inl y205)) (fun y206=>alt2 y206 (fun y207=>some (.inr (.inl (y207.1,y207.2.1,y207.2.2.1,y207.2.2.2.1,y207.2.2.2.2.1,y207.2.2.2.2.2)))) (fun y208=>some (.inr (.inr (y208.1,y208.2.1,y208.2.2.1,y208.2.2.2.1,y208.2.2.2.2.1,y208.2.2.2.2.2)))))))else(YG1 (YgN lo rec (a1,b2,limit3,wasBalanced8,wasPartitioned9,length10,y181.1,y181.2,data0)) fun y209=>alt2 y209 (fun y210=>some (.inl y210)) (fun y211=>alt2 y211 (fun y212=>some (.inr (.inl (y212.1,y212.2.1,y212.2.2.1,y212.2.2.2.1,y212.2.2.2.2.1,y212.2.2.2.2.2)))) (fun y213=>some (.inr (.inr (y213.1,y213.2.1,y213.2.2.1,y213.2.2.2.1,y213.2.2.2.2.1,y213.2.2.2.2.2))))))
def YwH(lo:Lo)(rec:Int×Int×Int×Zt3->Option (Zt3)):LpE:=⟨30,[],(Zsg [0,1,2,3,8,9,10] [.ref 0,.j,.j,.j,.b,.b,.j] [.sq (cs [.s])]),[⟨.ret,(Zsg [] [] [.sq (cs [.s])])⟩,⟨.exit 1,(Zsg [0,1,2,3,8,9] [.ref 0,.j,.j,.j,.b,.b] [.sq (cs [.s])])⟩,⟨.nor,(Zsg [0,1,2,3,8,9] [.ref 0,.j,.j,.j,.b,.b] [.sq (cs [.s])])⟩],YgO lo rec⟩
def YmA(lo:Lo)(rec:Int×Int×Int×Zt3->Option (Zt3)):LL:=(YwH lo rec,q63_J30_b.er)::Ymz lo rec
theorem YwI(lo:Lo)(rec:Int×Int×Int×Zt3->Option (Zt3)):Lk lo pf (YcT rec::fs63 lo) 1 (YmA lo rec):=.j (YwG lo rec)
def q63_L1_b:VCode:=
 (.blk 1 (Rg [oM 19 2,oM 20 1,oR 21 .sub 19 20,oM 10 21]
 (.seq (Rg [oM 22 10,oR 23 .leq 22 (k 12)]
 (.cond 23 (Rg [oM 24 0,oM 25 1,oM 26 2,oC 27 311 [24,25,26]]
 .ret)
 .skip))
 (.seq (Rg [oM 28 3,oR 29 .eql 28 (k 0)]
 (.cond 29 (Rg [oM 30 0,oM 31 1,oM 32 2,oC 33 312 [30,31,32]]
 .ret)
 .skip))
 (.seq (Rg [oM 34 8,oX 35 34]
 (.cond 35 (Rg [oM 36 0,oM 37 1,oM 38 2,oC 39 313 [36,37,38]]
 (.reg [oM 40 3,oR 41 .sub 40 (k 1),oM 3 41]))
 .skip))
 (.jn 30 q63_J30_b))))))
def YmB(lo:Lo)(rec:Int×Int×Int×Zt3->Option (Zt3)):Zp60->Option (Zp60⊕ ((Zt3))):=fun x=>match x with
  | (a1,b2,limit3,wasBalanced8,wasPartitioned9,data0)=>bif(decide ((YHl .i64 (b2-a1))<=(12:Int)))then(YG1 (q55 lo a1 b2 data0) fun y178=>chk (y178.length=data0.length) (some (.inr y178)))else(bif(decide (limit3=0))then(YG1 (q56 lo a1 b2 data0) fun y179=>chk (y179.length=data0.length) (some (.inr y179)))else(bif(!wasBalanced8)then(YG1 (q57 lo a1 b2 data0) fun y180=>chk (y180.length=data0.length) (YG1 (YgO lo rec (a1,b2,(YHl .i64 (limit3-1)),wasBalanced8,wasPartitioned9,(YHl .i64 (b2-a1)),y180)) fun y214=>alt2 y214 (fun y215=>some (.inr y215)) (fun y216=>alt2 y216 (fun y217=>some (.inl (y217.1,y217.2.1,y217.2.2.1,y217.2.2.2.1,y217.2.2.2.2.1,y217.2.2.2.2.2))) (fun y218=>some (.inl (y218.1,y218.2.1,y218.2.2.1,y218.2.2.2.1,y218.2.2.2.2.1,y218.2.2.2.2.2))))))else(YG1 (YgO lo rec (a1,b2,limit3,wasBalanced8,wasPartitioned9,(YHl .i64 (b2-a1)),data0)) fun y219=>alt2 y219 (fun y220=>some (.inr y220)) (fun y221=>alt2 y221 (fun y222=>some (.inl (y222.1,y222.2.1,y222.2.2.1,y222.2.2.2.1,y222.2.2.2.2.1,y222.2.2.2.2.2))) (fun y223=>some (.inl (y223.1,y223.2.1,y223.2.2.1,y223.2.2.2.1,y223.2.2.2.2.1,y223.2.2.2.2.2)))))))
def YmC(lo:Lo)(rec:Int×Int×Int×Zt3->Option (Zt3)):Zp60->Option ((Zt3)):=lo.run (YmB lo rec)
def YwJ(lo:Lo)(rec:Int×Int×Int×Zt3->Option (Zt3)):LpE:=⟨1,[],(Zsg [0,1,2,3,8,9] [.ref 0,.j,.j,.j,.b,.b] [.sq (cs [.s])]),[⟨.ret,(Zsg [] [] [.sq (cs [.s])])⟩],YmC lo rec⟩
def YmD(lo:Lo)(rec:Int×Int×Int×Zt3->Option (Zt3)):LL:=(YwJ lo rec,.loop q63_L1_b.er)::YmA lo rec
theorem YwK(lo:Lo)(rec:Int×Int×Int×Zt3->Option (Zt3)):Lk lo pf (YcT rec::fs63 lo) 1 (YmD lo rec):=.l (YwI lo rec) (YmB lo rec)
def YwL(lo:Lo)(rec:Int×Int×Int×Zt3->Option (Zt3))(a1:Int)(b2:Int)(limit3:Int)(data0:List ByteArray):Option (Zt3):=
  YG1 (YmC lo rec (a1,b2,limit3,true,true,data0)) fun y224=>some y224
def YgP(lo:Lo):Nat->Int×Int×Int×Zt3->Option (Zt3)
  |0,_=>none
  |n+1,x=>YwL lo (YgP lo n) x.1 x.2.1 x.2.2.1 x.2.2.2
def q63(lo:Lo)(a1:Int)(b2:Int)(limit3:Int)(data0:List ByteArray):Option (Zt3):=lo.run (fixS (YgP lo)) (0,(a1,b2,limit3,data0))
def YwM:VFn:=⟨true,134,[],
 (Rg [oB 8 true]
 (Rg [oB 9 true]
 (.blk 0 (.loop 1 q63_L1_b))))⟩
def YmE(lo:Lo):FnE:=YcT (fun x=>q63 lo x.1 x.2.1 x.2.2.1 x.2.2.2)
def fs64(lo:Lo):List FnE:=YmE lo::fs63 lo
theorem YwN(h:GZ P fm fs63 lo)(t:Ti P fm 301 YwM):GZ P fm fs64 lo:=
  h.ir (YmE lo) (YgP lo) (ls:=fun rec=>YmD lo rec) (fun rec=>(YwK lo rec)) t (by kernel_rfl) (fun _=>rfl) rfl (fun _=>by kernel_rfl) fun n x=>by kernel_rfl
def q64(lo:Lo)(x0:List ByteArray):Option (Zt3):=
  YG1 (q52 lo (YHl .u64 (x0.length:Int))) fun y172=>YG1 (q63 lo (0:Int) (x0.length:Int) y172 x0) fun y225=>chk (y225.length=x0.length) (some y225)
def YwO:VFn:=⟨true,11,[],
 (Rg [oM 3 0,oN 4 3,oM 2 4]
 (.reg [oM 5 0,oM 6 2,oM 7 2,o 8 (.conv .u64 7),oC 9 163 [8],oC 10 301 [5,(k 0),6,9]]))⟩
def YmF(lo:Lo):FnE:=Zfe 271 false (Zsg [0] [.ref 0] [.sq (cs [.s])]) (.tp []) [.sq (cs [.s])] (fun x=>q64 lo x:Zt3->Option (Zt3))
def fs65(lo:Lo):List FnE:=YmF lo::fs64 lo
theorem YwP(h:GZ P fm fs64 lo)(t:Ti P fm 271 YwO):GZ P fm fs65 lo:=
  h.i (YmF lo) .n t
def q65(lo:Lo)(l:List ByteArray):Option Zt3:=YDK (q64 lo) l
def YwQ(lo:Lo):FnE:=vsortE 271 (.cons (.s) .nil) (q65 lo)
def fs66(lo:Lo):List FnE:=YwQ lo::fs65 lo
theorem YwR(h:GZ P fm fs65 lo)(hG: ∀f,fm f=271->YBT P f=true/\ ∃ρ:Go.Shelf.Ren,Go.Proofs.Lays.n190 P ρ/\ρ.f 190=f):GZ P fm fs66 lo:=
  ⟨h.1,h.2,Ytd h.S rfl (F0:=q64 lo) (YGo ..) hG⟩
def q66_L3_b:VCode:=
 (Rg [oR 46 .lss 45 44]
 (.seq (Ce 46 2)
 (.seq (.blk 3 (Rg [oI 47 1 43 45,oL 48 47,oM 13 48]
 (.reg [oM 49 11,oL 50 7,oM 51 13,o 52 (.mget none (.l Zc10) (cs []) false false 50 51),o 53 (.bsl Zc22 1 [(0,52)]),o 54 (.app Zc22 0 49 53),oM 11 54])))
 (.reg [oR 55 .add 45 (k 1),oM 45 55]))))
def Yeo(lo:Lo):Zp56->Option (Zp56⊕ ((Zt21))):=fun x=>match x with
  | (v44,v45,out11,v43,h3_0,h3_1,h3_2)=>bif(decide (v45<v44))then(chk (0<=v45/\v45< (v43.length:Int)) (chk (out11.length+([(mgt eqS (v43.getD v45.toNat (YHk #[])) h3_1 [])]).length<=maxEl) (some (.inl (v44,(YHl .i64 (v45+1)),(out11++([(mgt eqS (v43.getD v45.toNat (YHk #[])) h3_1 [])])),v43,h3_0,h3_1,h3_2)))))else(some (.inr out11))
def YgQ(lo:Lo):Zp56->Option ((Zt21)):=lo.run (Yeo lo)
def YwS(lo:Lo):LpE:=⟨3,[(11,none,false)],(Zsg [7,11,43,44,45] [.ptr 0 0 0,.ref 1,.ref 2,.j,.j] [.st [.np 3],.sq Zc22,.sq (cs [.s]),.st [.j,.l Zc16,.b]]),[⟨.exit 2,(Zsg [11] [.ref 0] [.sq Zc22])⟩],YgQ lo⟩
def YmG(lo:Lo):LL:=(YwS lo,.loop q66_L3_b.er)::[]
theorem YwT(lo:Lo):Lk lo pf (fs66 lo) 0 (YmG lo):=.l .n (Yeo lo)
def YmH:VCode:=
 (.reg [oL 31 7,o 32 (.mrng 31)])
def YmI:VCode:=
 (.blk 1 (Rg [o 35 (.ment none (.l Zc10) (cs []) false 32),oE 36 35 0,oM 10 36]
 (.reg [oM 37 9,oM 38 10,o 39 (.bsl (cs [.s]) 1 [(0,38)]),o 40 (.app (cs [.s]) 0 37 39),oM 9 40])))
def YmJ:VCode:=
 (Rg [oM 41 9,oC 42 271 [41]]
 (Rg [o 11 (.mv (ke Zc22))]
 (.seq (Rg [oM 43 9,oN 44 43,oK 45 0]
 (.blk 2 (.loop 3 q66_L3_b)))
 (Rg [oM 56 11,oM 4 56,oK 5 0]
 (.fz [4,5] .ret)))))
def q66_J18_b:VCode:=.seq (.seq YmH (.blk 0 (.loop 12 (Rg [o 33 (.mnxt 32),oE 34 33 0] (YDr 34 0 YmI))))) YmJ
def YwU:Sg:=(Zsg [7,9,32] [.ptr 0 0 0,.ref 1,.np 2] [.st [.np 3],.sq (cs [.s]),.st [.np 3,.j,.j,.l (cs [I]),.b],.st [.j,.l Zc16,.b]])
def YmK(lo:Lo):(Zt3×Int×Zt9×Bool)->Option (Zt3×Int×Int× (List Int)×Bool×Int×Zt9×Bool):=fun x=>match x with
  | (keys9,h2_0,h2_1,h2_2)=>some (keys9,h2_0,h2_0,([]:List Int),false,h2_0,h2_1,h2_2)
def Yep:Zp45->ItP:=fun x=>match x with
  | (keys9,v32_0,v32_1,v32_2,v32_3,h3_0,h3_1,h3_2)=>(h3_1.map (fun e=>e.1),v32_2,h3_0,v32_0,v32_1)
def YcV(lo:Lo):Zp45->Int->Option (Zt3×Int×Int× (List Int)×Bool×Int×Zt9×Bool):=fun x b=>match x with
  | (keys9,v32_0,v32_1,v32_2,v32_3,h3_0,h3_1,h3_2)=>chk (v32_1=h3_0) (YG1 (addI v32_2 b).getLast? fun y165=>YG1 (mbf y165 h3_1) fun y166=>chk (keys9.length+[y166.1].length<=maxEl) (some ((keys9++[y166.1]),v32_0,v32_1,(addI v32_2 b),v32_3,h3_0,h3_1,h3_2)))
def Yb5(lo:Lo):Zp45->Option ((Zt21×Int)):=fun x=>match x with
  | (keys9,v32_0,v32_1,v32_2,v32_3,h3_0,h3_1,h3_2)=>YG1 (q65 lo keys9) fun y226=>chk (y226.length=keys9.length) (YG1 (YgQ lo ((y226.length:Int),(0:Int),[],y226,h3_0,h3_1,h3_2)) fun y227=>some (y227,(0:Int)))
noncomputable def YcW(lo:Lo):(Zt3×Int×Zt9×Bool)->Option ((Zt21×Int)):=fun x=>YG1 (YmK lo x) (rngF Yep (YcV lo) (Yb5 lo))
noncomputable def Yeq(lo:Lo):LpE:=⟨18,[(9,none,false)],(Zsg [7,9] [.ptr 0 0 0,.ref 1] [.st [.np 2],.sq (cs [.s]),.st [.j,.l Zc16,.b]]),[⟨.ret,(Zsg [4,5] [.l Zc22,.j] [])⟩],YcW lo⟩
noncomputable def YwV(lo:Lo):LL:=(Yeq lo,q66_J18_b.er)::YmG lo
theorem YwW(lo:Lo):Lk lo pf (fs66 lo) 0 (YwV lo):=
  .m (YwT lo) (it:=32) (nx:=33) (mo:=34) (out:=0) (own:=(Yeq lo).own) (g0:=(Yeq lo).g) (outs:=(Yeq lo).outs) (g:=YwU) (pre:=YmH) (bb:=YmI) (rest:=YmJ) (p:=Yep) (t:=YcV lo) (r:=Yb5 lo) (u:=YmK lo) (by kernel_rfl) (fun x=>by kernel_rfl) (fun x b=>by kernel_rfl) (fun x=>by kernel_rfl) (fun x=>by kernel_rfl) rfl
noncomputable def q66(lo:Lo)(db0:List (ByteArray×Zt3×Zt12))(q1_0:List ByteArray)(q1_1:List (ByteArray×Zt7)):Option (Zt21×Int):=
  YG1 (q40 lo db0 q1_0 q1_1) fun y105=>bif(!decide (y105=0))then(some (([]:List (Zt2)),y105))else(YG1 (q41 lo db0 q1_0 q1_1) fun y108=>YG1 (q50 lo (0:Int) y108.1 y108.2.1 y108.2.2.1 y108.2.2.2.1 y108.2.2.2.2.1 y108.2.2.2.2.2.1 y108.2.2.2.2.2.2.1 y108.2.2.2.2.2.2.2 (0:Int) ([]:List (Int×ByteArray×Zt2)) false) fun y163=>chk (y163.2.2.2.1.length=y108.2.2.1.length) (bif(!y163.1)then(some (([]:List (Zt2)),(3:Int)))else(YG1 (YcW lo ([],y163.2.2.2.2.2.2.2.2.1,y163.2.2.2.2.2.2.2.2.2.1,y163.2.2.2.2.2.2.2.2.2.2.1)) fun y228=>some (y228.1,y228.2))))
def YwX:VFn:=⟨true,57,[.t 4,.t 5],
 (Rg [oG 2 0,oG 3 1,o 4 (.mv (ke Zc22)),oK 5 0]
 (.seq (Rg [oT 14 1 2,oT 15 2 3,oC 16 472 [14,15],oM 6 16]
 (Rg [oM 17 6,oR 18 .neq 17 (k 0)]
 (.cond 18 (Rg [oM 19 6,o 4 (.mv (ke Zc22)),oM 5 19]
 (.fz [4,5] .ret))
 .skip)))
 (Rg [o 20 (.mkm none (.l Zc10) (cs []) false),o 7 (.alloc [.v (.map none)]),oS 1 7 20]
 (Rg [oT 21 1 2,oT 22 2 3,oC 23 512 [21,22],o 8 (.alloc [.nl]),oS 1 8 23]
 (Rg [oL 24 8,o 25 (.mkf 513 [8,7]),o 26 (.nilc 24),oF 27 5 26,oS 1 27 25]
 (.seq (Rg [oL 28 8,oC 29 515 [28,(k 0)],oX 30 29]
 (.cond 30 (Rg [o 4 (.mv (ke Zc22)),oK 5 3]
 (.fz [4,5] .ret))
 .skip))
 (Rg [o 9 (.mv (ke (cs [.s])))]
 (.jn 18 q66_J18_b))))))))⟩
noncomputable def YmL(lo:Lo):FnE:=Zfe 476 true (Zsg [0,1] [.ag [.l Zc6],.ag [.l (cs [.s]),.l Zc5]] []) (.tp [.l Zc22,.j]) [] (fun x=>q66 lo x.1 x.2.1 x.2.2:Zt1×Zt3×Zt0->Option (Zt21×Int))
noncomputable def fs67(lo:Lo):List FnE:=YmL lo::fs66 lo
theorem YwY(h:GZ P fm fs66 lo)(t:Ti P fm 476 YwX):GZ P fm fs67 lo:=
  h.p (YmL lo) (YwW lo) t
def q67_L3_b:VCode:=
 (Rg [oR 31 .lss 30 29]
 (.seq (Ce 31 0)
 (.seq (.blk 1 (Rg [oM 32 30,oI 33 1 28 30,oL 34 33,oM 10 32,oM 11 34]
 (.reg [oM 35 9,o 36 (.nilc 35),oF 37 3 36,oL 38 37,oM 39 11,oM 40 2,oM 41 10,oI 42 3 40 41,oT 43 3 42,on (.mput none I (cs [I,.s]) true 38 39 43)])))
 (.reg [oR 44 .add 30 (k 1),oM 30 44]))))
def YmM(lo:Lo):Zp38->Option (Zp38⊕ ((Zt3×Zt0×Zt1×Int×Zt4×Bool×Bool× (List Int)))):=fun x=>match x with
  | (answer2,v28,v29,v30,m9_0,m9_1,h1,h2_0,h2_1,h2_2,h2_3,h3)=>bif(decide (v30<v29))then(chk (0<=v30/\v30< (v28.length:Int)) (chk (0<=v30/\v30< (answer2.length:Int)) (some (.inl (answer2,v28,v29,(YHl .i64 (v30+1)),m9_0,m9_1,h1,(mck eqS h2_0 (v28.getD v30.toNat (YHk #[])) h2_1),(mpt eqS h2_0 (v28.getD v30.toNat (YHk #[])) (answer2.getD v30.toNat Zd1) h2_1),h2_2,h2_3,h3)))))else(some (.inr (m9_0,m9_1,h1,h2_0,h2_1,h2_2,h2_3,h3)))
def YmN(lo:Lo):Zp38->Option ((Zt3×Zt0×Zt1×Int×Zt4×Bool×Bool× (List Int))):=lo.run (YmM lo)
def YwZ(lo:Lo):LpE:=⟨3,[(9,some 2,false),(9,some 4,false)],(Zsg [2,9,28,29,30] [.l Zc10,.ptr 0 0 0,.l (cs [.s]),.j,.j] [.st [.l (cs [.s]),.l Zc5,.ref 1,.np 2,.ref 3,.u],.sq Zc6,.st [.j,.l Zc14,.b,.b],.sq (cs [I])]),[⟨.exit 0,(Zsg [9] [.ptr 0 0 0] [.st [.l (cs [.s]),.l Zc5,.ref 1,.np 2,.ref 3,.u],.sq Zc6,.st [.j,.l Zc14,.b,.b],.sq (cs [I])])⟩],YmN lo⟩
def Yw0(lo:Lo):LL:=(YwZ lo,.loop q67_L3_b.er)::[]
theorem Yw1(lo:Lo):Lk lo pf (fs67 lo) 0 (Yw0 lo):=.l .n (YmM lo)
def q67(lo:Lo)(db0:List (ByteArray×Zt3×Zt12))(q1_0:List ByteArray)(q1_1:List (ByteArray×Zt7))(answer2:List (Int×Int×ByteArray)):Option Int:=
  YG1 (q40 lo db0 q1_0 q1_1) fun y234=>bif(!decide (y234=0))then(some y234)else(bif(!decide ((answer2.length:Int)=(q1_0.length:Int)))then(some (6:Int))else(YG1 (q41 lo db0 q1_0 q1_1) fun y235=>YG1 (YmN lo (answer2,q1_0,(q1_0.length:Int),(0:Int),y235.1,y235.2.1,y235.2.2.1,y235.2.2.2.1,y235.2.2.2.2.1,y235.2.2.2.2.2.1,y235.2.2.2.2.2.2.1,y235.2.2.2.2.2.2.2)) fun y236=>none))
def Yw2:VFn:=⟨true,46,[.t 6,.t 7],
 (Rg [oG 3 0,oG 4 1,o 6 (.mv (.c (.one .nl))),oK 7 0]
 (.seq (Rg [oT 12 1 3,oT 13 2 4,oC 14 472 [12,13],oM 8 14]
 (Rg [oM 15 8,oR 16 .neq 15 (k 0)]
 (.cond 16 (Rg [oM 17 8,o 6 (.mv (.c (.one .nl))),oM 7 17]
 (.fz [6] (.ow [(6,some 4,false),(6,some 2,false)] .ret)))
 .skip)))
 (.seq (Rg [oM 18 2,oN 19 18,oF 20 0 4,oL 21 20,oN 22 21,oR 23 .neq 19 22]
 (.cond 23 (Rg [o 6 (.mv (.c (.one .nl))),oK 7 6]
 (.fz [6] (.ow [(6,some 4,false),(6,some 2,false)] .ret)))
 .skip))
 (Rg [oT 24 1 3,oT 25 2 4,oC 26 512 [24,25],oM 9 26]
 (.seq (Rg [oF 27 0 4,oL 28 27,oN 29 28,oK 30 0]
 (.blk 0 (.loop 3 q67_L3_b)))
 (Rg [oM 45 9,oM 6 45,oK 7 0]
 (.fz [6] (.ow [(6,some 4,false),(6,some 2,false)] .ret))))))))⟩
def YmO(lo:Lo):FnE:=Zfe 532 false (Zsg [0,1,2] [.ag [.l Zc6],.ag [.l (cs [.s]),.l Zc5],.l Zc10] []) (.tp [.nl,.j]) [] (fun x=>q67 lo x.1 x.2.1 x.2.2.1 x.2.2.2:Zt1×Zt3×Zt0×Zt2->Option Int)
noncomputable def fs68(lo:Lo):List FnE:=YmO lo::fs67 lo
theorem Yw3(h:GZ P fm fs67 lo)(t:Ti P fm 532 Yw2):GZ P fm fs68 lo:=
  h.i (YmO lo) (Yw1 lo) t
def q68_L3_b:VCode:=
 (Rg [oR 31 .lss 30 29]
 (.seq (Ce 31 0)
 (.seq (.blk 1 (Rg [oM 32 30,oI 33 1 28 30,oL 34 33,oM 10 32,oM 11 34]
 (.reg [oM 35 9,o 36 (.nilc 35),oF 37 3 36,oL 38 37,oM 39 11,oM 40 2,oM 41 10,oI 42 3 40 41,oT 43 3 42,on (.mput none I (cs [I,.s]) true 38 39 43)])))
 (.reg [oR 44 .add 30 (k 1),oM 30 44]))))
def YmP(lo:Lo):Zp38->Option (Zp38⊕ ((Zt3×Zt0×Zt1×Int×Zt4×Bool×Bool× (List Int)))):=fun x=>match x with
  | (answer2,v28,v29,v30,m9_0,m9_1,h1,h2_0,h2_1,h2_2,h2_3,h3)=>bif(decide (v30<v29))then(chk (0<=v30/\v30< (v28.length:Int)) (chk (0<=v30/\v30< (answer2.length:Int)) (some (.inl (answer2,v28,v29,(YHl .i64 (v30+1)),m9_0,m9_1,h1,(mck eqS h2_0 (v28.getD v30.toNat (YHk #[])) h2_1),(mpt eqS h2_0 (v28.getD v30.toNat (YHk #[])) (answer2.getD v30.toNat Zd1) h2_1),h2_2,h2_3,h3)))))else(some (.inr (m9_0,m9_1,h1,h2_0,h2_1,h2_2,h2_3,h3)))
def YmQ(lo:Lo):Zp38->Option ((Zt3×Zt0×Zt1×Int×Zt4×Bool×Bool× (List Int))):=lo.run (YmP lo)
def Yw4(lo:Lo):LpE:=⟨3,[(9,some 2,false),(9,some 4,false)],(Zsg [2,9,28,29,30] [.l Zc10,.ptr 0 0 0,.l (cs [.s]),.j,.j] [.st [.l (cs [.s]),.l Zc5,.ref 1,.np 2,.ref 3,.u],.sq Zc6,.st [.j,.l Zc14,.b,.b],.sq (cs [I])]),[⟨.exit 0,(Zsg [9] [.ptr 0 0 0] [.st [.l (cs [.s]),.l Zc5,.ref 1,.np 2,.ref 3,.u],.sq Zc6,.st [.j,.l Zc14,.b,.b],.sq (cs [I])])⟩],YmQ lo⟩
def Yw5(lo:Lo):LL:=(Yw4 lo,.loop q68_L3_b.er)::[]
theorem Yw6(lo:Lo):Lk lo pf (fs68 lo) 0 (Yw5 lo):=.l .n (YmP lo)
def q68(lo:Lo)(db0:List (ByteArray×Zt3×Zt12))(q1_0:List ByteArray)(q1_1:List (ByteArray×Zt7))(answer2:List (Int×Int×ByteArray)):Option (Int×Zt3×Zt0×Zt1×Int×Zt4×Bool×Bool× (List Int)):=
  YG1 (q40 lo db0 q1_0 q1_1) fun y237=>bif(!decide (y237=0))then(none)else(bif(!decide ((answer2.length:Int)=(q1_0.length:Int)))then(none)else(YG1 (q41 lo db0 q1_0 q1_1) fun y238=>YG1 (YmQ lo (answer2,q1_0,(q1_0.length:Int),(0:Int),y238.1,y238.2.1,y238.2.2.1,y238.2.2.2.1,y238.2.2.2.2.1,y238.2.2.2.2.2.1,y238.2.2.2.2.2.2.1,y238.2.2.2.2.2.2.2)) fun y239=>some ((0:Int),y239.1,y239.2.1,y239.2.2.1,y239.2.2.2.1,y239.2.2.2.2.1,y239.2.2.2.2.2.1,y239.2.2.2.2.2.2.1,y239.2.2.2.2.2.2.2)))
def Yw7:VFn:=⟨true,46,[.t 6,.t 7],
 (Rg [oG 3 0,oG 4 1,o 6 (.mv (.c (.one .nl))),oK 7 0]
 (.seq (Rg [oT 12 1 3,oT 13 2 4,oC 14 472 [12,13],oM 8 14]
 (Rg [oM 15 8,oR 16 .neq 15 (k 0)]
 (.cond 16 (Rg [oM 17 8,o 6 (.mv (.c (.one .nl))),oM 7 17]
 (.ow [(6,some 4,false),(6,some 2,false)] .ret))
 .skip)))
 (.seq (Rg [oM 18 2,oN 19 18,oF 20 0 4,oL 21 20,oN 22 21,oR 23 .neq 19 22]
 (.cond 23 (Rg [o 6 (.mv (.c (.one .nl))),oK 7 6]
 (.ow [(6,some 4,false),(6,some 2,false)] .ret))
 .skip))
 (Rg [oT 24 1 3,oT 25 2 4,oC 26 512 [24,25],oM 9 26]
 (.seq (Rg [oF 27 0 4,oL 28 27,oN 29 28,oK 30 0]
 (.blk 0 (.loop 3 q68_L3_b)))
 (Rg [oM 45 9,oM 6 45,oK 7 0]
 (.ow [(6,some 4,false),(6,some 2,false)] .ret)))))))⟩
def YmR(lo:Lo):FnE:=Zfe 532 false (Zsg [0,1,2] [.ag [.l Zc6],.ag [.l (cs [.s]),.l Zc5],.l Zc10] []) (.tp [.ptr 0 0 0,.j]) [.st [.l (cs [.s]),.l Zc5,.ref 1,.np 2,.ref 3,.u],.sq Zc6,.st [.j,.l Zc14,.b,.b],.sq (cs [I])] (fun x=>q68 lo x.1 x.2.1 x.2.2.1 x.2.2.2:Zt1×Zt3×Zt0×Zt2->Option (Int×Zt3×Zt0×Zt1×Int×Zt4×Bool×Bool× (List Int)))
noncomputable def fs69(lo:Lo):List FnE:=YmR lo::fs68 lo
theorem Yw8(h:GZ P fm fs68 lo)(t:Ti P fm 532 Yw7):GZ P fm fs69 lo:=
  h.i (YmR lo) (Yw6 lo) t
def q69(lo:Lo)(l:List Int):Option (List Int):=bif YGR l.length maxEl&&YGR 1 1 then some l else none
def Yw9(lo:Lo):FnE:=vcloneE 245 (cs [I])
noncomputable def fs70(lo:Lo):List FnE:=Yw9 lo::fs69 lo
theorem Yxa(h:GZ P fm fs69 lo)(htie: ∀f,fm f=245->fnTr P fm pf f=some (8,[.t 2],YCq 1 [(.int .i64 0)])):GZ P fm fs70 lo:=
  ⟨h.1,h.2,YdX h.S h.mx (cs [I]) rfl [(.int .i64 0)] 8 (by decide) htie⟩
def q70(lo:Lo)(h2:List ((List Int)))(h3_0:List ByteArray)(h3_1:List (ByteArray×Zt7))(h4:List (ByteArray×Zt3×Zt12))(h5_0:Int)(h5_1:List (Int×ByteArray×Int×Int×ByteArray))(h5_2:Bool)(h5_3:Bool)(h6:List Int):Option (Bool×Zt3×Zt0×Zt1×Int×Zt4×Bool×Bool× (List Int)×Zt11):=
  YG1 (q69 lo h6) fun y241=>chk (h2.length+[y241].length<=maxEl) (some ((decide (((h2++[y241]).length:Int)<=(1000:Int))),h3_0,h3_1,h4,h5_0,h5_1,h5_2,h5_3,h6,(h2++[y241])))
def Yxb:VFn:=⟨true,14,[.t 2],
 (Rg [oB 2 false]
 (Rg [⟨some 3,.load false 1 0,none,true,false⟩,oL 4 1,o 5 (.nilc 4),oF 6 4 5,oL 7 6,o 8 (.callN 245 [7] true),o 9 (.bsl Zc17 1 [(0,8)]),o 10 (.app Zc17 0 3 9),oS 1 0 10]
 (Rg [oL 11 0,oN 12 11,oR 13 .leq 12 (k 1000),oM 2 13]
 .ret)))⟩
def YmS(lo:Lo):FnE:=Zfe 534 false (Zsg [0,1] [.ptr 0 0 0,.ptr 1 0 0] [.st [.ref 2],.st [.ptr 3 0 0],.sq Zc17,.st [.l (cs [.s]),.l Zc5,.ref 4,.np 5,.ref 6,.clo 534 [.ptr 0 0 0,.ptr 1 0 0]],.sq Zc6,.st [.j,.l Zc14,.b,.b],.sq (cs [I])]) .b [.st [.ref 7],.st [.ptr 3 0 0],.dd,.st [.l (cs [.s]),.l Zc5,.ref 4,.np 5,.ref 6,.clo 534 [.ptr 0 0 0,.ptr 1 0 0]],.sq Zc6,.st [.j,.l Zc14,.b,.b],.sq (cs [I]),.sq Zc17] (fun x=>q70 lo x.1 x.2.1 x.2.2.1 x.2.2.2.1 x.2.2.2.2.1 x.2.2.2.2.2.1 x.2.2.2.2.2.2.1 x.2.2.2.2.2.2.2.1 x.2.2.2.2.2.2.2.2:Zt11×Zt3×Zt0×Zt1×Int×Zt4×Bool×Bool× (List Int)->Option (Bool×Zt3×Zt0×Zt1×Int×Zt4×Bool×Bool× (List Int)×Zt11))
noncomputable def fs71(lo:Lo):List FnE:=YmS lo::fs70 lo
theorem Yxc(h:GZ P fm fs70 lo)(t:Ti P fm 534 Yxb):GZ P fm fs71 lo:=
  h.i (YmS lo) .n t
end Go.Abs.G47
namespace Go.Abs.G47
open Go Go.Abs
set_option maxRecDepth 100000
set_option maxHeartbeats 1000000
variable{P:Program}{fm:FM}{lo:Lo}
def q71_J13_b:VCode:=
 (Rg [oM 36 12,oX 37 36]
 (.cond 37 (Rg [oM 38 0,o 39 (.nilc 38),oF 40 3 39,oL 41 40,oF 42 0 10,oL 43 42,oF 44 1 5,oL 45 44,oM 46 9,oI 47 3 45 46,oT 48 3 47,on (.mput none I (cs [I,.s]) true 41 43 48)]
 (.reg [oM 49 8,oF 50 0 10,oL 51 50,o 52 (.bsl (cs [.s]) 1 [(0,51)]),o 53 (.app (cs [.s]) 0 49 52),oM 8 53]))
 (Rg [oT 54 3 11,oF 55 1 5,oL 56 55,oM 57 9,oI 58 3 56 57,oT 59 3 58,o 60 (.eqa true [1,1,2] 54 59)]
 (.cond 60 (Rg [oM 61 8,oM 6 61,oB 7 false]
 (.ow [(0,some 4,false),(0,some 2,false)] .ret))
 .skip))))
def YgR(lo:Lo):Int×Bool×Zt7×Int×Int×Zt3×Zt0×Zt1×Int×Zt4×Bool×Bool× (List Int)×Zt11×Int×Zt2×Zt3×ByteArray×Int×Int×ByteArray×Int×Int×ByteArray->Option (Zp33⊕ (Bool×Zt3×Zt0×Zt1×Int×Zt4×Bool×Bool× (List Int)×Zt11×Zt3)):=fun x=>match x with
  | (i9,known12,v14,v15,v16,m0_0,m0_1,h1,h2_0,h2_1,h2_2,h2_3,h3,h6,r5_0,r5_1,fresh8,t10_0,t10_1,t10_2,t10_3,v11_0,v11_1,v11_2)=>bif(!known12)then(chk (0<=i9/\i9< (r5_1.length:Int)) (chk (fresh8.length+[t10_0].length<=maxEl) (some (.inl (v14,v15,v16,m0_0,m0_1,h1,(mck eqS h2_0 t10_0 h2_1),(mpt eqS h2_0 t10_0 (r5_1.getD i9.toNat Zd1) h2_1),h2_2,h2_3,h3,h6,r5_0,r5_1,(fresh8++[t10_0]))))))else(chk (0<=i9/\i9< (r5_1.length:Int)) (bif(!((decide (v11_0=(r5_1.getD i9.toNat Zd1).1))&& ((decide (v11_1=(r5_1.getD i9.toNat Zd1).2.1))&& ((decide (v11_2=(r5_1.getD i9.toNat Zd1).2.2))&&true))))then(some (.inr (false,m0_0,m0_1,h1,h2_0,h2_1,h2_2,h2_3,h3,h6,fresh8)))else(some (.inl (v14,v15,v16,m0_0,m0_1,h1,h2_0,h2_1,h2_2,h2_3,h3,h6,r5_0,r5_1,fresh8)))))
def Yxd(lo:Lo):LpE:=⟨13,[(0,some 2,false),(0,some 4,false)],(Zsg [0,5,8,9,10,11,12,14,15,16] [.ptr 0 0 0,.ptr 7 0 0,.ref 8,.j,.ptr 9 0 0,.ptr 10 0 0,.b,.l Zc13,.j,.j] [.st [.l (cs [.s]),.l Zc5,.ref 1,.np 2,.ref 3,.clo 534 [.ptr 4 0 0,.ptr 5 0 0]],.sq Zc6,.st [.j,.l Zc14,.b,.b],.sq (cs [I]),.st [.ref 6],.st [.ptr 0 0 0],.sq Zc17,.st [.j,.l Zc10],.sq (cs [.s]),.st [.s,.j,.j,.s],.st [.j,.j,.s]]),[⟨.nor,(Zsg [0,5,8,14,15,16] [.ptr 0 0 0,.ptr 7 0 0,.ref 8,.l Zc13,.j,.j] [.st [.l (cs [.s]),.l Zc5,.ref 1,.np 2,.ref 3,.clo 534 [.ptr 4 0 0,.ptr 5 0 0]],.sq Zc6,.st [.j,.l Zc14,.b,.b],.sq (cs [I]),.st [.ref 6],.st [.ptr 0 0 0],.sq Zc17,.st [.j,.l Zc10],.sq (cs [.s])])⟩,⟨.ret,(Zsg [6,7,0] [.ref 7,.b,.ptr 0 0 0] [.st [.l (cs [.s]),.l Zc5,.ref 1,.np 2,.ref 3,.clo 534 [.ptr 4 0 0,.ptr 5 0 0]],.sq Zc6,.st [.j,.l Zc14,.b,.b],.sq (cs [I]),.st [.ref 6],.st [.ptr 0 0 0],.sq Zc17,.sq (cs [.s])])⟩],YgR lo⟩
def YmT(lo:Lo):LL:=(Yxd lo,q71_J13_b.er)::[]
theorem Yxe(lo:Lo):Lk lo pf (fs71 lo) 7 (YmT lo):=.j .n
def q71_L3_b:VCode:=
 (Rg [oR 17 .lss 16 15]
 (.seq (Ce 17 0)
 (.seq (.blk 1 (Rg [oM 18 16,oI 19 4 14 16,oT 20 4 19,o 10 (.alloc [.s (⟨#[]⟩),.i .i64 0,.i .i64 0,.s (⟨#[]⟩)]),oM 9 18,oS 4 10 20]
 (Rg [oF 21 1 10,oT 22 3 21,o 11 (.alloc [.i .i64 0,.i .i64 0,.s (⟨#[]⟩)]),oS 3 11 22,oB 12 true]
 (.seq (Rg [oF 23 0 10,oL 24 23,oR 25 .neq 24 (ks (⟨#[]⟩))]
 (.cond 25 (.reg [oM 27 0,o 28 (.nilc 27),oF 29 3 28,oL 30 29,oF 31 0 10,oL 32 31,o 33 (.mget none I (cs [I,.s]) true true 30 32),oM 26 33,oE 34 26 0,oE 35 26 1,oS 3 11 34,oM 12 35])
 .skip))
 (.jn 13 q71_J13_b)))))
 (.reg [oR 62 .add 16 (k 1),oM 16 62]))))
def YmU(lo:Lo):Zp33->Option (Zp33⊕ ((Bool×Zt3×Zt0×Zt1×Int×Zt4×Bool×Bool× (List Int)×Zt11×Zt3)⊕ (Zt3×Zt0×Zt1×Int×Zt4×Bool×Bool× (List Int)×Zt11×Zt3))):=fun x=>match x with
  | (v14,v15,v16,m0_0,m0_1,h1,h2_0,h2_1,h2_2,h2_3,h3,h6,r5_0,r5_1,fresh8)=>bif(decide (v16<v15))then(chk (0<=v16/\v16< (v14.length:Int)) (bif(!decide ((v14.getD v16.toNat Zd0).1=(YHk #[])))then(YG1 (YgR lo (v16,(mhs eqS ((v14.getD v16.toNat Zd0).1) h2_1),v14,v15,v16,m0_0,m0_1,h1,h2_0,h2_1,h2_2,h2_3,h3,h6,r5_0,r5_1,fresh8,(v14.getD v16.toNat Zd0).1,(v14.getD v16.toNat Zd0).2.1,(v14.getD v16.toNat Zd0).2.2.1,(v14.getD v16.toNat Zd0).2.2.2,(mgt eqS ((v14.getD v16.toNat Zd0).1) h2_1 Zd1).1,(mgt eqS ((v14.getD v16.toNat Zd0).1) h2_1 Zd1).2.1,(mgt eqS ((v14.getD v16.toNat Zd0).1) h2_1 Zd1).2.2)) fun y243=>alt2 y243 (fun y244=>some (.inl (y244.1,y244.2.1,(YHl .i64 (y244.2.2.1+(1:Int))),y244.2.2.2.1,y244.2.2.2.2.1,y244.2.2.2.2.2.1,y244.2.2.2.2.2.2.1,y244.2.2.2.2.2.2.2.1,y244.2.2.2.2.2.2.2.2.1,y244.2.2.2.2.2.2.2.2.2.1,y244.2.2.2.2.2.2.2.2.2.2.1,y244.2.2.2.2.2.2.2.2.2.2.2.1,y244.2.2.2.2.2.2.2.2.2.2.2.2.1,y244.2.2.2.2.2.2.2.2.2.2.2.2.2.1,y244.2.2.2.2.2.2.2.2.2.2.2.2.2.2))) (fun y245=>some (.inr (.inl (y245.1,y245.2.1,y245.2.2.1,y245.2.2.2.1,y245.2.2.2.2.1,y245.2.2.2.2.2.1,y245.2.2.2.2.2.2.1,y245.2.2.2.2.2.2.2.1,y245.2.2.2.2.2.2.2.2.1,y245.2.2.2.2.2.2.2.2.2.1,y245.2.2.2.2.2.2.2.2.2.2)))))else(YG1 (YgR lo (v16,true,v14,v15,v16,m0_0,m0_1,h1,h2_0,h2_1,h2_2,h2_3,h3,h6,r5_0,r5_1,fresh8,(v14.getD v16.toNat Zd0).1,(v14.getD v16.toNat Zd0).2.1,(v14.getD v16.toNat Zd0).2.2.1,(v14.getD v16.toNat Zd0).2.2.2,(v14.getD v16.toNat Zd0).2.1,(v14.getD v16.toNat Zd0).2.2.1,(v14.getD v16.toNat Zd0).2.2.2)) fun y246=>alt2 y246 (fun y247=>some (.inl (y247.1,y247.2.1,(YHl .i64 (y247.2.2.1+(1:Int))),y247.2.2.2.1,y247.2.2.2.2.1,y247.2.2.2.2.2.1,y247.2.2.2.2.2.2.1,y247.2.2.2.2.2.2.2.1,y247.2.2.2.2.2.2.2.2.1,y247.2.2.2.2.2.2.2.2.2.1,y247.2.2.2.2.2.2.2.2.2.2.1,y247.2.2.2.2.2.2.2.2.2.2.2.1,y247.2.2.2.2.2.2.2.2.2.2.2.2.1,y247.2.2.2.2.2.2.2.2.2.2.2.2.2.1,y247.2.2.2.2.2.2.2.2.2.2.2.2.2.2))) (fun y248=>some (.inr (.inl (y248.1,y248.2.1,y248.2.2.1,y248.2.2.2.1,y248.2.2.2.2.1,y248.2.2.2.2.2.1,y248.2.2.2.2.2.2.1,y248.2.2.2.2.2.2.2.1,y248.2.2.2.2.2.2.2.2.1,y248.2.2.2.2.2.2.2.2.2.1,y248.2.2.2.2.2.2.2.2.2.2)))))))else(some (.inr (.inr (m0_0,m0_1,h1,h2_0,h2_1,h2_2,h2_3,h3,h6,fresh8))))
def YmV(lo:Lo):Zp33->Option ((Bool×Zt3×Zt0×Zt1×Int×Zt4×Bool×Bool× (List Int)×Zt11×Zt3)⊕ (Zt3×Zt0×Zt1×Int×Zt4×Bool×Bool× (List Int)×Zt11×Zt3)):=lo.run (YmU lo)
def Yxf(lo:Lo):LpE:=⟨3,[(0,some 2,false),(0,some 4,false),(8,none,false)],(Zsg [0,5,8,14,15,16] [.ptr 0 0 0,.ptr 7 0 0,.ref 8,.l Zc13,.j,.j] [.st [.l (cs [.s]),.l Zc5,.ref 1,.np 2,.ref 3,.clo 534 [.ptr 4 0 0,.ptr 5 0 0]],.sq Zc6,.st [.j,.l Zc14,.b,.b],.sq (cs [I]),.st [.ref 6],.st [.ptr 0 0 0],.sq Zc17,.st [.j,.l Zc10],.sq (cs [.s])]),[⟨.ret,(Zsg [6,7,0] [.ref 7,.b,.ptr 0 0 0] [.st [.l (cs [.s]),.l Zc5,.ref 1,.np 2,.ref 3,.clo 534 [.ptr 4 0 0,.ptr 5 0 0]],.sq Zc6,.st [.j,.l Zc14,.b,.b],.sq (cs [I]),.st [.ref 6],.st [.ptr 0 0 0],.sq Zc17,.sq (cs [.s])])⟩,⟨.exit 0,(Zsg [0,8] [.ptr 0 0 0,.ref 7] [.st [.l (cs [.s]),.l Zc5,.ref 1,.np 2,.ref 3,.clo 534 [.ptr 4 0 0,.ptr 5 0 0]],.sq Zc6,.st [.j,.l Zc14,.b,.b],.sq (cs [I]),.st [.ref 6],.st [.ptr 0 0 0],.sq Zc17,.sq (cs [.s])])⟩],YmV lo⟩
def Yxg(lo:Lo):LL:=(Yxf lo,.loop q71_L3_b.er)::YmT lo
theorem Yxh(lo:Lo):Lk lo pf (fs71 lo) 7 (Yxg lo):=.l (Yxe lo) (YmU lo)
def q71(lo:Lo)(a1_0:ByteArray)(a1_1:List Zp62)(r2_0:Int)(r2_1:List (Int×Int×ByteArray))(m0_0:List ByteArray)(m0_1:List (ByteArray×Zt7))(h1:List (ByteArray×Zt3×Zt12))(h2_0:Int)(h2_1:List (Int×ByteArray×Int×Int×ByteArray))(h2_2:Bool)(h2_3:Bool)(h3:List Int)(h6:List ((List Int))):Option (Bool×Zt3×Zt0×Zt1×Int×Zt4×Bool×Bool× (List Int)×Zt11×Zt3):=
  YG1 (YmV lo (a1_1,(a1_1.length:Int),(0:Int),m0_0,m0_1,h1,h2_0,h2_1,h2_2,h2_3,h3,h6,r2_0,r2_1,[])) fun y249=>alt2 y249 (fun y250=>some (y250.1,y250.2.1,y250.2.2.1,y250.2.2.2.1,y250.2.2.2.2.1,y250.2.2.2.2.2.1,y250.2.2.2.2.2.2.1,y250.2.2.2.2.2.2.2.1,y250.2.2.2.2.2.2.2.2.1,y250.2.2.2.2.2.2.2.2.2.1,y250.2.2.2.2.2.2.2.2.2.2)) (fun y251=>some (true,y251.1,y251.2.1,y251.2.2.1,y251.2.2.2.1,y251.2.2.2.2.1,y251.2.2.2.2.2.1,y251.2.2.2.2.2.2.1,y251.2.2.2.2.2.2.2.1,y251.2.2.2.2.2.2.2.2.1,y251.2.2.2.2.2.2.2.2.2))
def Yxi:VFn:=⟨true,64,[.t 6,.t 7],
 (Rg [oG 4 1,oG 5 2,o 6 (.mv (ke (cs [.s]))),oB 7 false]
 (Rg [o 8 (.mv (ke (cs [.s])))]
 (.seq (Rg [oF 13 1 4,oL 14 13,oN 15 14,oK 16 0]
 (.blk 0 (.loop 3 q71_L3_b)))
 (Rg [oM 63 8,oM 6 63,oB 7 true]
 (.ow [(0,some 4,false),(0,some 2,false)] .ret)))))⟩
def YmW(lo:Lo):FnE:=Zfe 543 false (Zsg [0,1,2] [.ptr 0 0 0,.ag [.s,.l Zc13],.ag [.j,.l Zc10]] [.st [.l (cs [.s]),.l Zc5,.ref 1,.np 2,.ref 3,.clo 534 [.ptr 4 0 0,.ptr 5 0 0]],.sq Zc6,.st [.j,.l Zc14,.b,.b],.sq (cs [I]),.st [.ref 6],.st [.ptr 0 0 0],.sq Zc17]) (.tp [.ref 7,.b]) [.st [.l (cs [.s]),.l Zc5,.ref 1,.np 2,.ref 3,.clo 534 [.ptr 4 0 0,.ptr 5 0 0]],.sq Zc6,.st [.j,.l Zc14,.b,.b],.sq (cs [I]),.st [.ref 6],.st [.ptr 0 0 0],.sq Zc17,.sq (cs [.s])] (fun x=>q71 lo x.1 x.2.1 x.2.2.1 x.2.2.2.1 x.2.2.2.2.1 x.2.2.2.2.2.1 x.2.2.2.2.2.2.1 x.2.2.2.2.2.2.2.1 x.2.2.2.2.2.2.2.2.1 x.2.2.2.2.2.2.2.2.2.1 x.2.2.2.2.2.2.2.2.2.2.1 x.2.2.2.2.2.2.2.2.2.2.2.1 x.2.2.2.2.2.2.2.2.2.2.2.2:ByteArray×Zt7×Int×Zt2×Zt3×Zt0×Zt1×Int×Zt4×Bool×Bool× (List Int)×Zt11->Option (Bool×Zt3×Zt0×Zt1×Int×Zt4×Bool×Bool× (List Int)×Zt11×Zt3))
noncomputable def fs72(lo:Lo):List FnE:=YmW lo::fs71 lo
theorem Yxj(h:GZ P fm fs71 lo)(t:Ti P fm 543 Yxi):GZ P fm fs72 lo:=
  h.i (YmW lo) (Yxh lo) t
def YgS(F:Zp42->Option (Bool×Zt3×Zt0×Zt1×Int×Zt4×Bool×Bool× (List Int)×Zt11)):FnE:=⟨515,false,(Zsg [0,1] [.ptr 0 0 0,.j] [.st [.l (cs [.s]),.l Zc5,.ref 1,.np 2,.ref 3,.clo 534 [.ptr 4 0 0,.ptr 5 0 0]],.sq Zc6,.st [.j,.l Zc14,.b,.b],.sq (cs [I]),.st [.ref 6],.st [.ptr 0 0 0],.sq Zc17]),.b,[.st [.l (cs [.s]),.l Zc5,.ref 1,.np 2,.ref 7,.clo 534 [.ptr 4 0 0,.ptr 5 0 0]],.sq Zc6,.st [.j,.l Zc14,.b,.b],.dd,.st [.ref 8],.st [.ptr 0 0 0],.dd,.sq (cs [I]),.sq Zc17],(cs [.b,.l (cs [.s]),.l Zc5,.l Zc6,I,.l Zc14,.b,.b,.l (cs [I]),.l Zc17]),F⟩
def q72_L8_b:VCode:=
 (Rg [oR 83 .lss 82 81]
 (.seq (Ce 83 2)
 (.seq (.blk 3 (Rg [oI 84 1 80 82,oL 85 84,oM 11 85]
 (.reg [oM 86 0,o 87 (.nilc 86),oF 88 3 87,oL 89 88,oM 90 11,on (.mdel none I (cs [I,.s]) 89 90)])))
 (.reg [oR 91 .add 82 (k 1),oM 82 91]))))
def YmX(lo:Lo)(rec:Zp42->Option (Bool×Zt3×Zt0×Zt1×Int×Zt4×Bool×Bool× (List Int)×Zt11)):Zp27->Option (Zp27⊕ ((Int×Bool×Zt12×Int×Int×Zt3×Zt0×Zt1×Int×Zt4×Bool×Bool× (List Int)×Zt11))):=fun x=>match x with
  | (i1,on9,v32,v33,v34,v81,v82,m0_0,m0_1,h1,h2_0,h2_1,h2_2,h2_3,v80,h8,h9)=>bif(decide (v82<v81))then(chk (0<=v82/\v82< (v80.length:Int)) (some (.inl (i1,on9,v32,v33,v34,v81,(YHl .i64 (v82+1)),m0_0,m0_1,h1,h2_0,(mdl eqS (v80.getD v82.toNat (YHk #[])) h2_1),h2_2,h2_3,v80,h8,h9))))else(some (.inr (i1,on9,v32,v33,v34,m0_0,m0_1,h1,h2_0,h2_1,h2_2,h2_3,h8,h9)))
def YgT(lo:Lo)(rec:Zp42->Option (Bool×Zt3×Zt0×Zt1×Int×Zt4×Bool×Bool× (List Int)×Zt11)):Zp27->Option ((Int×Bool×Zt12×Int×Int×Zt3×Zt0×Zt1×Int×Zt4×Bool×Bool× (List Int)×Zt11)):=lo.run (YmX lo rec)
def Yxk(lo:Lo)(rec:Zp42->Option (Bool×Zt3×Zt0×Zt1×Int×Zt4×Bool×Bool× (List Int)×Zt11)):LpE:=⟨8,[(1000006,none,true),(0,some 2,false),(0,some 4,false)],(Zsg [0,1,9,32,33,34,80,81,82] [.ptr 0 0 0,.j,.b,.l Zc15,.j,.j,.ref 7,.j,.j] [.st [.l (cs [.s]),.l Zc5,.ref 1,.np 2,.ref 8,.clo 534 [.ptr 4 0 0,.ptr 5 0 0]],.sq Zc6,.st [.j,.l Zc14,.b,.b],.dd,.st [.ref 9],.st [.ptr 0 0 0],.dd,.sq (cs [.s]),.sq (cs [I]),.sq Zc17]),[⟨.exit 2,(Zsg [0,1,9,32,33,34] [.ptr 0 0 0,.j,.b,.l Zc15,.j,.j] [.st [.l (cs [.s]),.l Zc5,.ref 1,.np 2,.ref 7,.clo 534 [.ptr 4 0 0,.ptr 5 0 0]],.sq Zc6,.st [.j,.l Zc14,.b,.b],.dd,.st [.ref 8],.st [.ptr 0 0 0],.dd,.sq (cs [I]),.sq Zc17])⟩],YgT lo rec⟩
def YmY(lo:Lo)(rec:Zp42->Option (Bool×Zt3×Zt0×Zt1×Int×Zt4×Bool×Bool× (List Int)×Zt11)):LL:=(Yxk lo rec,.loop q72_L8_b.er)::[]
theorem Yxl(lo:Lo)(rec:Zp42->Option (Bool×Zt3×Zt0×Zt1×Int×Zt4×Bool×Bool× (List Int)×Zt11)):Lk lo pf (YgS rec::fs72 lo) 7 (YmY lo rec):=.l .n (YmX lo rec)
def q72_L3_b:VCode:=
 (Rg [oR 35 .lss 34 33]
 (.seq (Ce 35 0)
 (.seq (.blk 1 (Rg [oI 36 2 32 34,oT 37 2 36,o 6 (.alloc [.i .i64 0,.e Zc10]),oS 2 6 37]
 (Rg [oM 39 0,oM 40 0,o 41 (.nilc 40),oF 42 0 41,oF 43 1 42,oL 44 43,oM 45 1,oI 46 2 44 45,oT 47 2 46,oT 48 2 6,oC 49 543 [39,47,48],oM 38 49,oE 50 38 0,oE 51 38 1,oM 7 50,oM 8 51]
 (Rg [oM 52 0,oM 53 0,o 54 (.nilc 53),oF 55 4 54,oL 56 55,oF 57 0 6,oL 58 57,o 59 (.bsl (cs [I]) 1 [(0,58)]),o 60 (.app (cs [I]) 0 56 59),o 61 (.nilc 52),oF 62 4 61,oS 1 62 60]
 (Rg [oM 63 8,oX 64 63,oM 65 64,gF 66 65 (.mv 0),gF 67 65 (.mv 1),gF 68 65 (.bin .add 67 (k 1)),gF 69 65 (.call 515 [66,68]),oP 70 65 (kb true) 69,oM 9 70]
 (Rg [oM 71 0,oM 72 0,o 73 (.nilc 72),oF 74 4 73,oL 75 74,oM 76 1,o 77 (.slcR 1 75 none (some 76)),o 78 (.nilc 71),oF 79 4 78,oS 1 79 77]
 (.seq (Rg [oM 80 7,oN 81 80,oK 82 0]
 (.blk 2 (.loop 8 q72_L8_b)))
 (Rg [oM 92 9,oX 93 92]
 (.cond 93 (Rg [oB 4 false]
 (.ow [(1000003,none,true),(1000006,none,true),(0,some 4,false),(0,some 2,false)] .ret))
 .skip)))))))))
 (.reg [oR 94 .add 34 (k 1),oM 34 94]))))
def YmZ(lo:Lo)(rec:Zp42->Option (Bool×Zt3×Zt0×Zt1×Int×Zt4×Bool×Bool× (List Int)×Zt11)):Zp35->Option (Zp35⊕ ((Bool×Zt3×Zt0×Zt1×Int×Zt4×Bool×Bool× (List Int)×Zt11)⊕ (Zt3×Zt0×Zt1×Int×Zt4×Bool×Bool× (List Int)×Zt11))):=fun x=>match x with
  | (i1,v32,v33,v34,m0_0,m0_1,h1,h2_0,h2_1,h2_2,h2_3,h7,h8)=>bif(decide (v34<v33))then(chk (0<=v34/\v34< (v32.length:Int)) (chk (0<=i1/\i1< (m0_1.length:Int)) (YG1 (q71 lo ((m0_1.getD i1.toNat ((YHk #[]),[])).1) ((m0_1.getD i1.toNat ((YHk #[]),[])).2) ((v32.getD v34.toNat ((0:Int),[])).1) ((v32.getD v34.toNat ((0:Int),[])).2) m0_0 m0_1 h1 h2_0 h2_1 h2_2 h2_3 h7 h8) fun y286=>chk (y286.2.2.2.1.length=h1.length) (chk (y286.2.2.2.2.2.2.2.2.1.length=h7.length) (chk (y286.2.2.2.2.2.2.2.2.2.1.length=h8.length) (chk (y286.2.2.2.2.2.2.2.2.1.length+([(v32.getD v34.toNat ((0:Int),[])).1]).length<=maxEl) (bif(!y286.1)then(chk ((0:Int)=0/\0<=i1/\i1<=((y286.2.2.2.2.2.2.2.2.1++([(v32.getD v34.toNat ((0:Int),[])).1])).length:Int)) (YG1 (YgT lo rec (i1,true,v32,v33,v34,(y286.2.2.2.2.2.2.2.2.2.2.length:Int),(0:Int),y286.2.1,y286.2.2.1,y286.2.2.2.1,y286.2.2.2.2.1,y286.2.2.2.2.2.1,y286.2.2.2.2.2.2.1,y286.2.2.2.2.2.2.2.1,y286.2.2.2.2.2.2.2.2.2.2,((y286.2.2.2.2.2.2.2.2.1++([(v32.getD v34.toNat ((0:Int),[])).1])).take i1.toNat),y286.2.2.2.2.2.2.2.2.2.1)) fun y287=>bif(!y287.2.1)then(some (.inr (.inl (false,y287.2.2.2.2.2.1,y287.2.2.2.2.2.2.1,y287.2.2.2.2.2.2.2.1,y287.2.2.2.2.2.2.2.2.1,y287.2.2.2.2.2.2.2.2.2.1,y287.2.2.2.2.2.2.2.2.2.2.1,y287.2.2.2.2.2.2.2.2.2.2.2.1,y287.2.2.2.2.2.2.2.2.2.2.2.2.1,y287.2.2.2.2.2.2.2.2.2.2.2.2.2))))else(some (.inl (y287.1,y287.2.2.1,y287.2.2.2.1,(YHl .i64 (y287.2.2.2.2.1+(1:Int))),y287.2.2.2.2.2.1,y287.2.2.2.2.2.2.1,y287.2.2.2.2.2.2.2.1,y287.2.2.2.2.2.2.2.2.1,y287.2.2.2.2.2.2.2.2.2.1,y287.2.2.2.2.2.2.2.2.2.2.1,y287.2.2.2.2.2.2.2.2.2.2.2.1,y287.2.2.2.2.2.2.2.2.2.2.2.2.1,y287.2.2.2.2.2.2.2.2.2.2.2.2.2)))))else(YG1 (rec ((YHl .i64 (i1+1)),y286.2.1,y286.2.2.1,y286.2.2.2.1,y286.2.2.2.2.1,y286.2.2.2.2.2.1,y286.2.2.2.2.2.2.1,y286.2.2.2.2.2.2.2.1,(y286.2.2.2.2.2.2.2.2.1++([(v32.getD v34.toNat ((0:Int),[])).1])),y286.2.2.2.2.2.2.2.2.2.1)) fun y288=>chk (y288.2.2.2.1.length=y286.2.2.2.1.length) (chk ((0:Int)=0/\0<=i1/\i1<=(y288.2.2.2.2.2.2.2.2.1.length:Int)) (YG1 (YgT lo rec (i1,y288.1,v32,v33,v34,(y286.2.2.2.2.2.2.2.2.2.2.length:Int),(0:Int),y288.2.1,y288.2.2.1,y288.2.2.2.1,y288.2.2.2.2.1,y288.2.2.2.2.2.1,y288.2.2.2.2.2.2.1,y288.2.2.2.2.2.2.2.1,y286.2.2.2.2.2.2.2.2.2.2,(y288.2.2.2.2.2.2.2.2.1.take i1.toNat),y288.2.2.2.2.2.2.2.2.2)) fun y289=>bif(!y289.2.1)then(some (.inr (.inl (false,y289.2.2.2.2.2.1,y289.2.2.2.2.2.2.1,y289.2.2.2.2.2.2.2.1,y289.2.2.2.2.2.2.2.2.1,y289.2.2.2.2.2.2.2.2.2.1,y289.2.2.2.2.2.2.2.2.2.2.1,y289.2.2.2.2.2.2.2.2.2.2.2.1,y289.2.2.2.2.2.2.2.2.2.2.2.2.1,y289.2.2.2.2.2.2.2.2.2.2.2.2.2))))else(some (.inl (y289.1,y289.2.2.1,y289.2.2.2.1,(YHl .i64 (y289.2.2.2.2.1+(1:Int))),y289.2.2.2.2.2.1,y289.2.2.2.2.2.2.1,y289.2.2.2.2.2.2.2.1,y289.2.2.2.2.2.2.2.2.1,y289.2.2.2.2.2.2.2.2.2.1,y289.2.2.2.2.2.2.2.2.2.2.1,y289.2.2.2.2.2.2.2.2.2.2.2.1,y289.2.2.2.2.2.2.2.2.2.2.2.2.1,y289.2.2.2.2.2.2.2.2.2.2.2.2.2)))))))))))))else(some (.inr (.inr (m0_0,m0_1,h1,h2_0,h2_1,h2_2,h2_3,h7,h8))))
def Ym0(lo:Lo)(rec:Zp42->Option (Bool×Zt3×Zt0×Zt1×Int×Zt4×Bool×Bool× (List Int)×Zt11)):Zp35->Option ((Bool×Zt3×Zt0×Zt1×Int×Zt4×Bool×Bool× (List Int)×Zt11)⊕ (Zt3×Zt0×Zt1×Int×Zt4×Bool×Bool× (List Int)×Zt11)):=lo.run (YmZ lo rec)
def Yxm(lo:Lo)(rec:Zp42->Option (Bool×Zt3×Zt0×Zt1×Int×Zt4×Bool×Bool× (List Int)×Zt11)):LpE:=⟨3,[(1000003,none,true),(1000006,none,true),(0,some 2,false),(0,some 4,false)],(Zsg [0,1,32,33,34] [.ptr 0 0 0,.j,.l Zc15,.j,.j] [.st [.l (cs [.s]),.l Zc5,.ref 1,.np 2,.ref 7,.clo 534 [.ptr 4 0 0,.ptr 5 0 0]],.sq Zc6,.st [.j,.l Zc14,.b,.b],.dd,.st [.ref 8],.st [.ptr 0 0 0],.dd,.sq (cs [I]),.sq Zc17]),[⟨.ret,(Zsg [4,0] [.b,.ptr 0 0 0] [.st [.l (cs [.s]),.l Zc5,.ref 1,.np 2,.ref 7,.clo 534 [.ptr 4 0 0,.ptr 5 0 0]],.sq Zc6,.st [.j,.l Zc14,.b,.b],.dd,.st [.ref 8],.st [.ptr 0 0 0],.dd,.sq (cs [I]),.sq Zc17])⟩,⟨.exit 0,(Zsg [0] [.ptr 0 0 0] [.st [.l (cs [.s]),.l Zc5,.ref 1,.np 2,.ref 7,.clo 534 [.ptr 4 0 0,.ptr 5 0 0]],.sq Zc6,.st [.j,.l Zc14,.b,.b],.dd,.st [.ref 8],.st [.ptr 0 0 0],.dd,.sq (cs [I]),.sq Zc17])⟩],Ym0 lo rec⟩
def Ym1(lo:Lo)(rec:Zp42->Option (Bool×Zt3×Zt0×Zt1×Int×Zt4×Bool×Bool× (List Int)×Zt11)):LL:=(Yxm lo rec,.loop q72_L3_b.er)::YmY lo rec
theorem Yxn(lo:Lo)(rec:Zp42->Option (Bool×Zt3×Zt0×Zt1×Int×Zt4×Bool×Bool× (List Int)×Zt11)):Lk lo pf (YgS rec::fs72 lo) 7 (Ym1 lo rec):=.l (Yxl lo rec) (YmZ lo rec)
def Yxo(lo:Lo)(rec:Zp42->Option (Bool×Zt3×Zt0×Zt1×Int×Zt4×Bool×Bool× (List Int)×Zt11))(i1:Int)(m0_0:List ByteArray)(m0_1:List (ByteArray×Zt7))(h1:List (ByteArray×Zt3×Zt12))(h2_0:Int)(h2_1:List (Int×ByteArray×Int×Int×ByteArray))(h2_2:Bool)(h2_3:Bool)(h3:List Int)(h6:List ((List Int))):Option (Bool×Zt3×Zt0×Zt1×Int×Zt4×Bool×Bool× (List Int)×Zt11):=
  bif(decide (i1=(m0_1.length:Int)))then(YG1 (q70 lo h6 m0_0 m0_1 h1 h2_0 h2_1 h2_2 h2_3 h3) fun y285=>chk (y285.2.2.2.1.length=h1.length) (chk (y285.2.2.2.2.2.2.2.2.1.length=h3.length) (some (y285.1,y285.2.1,y285.2.2.1,y285.2.2.2.1,y285.2.2.2.2.1,y285.2.2.2.2.2.1,y285.2.2.2.2.2.2.1,y285.2.2.2.2.2.2.2.1,y285.2.2.2.2.2.2.2.2.1,y285.2.2.2.2.2.2.2.2.2))))else(chk (0<=i1/\i1< (h1.length:Int)) (YG1 (Ym0 lo rec (i1,(h1.getD i1.toNat ((YHk #[]),[],[])).2.2,(((h1.getD i1.toNat ((YHk #[]),[],[])).2.2).length:Int),(0:Int),m0_0,m0_1,h1,h2_0,h2_1,h2_2,h2_3,h3,h6)) fun y290=>alt2 y290 (fun y291=>some (y291.1,y291.2.1,y291.2.2.1,y291.2.2.2.1,y291.2.2.2.2.1,y291.2.2.2.2.2.1,y291.2.2.2.2.2.2.1,y291.2.2.2.2.2.2.2.1,y291.2.2.2.2.2.2.2.2.1,y291.2.2.2.2.2.2.2.2.2)) (fun y292=>some (true,y292.1,y292.2.1,y292.2.2.1,y292.2.2.2.1,y292.2.2.2.2.1,y292.2.2.2.2.2.1,y292.2.2.2.2.2.2.1,y292.2.2.2.2.2.2.2.1,y292.2.2.2.2.2.2.2.2))))
def YgU(lo:Lo):Nat->Int×Zt3×Zt0×Zt1×Int×Zt4×Bool×Bool× (List Int)×Zt11->Option (Bool×Zt3×Zt0×Zt1×Int×Zt4×Bool×Bool× (List Int)×Zt11)
  |0,_=>none
  |n+1,x=>Yxo lo (YgU lo n) x.1 x.2.1 x.2.2.1 x.2.2.2.1 x.2.2.2.2.1 x.2.2.2.2.2.1 x.2.2.2.2.2.2.1 x.2.2.2.2.2.2.2.1 x.2.2.2.2.2.2.2.2.1 x.2.2.2.2.2.2.2.2.2
def q72(lo:Lo)(i1:Int)(m0_0:List ByteArray)(m0_1:List (ByteArray×Zt7))(h1:List (ByteArray×Zt3×Zt12))(h2_0:Int)(h2_1:List (Int×ByteArray×Int×Int×ByteArray))(h2_2:Bool)(h2_3:Bool)(h3:List Int)(h6:List ((List Int))):Option (Bool×Zt3×Zt0×Zt1×Int×Zt4×Bool×Bool× (List Int)×Zt11):=lo.run (fixS (YgU lo)) (0,(i1,m0_0,m0_1,h1,h2_0,h2_1,h2_2,h2_3,h3,h6))
def Yxp:VFn:=⟨true,95,[.t 4],
 (Rg [oB 4 false]
 (.seq (Rg [oM 12 1,oM 13 0,o 14 (.nilc 13),oF 15 0 14,oF 16 1 15,oL 17 16,oN 18 17,oR 19 .eql 12 18]
 (.cond 19 (Rg [oM 20 0,o 21 (.nilc 20),oF 22 5 21,oL 23 22,o 24 (.dyn 23 []),oM 4 24]
 (.ow [(1000003,none,true),(1000006,none,true),(0,some 4,false),(0,some 2,false)] .ret))
 .skip))
 (.seq (Rg [oM 25 0,o 26 (.nilc 25),oF 27 2 26,oL 28 27,oM 29 1,oI 30 3 28 29,oF 31 2 30,oL 32 31,oN 33 32,oK 34 0]
 (.blk 0 (.loop 3 q72_L3_b)))
 (Rg [oB 4 true]
 (.ow [(1000003,none,true),(1000006,none,true),(0,some 4,false),(0,some 2,false)] .ret)))))⟩
def Ym2(lo:Lo):FnE:=YgS (fun x=>q72 lo x.1 x.2.1 x.2.2.1 x.2.2.2.1 x.2.2.2.2.1 x.2.2.2.2.2.1 x.2.2.2.2.2.2.1 x.2.2.2.2.2.2.2.1 x.2.2.2.2.2.2.2.2.1 x.2.2.2.2.2.2.2.2.2)
noncomputable def fs73(lo:Lo):List FnE:=Ym2 lo::fs72 lo
theorem Yxq(h:GZ P fm fs72 lo)(t:Ti P fm 515 Yxp):GZ P fm fs73 lo:=
  h.ir (Ym2 lo) (YgU lo) (ls:=fun rec=>Ym1 lo rec) (fun rec=>(Yxn lo rec)) t (by kernel_rfl) (fun _=>rfl) rfl (fun _=>by kernel_rfl) fun n x=>by kernel_rfl
def q73(lo:Lo)(db0:List (ByteArray×Zt3×Zt12))(q1_0:List ByteArray)(q1_1:List (ByteArray×Zt7))(answer2:List (Int×Int×ByteArray)):Option (Zt11×Int):=
  altO (q68 lo db0 q1_0 q1_1 answer2) (fun y240=>bif(!decide (y240.1=(0:Int)))then(some (([]:List ((List Int))),y240.1))else(YG1 (q72 lo (0:Int) y240.2.1 y240.2.2.1 y240.2.2.2.1 y240.2.2.2.2.1 y240.2.2.2.2.2.1 y240.2.2.2.2.2.2.1 y240.2.2.2.2.2.2.2.1 y240.2.2.2.2.2.2.2.2 []) fun y293=>chk (y293.2.2.2.1.length=y240.2.2.2.1.length) (bif(!y293.1)then(some (([]:List ((List Int))),(3:Int)))else(some (y293.2.2.2.2.2.2.2.2.2,(0:Int)))))) (YG1 (q67 lo db0 q1_0 q1_1 answer2) fun y294=>bif(!decide (y294=0))then(some (([]:List ((List Int))),y294))else(none))
def Yxr:VFn:=⟨true,29,[.t 6,.t 7],
 (Rg [oG 3 0,oG 4 1,o 6 (.mv (ke Zc17)),oK 7 0]
 (Rg [oT 12 1 3,oT 13 2 4,oM 14 2,oC 15 532 [12,13,14],oM 11 15,oE 16 11 0,oE 17 11 1,o 8 (.alloc [.nl]),oS 1 8 16,oM 9 17]
 (.seq (Rg [oM 18 9,oR 19 .neq 18 (k 0)]
 (.cond 19 (Rg [oM 20 9,o 6 (.mv (ke Zc17)),oM 7 20]
 (.fz [6,7] .ret))
 .skip))
 (Rg [o 10 (.alloc [.e Zc17])]
 (Rg [oL 21 8,o 22 (.mkf 534 [10,8]),o 23 (.nilc 21),oF 24 5 23,oS 1 24 22]
 (.ow [(10,some 0,false)] (.seq (Rg [oL 25 8,oC 26 515 [25,(k 0)],oX 27 26]
 (.cond 27 (Rg [o 6 (.mv (ke Zc17)),oK 7 3]
 (.fz [6,7] .ret))
 .skip))
 (Rg [oL 28 10,oM 6 28,oK 7 0]
 (.fz [6,7] .ret)))))))))⟩
def Ym3(lo:Lo):FnE:=Zfe 495 true (Zsg [0,1,2] [.ag [.l Zc6],.ag [.l (cs [.s]),.l Zc5],.l Zc10] []) (.tp [.l Zc17,.j]) [] (fun x=>q73 lo x.1 x.2.1 x.2.2.1 x.2.2.2:Zt1×Zt3×Zt0×Zt2->Option (Zt11×Int))
noncomputable def fs74(lo:Lo):List FnE:=Ym3 lo::fs73 lo
theorem Yxs(h:GZ P fm fs73 lo)(t:Ti P fm 495 Yxr):GZ P fm fs74 lo:=
  h.p (Ym3 lo) .n t
def q74(lo:Lo)(t0_0:ByteArray)(t0_1:Int)(t0_2:Int)(t0_3:ByteArray):Option Bool:=
  YG1 (q29 lo t0_0 t0_1 t0_2 t0_3) fun y301=>some (!y301)
def Yxt:VFn:=⟨true,6,[.t 2],
 (Rg [oG 1 0,oB 2 false]
 (Rg [oT 3 4 1,oC 4 504 [3],oX 5 4,oM 2 5]
 (Fr 2)))⟩
def Ym4(lo:Lo):FnE:=Zfe 545 true (Zsg [0] [.ag [.s,.j,.j,.s]] []) .b [] (fun x=>q74 lo x.1 x.2.1 x.2.2.1 x.2.2.2:Zp62->Option Bool)
noncomputable def fs75(lo:Lo):List FnE:=Ym4 lo::fs74 lo
theorem Yxu(h:GZ P fm fs74 lo)(t:Ti P fm 545 Yxt):GZ P fm fs75 lo:=
  h.p (Ym4 lo) .n t
def q75_L3_b:VCode:=
 (Rg [oR 9 .lss 8 7]
 (.seq (Ce 9 0)
 (.seq (.blk 1 (Rg [oM 10 8,oM 5 10]
 (Rg [oM 11 1,oM 12 0,oM 13 5,oI 14 4 12 13,oT 15 4 14,o 16 (.dyn 11 [15])]
 (.cond 16 (Rg [oM 17 5,oM 4 17]
 .ret)
 .skip))))
 (.reg [oR 18 .add 8 (k 1),oM 8 18]))))
def Yer(lo:Lo):Zt7×Int×Int->Option ((Zt7×Int×Int)⊕ (Int⊕Unit)):=fun x=>match x with
  | (s0,v7,v8)=>bif(decide (v8<v7))then(chk (0<=v8/\v8< (s0.length:Int)) (YG1 (q74 lo ((s0.getD v8.toNat Zd0).1) ((s0.getD v8.toNat Zd0).2.1) ((s0.getD v8.toNat Zd0).2.2.1) ((s0.getD v8.toNat Zd0).2.2.2)) fun y302=>bif y302 then(some (.inr (.inl v8)))else(some (.inl (s0,v7,(YHl .i64 (v8+1)))))))else(some (.inr (.inr ())))
def YgV(lo:Lo):Zt7×Int×Int->Option (Int⊕Unit):=lo.run (Yer lo)
def Yxv(lo:Lo):LpE:=⟨3,[],(Zsg [0,1,7,8] [.l Zc13,.clo 545 [],.j,.j] []),[⟨.ret,(Zsg [4] [.j] [])⟩,⟨.exit 0,(Zsg [] [] [])⟩],YgV lo⟩
def Yxw(lo:Lo):LL:=(Yxv lo,.loop q75_L3_b.er)::[]
theorem Yxx(lo:Lo):Lk lo pf (fs75 lo) 0 (Yxw lo):=.l .n (Yer lo)
def q75(lo:Lo)(s0:List Zp62):Option Int:=
  YG1 (YgV lo (s0,(s0.length:Int),(0:Int))) fun y303=>alt2 y303 (fun y304=>some y304) (fun y305=>some (-1:Int))
def Yxy:VFn:=⟨true,19,[.t 4],
 (Rg [oK 4 0]
 (.seq (Rg [oM 6 0,oN 7 6,oK 8 0]
 (.blk 0 (.loop 3 q75_L3_b)))
 (Rg [oK 4 (-1)]
 .ret)))⟩
def Ym5(lo:Lo):FnE:=Zfe 537 false (Zsg [0,1] [.l Zc13,.clo 545 []] []) (.i .i64) [] (fun x=>q75 lo x:Zt7->Option Int)
noncomputable def fs76(lo:Lo):List FnE:=Ym5 lo::fs75 lo
theorem Yxz(h:GZ P fm fs75 lo)(t:Ti P fm 537 Yxy):GZ P fm fs76 lo:=
  h.i (Ym5 lo) (Yxx lo) t
def q76(lo:Lo)(s0:List Zp62):Option Bool:=
  YG1 (q75 lo s0) fun y306=>some (decide (0<=y306))
def YxA:VFn:=⟨true,9,[.t 4],
 (Rg [oB 4 false]
 (Rg [oM 5 0,oM 6 1,oC 7 537 [5,6],oR 8 .geq 7 (k 0),oM 4 8]
 .ret))⟩
def Ym6(lo:Lo):FnE:=Zfe 502 false (Zsg [0,1] [.l Zc13,.clo 545 []] []) .b [] (fun x=>q76 lo x:Zt7->Option Bool)
noncomputable def fs77(lo:Lo):List FnE:=Ym6 lo::fs76 lo
theorem YxB(h:GZ P fm fs76 lo)(t:Ti P fm 502 YxA):GZ P fm fs77 lo:=
  h.i (Ym6 lo) .n t
end Go.Abs.G47
namespace Go.Abs.G47
open Go Go.Abs
set_option maxRecDepth 100000
set_option maxHeartbeats 1000000
variable{P:Program}{fm:FM}{lo:Lo}
def q77_L3_b:VCode:=
 (Rg [oR 19 .lss 18 17]
 (.seq (Ce 19 0)
 (.seq (.blk 1 (Rg [oI 20 2 16 18,oT 21 2 20,o 4 (.alloc [.s (⟨#[]⟩),.e Zc13]),oS 2 4 21]
 (Rg [oF 22 0 4,oL 23 22,oC 24 538 [23],oX 25 24,oM 26 25,gF 27 26 (.fad 1 4),gF 28 26 (.load false 1 27),gF 29 26 (.call 502 [28,(.c (.f 545))]),oP 30 26 (kb true) 29]
 (.cond 30 (Rg [oB 2 false]
 (Fr 2))
 .skip))))
 (.reg [oR 31 .add 18 (k 1),oM 18 31]))))
def Yes(lo:Lo):Zt0×Int×Int×Zt3×Zt0->Option ((Zt0×Int×Int×Zt3×Zt0)⊕ (Bool⊕ (Zt3×Zt0))):=fun x=>match x with
  | (v16,v17,v18,q1_0,q1_1)=>bif(decide (v18<v17))then(chk (0<=v18/\v18< (v16.length:Int)) (YG1 (q28 lo ((v16.getD v18.toNat ((YHk #[]),[])).1)) fun y300=>bif(!y300)then(some (.inr (.inl false)))else(YG1 (q76 lo ((v16.getD v18.toNat ((YHk #[]),[])).2)) fun y307=>bif y307 then(some (.inr (.inl false)))else(some (.inl (v16,v17,(YHl .i64 (v18+1)),q1_0,q1_1))))))else(some (.inr (.inr (q1_0,q1_1))))
def YgW(lo:Lo):Zt0×Int×Int×Zt3×Zt0->Option (Bool⊕ (Zt3×Zt0)):=lo.run (Yes lo)
def YxC(lo:Lo):LpE:=⟨3,[],(Zsg [1,16,17,18] [.ptr 0 0 0,.l Zc5,.j,.j] [.st [.l (cs [.s]),.l Zc5]]),[⟨.ret,(Zsg [2] [.b] [])⟩,⟨.exit 0,(Zsg [1] [.ptr 0 0 0] [.st [.l (cs [.s]),.l Zc5]])⟩],YgW lo⟩
def YxD(lo:Lo):LL:=(YxC lo,.loop q77_L3_b.er)::[]
theorem YxE(lo:Lo):Lk lo pf (fs77 lo) 0 (YxD lo):=.l .n (Yes lo)
def q77(lo:Lo)(q0_0:List ByteArray)(q0_1:List (ByteArray×Zt7)):Option Bool:=
  bif(decide ((q0_1.length:Int)<1))then(some false)else(bif(decide ((6:Int)< (q0_1.length:Int)))then(some false)else(YG1 (YgW lo (q0_1,(q0_1.length:Int),(0:Int),q0_0,q0_1)) fun y308=>alt2 y308 (fun y309=>some y309) (fun y310=>YG1 (q39 lo y310.1 y310.2) fun y311=>some y311)))
def YxF:VFn:=⟨true,34,[.t 2],
 (Rg [oG 1 0,oB 2 false]
 (.seq (Rg [oF 5 1 1,oL 6 5,oN 7 6,oR 8 .lss 7 (k 1),oM 9 8,gF 10 9 (.fad 1 1),gF 11 9 (.load false 1 10),gF 12 9 (.len 11),gF 13 9 (.bin .gtr 12 (k 6)),oP 14 9 (kb true) 13]
 (.cond 14 (Rg [oB 2 false]
 (Fr 2))
 .skip))
 (.seq (Rg [oF 15 1 1,oL 16 15,oN 17 16,oK 18 0]
 (.blk 0 (.loop 3 q77_L3_b)))
 (Rg [oT 32 2 1,oC 33 505 [32],oM 2 33]
 (Fr 2)))))⟩
def Ym7(lo:Lo):FnE:=Zfe 519 true (Zsg [0] [.ag [.l (cs [.s]),.l Zc5]] []) .b [] (fun x=>q77 lo x.1 x.2:Zt3×Zt0->Option Bool)
noncomputable def fs78(lo:Lo):List FnE:=Ym7 lo::fs77 lo
theorem YxG(h:GZ P fm fs77 lo)(t:Ti P fm 519 YxF):GZ P fm fs78 lo:=
  h.p (Ym7 lo) (YxE lo) t
def q78(lo:Lo)(l:List ByteArray):Option Zt3:=bif YGR l.length maxEl&&YGR 1 1 then some l else none
def YxH(lo:Lo):FnE:=vcloneE 269 (cs [.s])
noncomputable def fs79(lo:Lo):List FnE:=YxH lo::fs78 lo
theorem YxI(h:GZ P fm fs78 lo)(htie: ∀f,fm f=269->fnTr P fm pf f=some (8,[.t 2],YCq 1 [(.string (⟨#[]⟩))])):GZ P fm fs79 lo:=
  ⟨h.1,h.2,YdX h.S h.mx (cs [.s]) rfl [(.string (⟨#[]⟩))] 8 (by decide) htie⟩
def q79(lo:Lo)(l:List Zp62):Option Zt7:=bif YGR l.length maxEl&&YGR 1 4 then some l else none
def YxJ(lo:Lo):FnE:=vcloneE 527 Zc13
noncomputable def fs80(lo:Lo):List FnE:=YxJ lo::fs79 lo
theorem YxK(h:GZ P fm fs79 lo)(htie: ∀f,fm f=527->fnTr P fm pf f=some (8,[.t 2],YCq 4 [(.string (⟨#[]⟩)),(.int .i64 0),(.int .i64 0),(.string (⟨#[]⟩))])):GZ P fm fs80 lo:=
  ⟨h.1,h.2,YdX h.S h.mx Zc13 rfl [(.string (⟨#[]⟩)),(.int .i64 0),(.int .i64 0),(.string (⟨#[]⟩))] 8 (by decide) htie⟩
def q80(lo:Lo)(n:Int):Option Zt0:=bif decide (0<=n)&&decide (n<=1048576)then some []else none
def YxL(lo:Lo):FnE:=vgrowE 548 Zc5
noncomputable def fs81(lo:Lo):List FnE:=YxL lo::fs80 lo
theorem YxM(h:GZ P fm fs80 lo)(hG: ∀f,fm f=548->YBT P f=true/\ ∃ρ:Go.Shelf.Ren,Go.Proofs.Lays8.n4 P ρ/\ρ.f 4=f/\YCZ P (ρ.t 25) 2=true):GZ P fm fs81 lo:=
  ⟨h.1,h.2,YsJ h.S Zc5 rfl (by decide) hG⟩
def q81_L11_b:VCode:=
 (Rg [oR 12 .lss 11 10]
 (.seq (Ce 12 0)
 (.seq (.blk 1 (Rg [oI 13 1 9 11,oL 14 13,oM 5 14]
 (Rg [oM 15 3,oM 16 5,oN 17 16,oR 18 .add 15 17,oM 3 18]
 (Rg [oM 19 3,oR 20 .lss 19 (k 0)]
 (.cond 20 .bad
 .skip)))))
 (.reg [oR 22 .add 11 (k 1),oM 11 22]))))
def Yet(lo:Lo):Zp55->Option (Zp55⊕ (((List (Zt0))×Int))):=fun x=>match x with
  | (slices0,size3,v9,v10,v11)=>bif(decide (v11<v10))then(chk (0<=v11/\v11< (v9.length:Int)) (bif(decide ((YHl .i64 (size3+((v9.getD v11.toNat []).length:Int)))< (0:Int)))then(none)else(some (.inl (slices0,(YHl .i64 (size3+((v9.getD v11.toNat []).length:Int))),v9,v10,(YHl .i64 (v11+1)))))))else(some (.inr (slices0,size3)))
def YgX(lo:Lo):Zp55->Option (((List (Zt0))×Int)):=lo.run (Yet lo)
def YxN(lo:Lo):LpE:=⟨11,[],(Zsg [0,3,9,10,11] [.l (cs [.l Zc5]),.j,.l (cs [.l Zc5]),.j,.j] []),[⟨.exit 0,(Zsg [0,3] [.l (cs [.l Zc5]),.j] [])⟩],YgX lo⟩
def Ym8(lo:Lo):LL:=(YxN lo,.loop q81_L11_b.er)::[]
theorem YxO(lo:Lo):Lk lo pf (fs81 lo) 0 (Ym8 lo):=.l .n (Yet lo)
def q81_L3_b:VCode:=
 (Rg [oR 28 .lss 27 26]
 (.seq (Ce 28 2)
 (.seq (.blk 3 (Rg [oI 29 1 25 27,oL 30 29,oM 8 30]
 (.reg [oM 31 6,oM 32 8,o 33 (.app Zc5 0 31 32),oM 6 33])))
 (.reg [oR 34 .add 27 (k 1),oM 27 34]))))
def Yeu(lo:Lo):(List (Zt0))×Int×Int×Zt0->Option (((List (Zt0))×Int×Int×Zt0)⊕ ((Zt0))):=fun x=>match x with
  | (v25,v26,v27,newslice6)=>bif(decide (v27<v26))then(chk (0<=v27/\v27< (v25.length:Int)) (chk (newslice6.length+(v25.getD v27.toNat []).length<=maxEl) (some (.inl (v25,v26,(YHl .i64 (v27+1)),(newslice6++(v25.getD v27.toNat [])))))))else(some (.inr newslice6))
def YgY(lo:Lo):(List (Zt0))×Int×Int×Zt0->Option ((Zt0)):=lo.run (Yeu lo)
def YxP(lo:Lo):LpE:=⟨3,[],(Zsg [6,25,26,27] [.ref 0,.l (cs [.l Zc5]),.j,.j] [.sq Zc5]),[⟨.exit 2,(Zsg [6] [.ref 0] [.sq Zc5])⟩],YgY lo⟩
def YxQ(lo:Lo):LL:=(YxP lo,.loop q81_L3_b.er)::Ym8 lo
theorem YxR(lo:Lo):Lk lo pf (fs81 lo) 0 (YxQ lo):=.l (YxO lo) (Yeu lo)
def q81(lo:Lo)(slices0:List (Zt0)):Option (Zt0):=
  YG1 (YgX lo (slices0,(0:Int),slices0,(slices0.length:Int),(0:Int))) fun y320=>YG1 (q80 lo y320.2) fun y321=>YG1 (YgY lo (y320.1,(y320.1.length:Int),(0:Int),y321)) fun y322=>some y322
def YxS:VFn:=⟨true,36,[.t 2],
 (Rg [o 2 (.mv (ke Zc5))]
 (Rg [oK 3 0]
 (.seq (Rg [oM 9 0,oN 10 9,oK 11 0]
 (.blk 0 (.loop 11 q81_L11_b)))
 (Rg [oM 23 3,oC 24 548 [(ke Zc5),23],oM 6 24]
 (.seq (Rg [oM 25 0,oN 26 25,oK 27 0]
 (.blk 2 (.loop 3 q81_L3_b)))
 (Rg [oM 35 6,oM 2 35]
 (Fr 2)))))))⟩
def Ym9(lo:Lo):FnE:=Zfe 528 true (Zsg [0] [.l (cs [.l Zc5])] []) (.l Zc5) [] (fun x=>q81 lo x:(List (Zt0))->Option (Zt0))
noncomputable def fs82(lo:Lo):List FnE:=Ym9 lo::fs81 lo
theorem YxT(h:GZ P fm fs81 lo)(t:Ti P fm 528 YxS):GZ P fm fs82 lo:=
  h.p (Ym9 lo) (YxR lo) t
def q82_J13_b:VCode:=
 (Rg [oM 46 12,oX 47 46]
 (.cond 47 (Rg [oM 48 0,oF 49 0 10,oL 50 49,oF 51 1 5,oL 52 51,oM 53 9,oI 54 4 52 53,oT 55 4 54,on (.mput none .s Zc10 true 48 50 55)]
 (.reg [oM 56 8,oF 57 0 10,oL 58 57,o 59 (.bsl (cs [.s]) 1 [(0,58)]),o 60 (.app (cs [.s]) 0 56 59),oM 8 60]))
 (Rg [oT 61 4 11,oF 62 1 5,oL 63 62,oM 64 9,oI 65 4 63 64,oT 66 4 65,o 67 (.eqa true [2,1,1,2] 61 66)]
 (.cond 67 (Rg [oM 68 8,oM 6 68,oB 7 false]
 (Fr 6))
 .skip))))
def Yev(lo:Lo):Int×Bool×Zt7×Int×Int×Int×Zt8×Bool×Bool×ByteArray×Zt7×Zt3×ByteArray×Int×Int×ByteArray×ByteArray×Int×Int×ByteArray->Option (Zp43⊕ (Zt3×Bool×Int×Zt8×Bool×Bool)):=fun x=>match x with
  | (i9,known12,v28,v29,v30,h0_0,h0_1,h0_2,h0_3,b5_0,b5_1,fresh8,t10_0,t10_1,t10_2,t10_3,image11_0,image11_1,image11_2,image11_3)=>bif(!known12)then(chk (0<=i9/\i9< (b5_1.length:Int)) (chk (fresh8.length+[t10_0].length<=maxEl) (some (.inl (v28,v29,v30,(mck eqS h0_0 t10_0 h0_1),(mpt eqS h0_0 t10_0 (b5_1.getD i9.toNat Zd0) h0_1),h0_2,h0_3,b5_0,b5_1,(fresh8++[t10_0]))))))else(chk (0<=i9/\i9< (b5_1.length:Int)) (bif(!((decide (image11_0=(b5_1.getD i9.toNat Zd0).1))&& ((decide (image11_1=(b5_1.getD i9.toNat Zd0).2.1))&& ((decide (image11_2=(b5_1.getD i9.toNat Zd0).2.2.1))&& ((decide (image11_3=(b5_1.getD i9.toNat Zd0).2.2.2))&&true)))))then(some (.inr (fresh8,false,h0_0,h0_1,h0_2,h0_3)))else(some (.inl (v28,v29,v30,h0_0,h0_1,h0_2,h0_3,b5_0,b5_1,fresh8)))))
def YxU(lo:Lo):LpE:=⟨13,[],(Zsg [0,5,8,9,10,11,12,28,29,30] [.np 0,.ptr 1 0 0,.ref 2,.j,.ptr 3 0 0,.ptr 4 0 0,.b,.l Zc13,.j,.j] [.st [.j,.l Zc18,.b,.b],.st [.s,.l Zc13],.sq (cs [.s]),.st [.s,.j,.j,.s],.st [.s,.j,.j,.s]]),[⟨.nor,(Zsg [0,5,8,28,29,30] [.np 0,.ptr 1 0 0,.ref 2,.l Zc13,.j,.j] [.st [.j,.l Zc18,.b,.b],.st [.s,.l Zc13],.sq (cs [.s])])⟩,⟨.ret,(Zsg [6,7] [.l (cs [.s]),.b] [.st [.j,.l Zc18,.b,.b]])⟩],Yev lo⟩
def Yna(lo:Lo):LL:=(YxU lo,q82_J13_b.er)::[]
theorem YxV(lo:Lo):Lk lo pf (fs82 lo) 1 (Yna lo):=.j .n
def q82_L3_b:VCode:=
 (Rg [oR 31 .lss 30 29]
 (.seq (Ce 31 0)
 (.seq (.blk 1 (Rg [oM 32 30,oI 33 4 28 30,oT 34 4 33,o 10 (.alloc [.s (⟨#[]⟩),.i .i64 0,.i .i64 0,.s (⟨#[]⟩)]),oM 9 32,oS 4 10 34]
 (Rg [oT 35 4 10,o 11 (.alloc [.s (⟨#[]⟩),.i .i64 0,.i .i64 0,.s (⟨#[]⟩)]),oS 4 11 35,oB 12 true]
 (.seq (Rg [oF 36 0 10,oL 37 36,oR 38 .neq 37 (ks (⟨#[]⟩))]
 (.cond 38 (.reg [oM 40 0,oF 41 0 10,oL 42 41,o 43 (.mget none .s Zc10 true true 40 42),oM 39 43,oE 44 39 0,oE 45 39 1,oS 4 11 44,oM 12 45])
 .skip))
 (.jn 13 q82_J13_b)))))
 (.reg [oR 69 .add 30 (k 1),oM 30 69]))))
def YcX(lo:Lo):Zp43->Option (Zp43⊕ ((Zt3×Bool×Int×Zt8×Bool×Bool)⊕ (Int×Zt8×Bool×Bool×Zt3))):=fun x=>match x with
  | (v28,v29,v30,h0_0,h0_1,h0_2,h0_3,b5_0,b5_1,fresh8)=>bif(decide (v30<v29))then(chk (0<=v30/\v30< (v28.length:Int)) (bif(!decide ((v28.getD v30.toNat Zd0).1=(YHk #[])))then(YG1 (Yev lo (v30,(mhs eqS ((v28.getD v30.toNat Zd0).1) h0_1),v28,v29,v30,h0_0,h0_1,h0_2,h0_3,b5_0,b5_1,fresh8,(v28.getD v30.toNat Zd0).1,(v28.getD v30.toNat Zd0).2.1,(v28.getD v30.toNat Zd0).2.2.1,(v28.getD v30.toNat Zd0).2.2.2,(mgt eqS ((v28.getD v30.toNat Zd0).1) h0_1 Zd0).1,(mgt eqS ((v28.getD v30.toNat Zd0).1) h0_1 Zd0).2.1,(mgt eqS ((v28.getD v30.toNat Zd0).1) h0_1 Zd0).2.2.1,(mgt eqS ((v28.getD v30.toNat Zd0).1) h0_1 Zd0).2.2.2)) fun y337=>alt2 y337 (fun y338=>some (.inl (y338.1,y338.2.1,(YHl .i64 (y338.2.2.1+(1:Int))),y338.2.2.2.1,y338.2.2.2.2.1,y338.2.2.2.2.2.1,y338.2.2.2.2.2.2.1,y338.2.2.2.2.2.2.2.1,y338.2.2.2.2.2.2.2.2.1,y338.2.2.2.2.2.2.2.2.2))) (fun y339=>some (.inr (.inl (y339.1,y339.2.1,y339.2.2.1,y339.2.2.2.1,y339.2.2.2.2.1,y339.2.2.2.2.2)))))else(YG1 (Yev lo (v30,true,v28,v29,v30,h0_0,h0_1,h0_2,h0_3,b5_0,b5_1,fresh8,(v28.getD v30.toNat Zd0).1,(v28.getD v30.toNat Zd0).2.1,(v28.getD v30.toNat Zd0).2.2.1,(v28.getD v30.toNat Zd0).2.2.2,(v28.getD v30.toNat Zd0).1,(v28.getD v30.toNat Zd0).2.1,(v28.getD v30.toNat Zd0).2.2.1,(v28.getD v30.toNat Zd0).2.2.2)) fun y340=>alt2 y340 (fun y341=>some (.inl (y341.1,y341.2.1,(YHl .i64 (y341.2.2.1+(1:Int))),y341.2.2.2.1,y341.2.2.2.2.1,y341.2.2.2.2.2.1,y341.2.2.2.2.2.2.1,y341.2.2.2.2.2.2.2.1,y341.2.2.2.2.2.2.2.2.1,y341.2.2.2.2.2.2.2.2.2))) (fun y342=>some (.inr (.inl (y342.1,y342.2.1,y342.2.2.1,y342.2.2.2.1,y342.2.2.2.2.1,y342.2.2.2.2.2)))))))else(some (.inr (.inr (h0_0,h0_1,h0_2,h0_3,fresh8))))
def YgZ(lo:Lo):Zp43->Option ((Zt3×Bool×Int×Zt8×Bool×Bool)⊕ (Int×Zt8×Bool×Bool×Zt3)):=lo.run (YcX lo)
def YxW(lo:Lo):LpE:=⟨3,[(8,none,false)],(Zsg [0,5,8,28,29,30] [.np 0,.ptr 1 0 0,.ref 2,.l Zc13,.j,.j] [.st [.j,.l Zc18,.b,.b],.st [.s,.l Zc13],.sq (cs [.s])]),[⟨.ret,(Zsg [6,7] [.l (cs [.s]),.b] [.st [.j,.l Zc18,.b,.b]])⟩,⟨.exit 0,(Zsg [8] [.ref 1] [.st [.j,.l Zc18,.b,.b],.sq (cs [.s])])⟩],YgZ lo⟩
def YxX(lo:Lo):LL:=(YxW lo,.loop q82_L3_b.er)::Yna lo
theorem YxY(lo:Lo):Lk lo pf (fs82 lo) 1 (YxX lo):=.l (YxV lo) (YcX lo)
def q82(lo:Lo)(a1_0:ByteArray)(a1_1:List Zp62)(b2_0:ByteArray)(b2_1:List Zp62)(h0_0:Int)(h0_1:List (Int×ByteArray×ByteArray×Int×Int×ByteArray))(h0_2:Bool)(h0_3:Bool):Option (Zt3×Bool×Int×Zt8×Bool×Bool):=
  bif(!decide (a1_0=b2_0))then(some (([]:List ByteArray),false,h0_0,h0_1,h0_2,h0_3))else(bif(!decide ((a1_1.length:Int)=(b2_1.length:Int)))then(some (([]:List ByteArray),false,h0_0,h0_1,h0_2,h0_3))else(YG1 (YgZ lo (a1_1,(a1_1.length:Int),(0:Int),h0_0,h0_1,h0_2,h0_3,b2_0,b2_1,[])) fun y343=>alt2 y343 (fun y344=>some (y344.1,y344.2.1,y344.2.2.1,y344.2.2.2.1,y344.2.2.2.2.1,y344.2.2.2.2.2)) (fun y345=>some (y345.2.2.2.2,true,y345.1,y345.2.1,y345.2.2.1,y345.2.2.2.1))))
def YxZ:VFn:=⟨true,71,[.t 6,.t 7],
 (Rg [oG 4 1,oG 5 2,o 6 (.mv (ke (cs [.s]))),oB 7 false]
 (Rg [o 8 (.mv (ke (cs [.s])))]
 (.seq (Rg [oF 13 0 4,oL 14 13,oF 15 0 5,oL 16 15,oR 17 .neq 14 16,oM 18 17,gF 19 18 (.fad 1 4),gF 20 18 (.load false 1 19),gF 21 18 (.len 20),gF 22 18 (.fad 1 5),gF 23 18 (.load false 1 22),gF 24 18 (.len 23),gF 25 18 (.bin .neq 21 24),oP 26 18 (kb true) 25]
 (.cond 26 (Rg [o 6 (.mv (ke (cs [.s]))),oB 7 false]
 (Fr 6))
 .skip))
 (.seq (Rg [oF 27 1 4,oL 28 27,oN 29 28,oK 30 0]
 (.blk 0 (.loop 3 q82_L3_b)))
 (Rg [oM 70 8,oM 6 70,oB 7 true]
 (Fr 6))))))⟩
def Ynb(lo:Lo):FnE:=Zfe 546 false (Zsg [0,1,2] [.np 0,.ag [.s,.l Zc13],.ag [.s,.l Zc13]] [.st [.j,.l Zc18,.b,.b]]) (.tp [.l (cs [.s]),.b]) [.st [.j,.l Zc18,.b,.b]] (fun x=>q82 lo x.1 x.2.1 x.2.2.1 x.2.2.2.1 x.2.2.2.2.1 x.2.2.2.2.2.1 x.2.2.2.2.2.2.1 x.2.2.2.2.2.2.2:ByteArray×Zt7×ByteArray×Zt7×Int×Zt8×Bool×Bool->Option (Zt3×Bool×Int×Zt8×Bool×Bool))
noncomputable def fs83(lo:Lo):List FnE:=Ynb lo::fs82 lo
theorem Yx0(h:GZ P fm fs82 lo)(t:Ti P fm 546 YxZ):GZ P fm fs83 lo:=
  h.i (Ynb lo) (YxY lo) t
def Yg0(F:Zp61->Option (Bool×Int×Zt8×Bool×Bool)):FnE:=⟨520,false,(Zsg [0,1,2] [.np 0,.l Zc5,.l Zc5] [.st [.j,.l Zc18,.b,.b]]),.b,[.st [.j,.l Zc18,.b,.b]],(cs [.b,I,.l Zc18,.b,.b]),F⟩
def q83_L5_b:VCode:=
 (Rg [oR 42 .lss 41 40]
 (.seq (Ce 42 2)
 (.seq (.blk 3 (Rg [oI 43 1 39 41,oL 44 43,oM 12 44]
 (.reg [oM 45 0,oM 46 12,on (.mdel none .s Zc10 45 46)])))
 (.reg [oR 47 .add 41 (k 1),oM 41 47]))))
def YcY(lo:Lo)(rec:Zp61->Option (Bool×Int×Zt8×Bool×Bool)):Zp41->Option (Zp41⊕ (Zp46)):=fun x=>match x with
  | (rest1,to2,v16,v17,v18,v39,v40,v41,h0_0,h0_1,h0_2,h0_3)=>bif(decide (v41<v40))then(chk (0<=v41/\v41< (v39.length:Int)) (some (.inl (rest1,to2,v16,v17,v18,v39,v40,(YHl .i64 (v41+1)),h0_0,(mdl eqS (v39.getD v41.toNat (YHk #[])) h0_1),h0_2,h0_3))))else(some (.inr (rest1,to2,v16,v17,v18,h0_0,h0_1,h0_2,h0_3)))
def Yb6(lo:Lo)(rec:Zp61->Option (Bool×Int×Zt8×Bool×Bool)):Zp41->Option (Zp46):=lo.run (YcY lo rec)
def Yx1(lo:Lo)(rec:Zp61->Option (Bool×Int×Zt8×Bool×Bool)):LpE:=⟨5,[],(Zsg [0,1,2,16,17,18,39,40,41] [.np 0,.l Zc5,.l Zc5,.l Zc5,.j,.j,.l (cs [.s]),.j,.j] [.st [.j,.l Zc18,.b,.b]]),[⟨.exit 2,(Zsg [0,1,2,16,17,18] [.np 0,.l Zc5,.l Zc5,.l Zc5,.j,.j] [.st [.j,.l Zc18,.b,.b]])⟩],Yb6 lo rec⟩
def Ync(lo:Lo)(rec:Zp61->Option (Bool×Int×Zt8×Bool×Bool)):LL:=(Yx1 lo rec,.loop q83_L5_b.er)::[]
theorem Yx2(lo:Lo)(rec:Zp61->Option (Bool×Int×Zt8×Bool×Bool)):Lk lo pf (Yg0 rec::fs83 lo) 1 (Ync lo rec):=.l .n (YcY lo rec)
def q83_L3_b:VCode:=
 (Rg [oR 19 .lss 18 17]
 (.seq (Ce 19 0)
 (.seq (.blk 1 (Rg [oI 20 2 16 18,oT 21 2 20,o 8 (.alloc [.s (⟨#[]⟩),.e Zc13]),oS 2 8 21]
 (Rg [oM 23 0,oM 24 1,o 25 (.iad 2 24 (k 0)),oT 26 2 25,oT 27 2 8,oC 28 546 [23,26,27],oM 22 28,oE 29 22 0,oE 30 22 1,oM 9 29,oM 10 30]
 (.seq (Rg [oM 31 10,oM 32 31,gT 33 32 (.mv 0),gT 34 32 (.mv 1),gT 35 32 (.slcR 2 34 (some (k 1)) none),gT 36 32 (.mv 2),gT 37 32 (.call 520 [33,35,36]),oP 38 32 37 (kb false)]
 (.cond 38 (Rg [oB 6 true]
 .ret)
 .skip))
 (Rg [oM 39 9,oN 40 39,oK 41 0]
 (.blk 2 (.loop 5 q83_L5_b)))))))
 (.reg [oR 48 .add 18 (k 1),oM 18 48]))))
def YbJ(lo:Lo)(rec:Zp61->Option (Bool×Int×Zt8×Bool×Bool)):Zp46->Option (Zp46⊕ ((Bool×Int×Zt8×Bool×Bool)⊕ (Int×Zt8×Bool×Bool))):=fun x=>match x with
  | (rest1,to2,v16,v17,v18,h0_0,h0_1,h0_2,h0_3)=>bif(decide (v18<v17))then(chk (0<=v18/\v18< (v16.length:Int)) (chk (0<=(0:Int)/\ (0:Int)< (rest1.length:Int)) (YG1 (q82 lo ((rest1.getD 0 ((YHk #[]),[])).1) ((rest1.getD 0 ((YHk #[]),[])).2) ((v16.getD v18.toNat ((YHk #[]),[])).1) ((v16.getD v18.toNat ((YHk #[]),[])).2) h0_0 h0_1 h0_2 h0_3) fun y346=>bif y346.2.1 then(chk (0<=(1:Int)/\ (1:Int)<=(rest1.length:Int)/\ (rest1.length:Int)<=(rest1.length:Int)) (YG1 (rec (((rest1.take (rest1.length:Int).toNat).drop 1),to2,y346.2.2.1,y346.2.2.2.1,y346.2.2.2.2.1,y346.2.2.2.2.2)) fun y347=>bif y347.1 then(some (.inr (.inl (true,y347.2.1,y347.2.2.1,y347.2.2.2.1,y347.2.2.2.2))))else(YG1 (Yb6 lo rec (rest1,to2,v16,v17,v18,y346.1,(y346.1.length:Int),(0:Int),y347.2.1,y347.2.2.1,y347.2.2.2.1,y347.2.2.2.2)) fun y348=>some (.inl (y348.1,y348.2.1,y348.2.2.1,y348.2.2.2.1,(YHl .i64 (y348.2.2.2.2.1+(1:Int))),y348.2.2.2.2.2.1,y348.2.2.2.2.2.2.1,y348.2.2.2.2.2.2.2.1,y348.2.2.2.2.2.2.2.2)))))else(YG1 (Yb6 lo rec (rest1,to2,v16,v17,v18,y346.1,(y346.1.length:Int),(0:Int),y346.2.2.1,y346.2.2.2.1,y346.2.2.2.2.1,y346.2.2.2.2.2)) fun y349=>some (.inl (y349.1,y349.2.1,y349.2.2.1,y349.2.2.2.1,(YHl .i64 (y349.2.2.2.2.1+(1:Int))),y349.2.2.2.2.2.1,y349.2.2.2.2.2.2.1,y349.2.2.2.2.2.2.2.1,y349.2.2.2.2.2.2.2.2))))))else(some (.inr (.inr (h0_0,h0_1,h0_2,h0_3))))
def Yb7(lo:Lo)(rec:Zp61->Option (Bool×Int×Zt8×Bool×Bool)):Zp46->Option ((Bool×Int×Zt8×Bool×Bool)⊕ (Int×Zt8×Bool×Bool)):=lo.run (YbJ lo rec)
def Yx3(lo:Lo)(rec:Zp61->Option (Bool×Int×Zt8×Bool×Bool)):LpE:=⟨3,[],(Zsg [0,1,2,16,17,18] [.np 0,.l Zc5,.l Zc5,.l Zc5,.j,.j] [.st [.j,.l Zc18,.b,.b]]),[⟨.ret,(Zsg [6] [.b] [.st [.j,.l Zc18,.b,.b]])⟩,⟨.exit 0,(Zsg [] [] [.st [.j,.l Zc18,.b,.b]])⟩],Yb7 lo rec⟩
def Ynd(lo:Lo)(rec:Zp61->Option (Bool×Int×Zt8×Bool×Bool)):LL:=(Yx3 lo rec,.loop q83_L3_b.er)::Ync lo rec
theorem Yx4(lo:Lo)(rec:Zp61->Option (Bool×Int×Zt8×Bool×Bool)):Lk lo pf (Yg0 rec::fs83 lo) 1 (Ynd lo rec):=.l (Yx2 lo rec) (YbJ lo rec)
def Yew(lo:Lo)(rec:Zp61->Option (Bool×Int×Zt8×Bool×Bool))(rest1:List (ByteArray×Zt7))(to2:List (ByteArray×Zt7))(h0_0:Int)(h0_1:List (Int×ByteArray×ByteArray×Int×Int×ByteArray))(h0_2:Bool)(h0_3:Bool):Option (Bool×Int×Zt8×Bool×Bool):=
  bif(decide ((rest1.length:Int)=0))then(some (true,h0_0,h0_1,h0_2,h0_3))else(YG1 (Yb7 lo rec (rest1,to2,to2,(to2.length:Int),(0:Int),h0_0,h0_1,h0_2,h0_3)) fun y350=>alt2 y350 (fun y351=>some (y351.1,y351.2.1,y351.2.2.1,y351.2.2.2.1,y351.2.2.2.2)) (fun y352=>some (false,y352.1,y352.2.1,y352.2.2.1,y352.2.2.2)))
def Ya9(lo:Lo):Nat->Zt0×Zt0×Int×Zt8×Bool×Bool->Option (Bool×Int×Zt8×Bool×Bool)
  |0,_=>none
  |n+1,x=>Yew lo (Ya9 lo n) x.1 x.2.1 x.2.2.1 x.2.2.2.1 x.2.2.2.2.1 x.2.2.2.2.2
def q83(lo:Lo)(rest1:List (ByteArray×Zt7))(to2:List (ByteArray×Zt7))(h0_0:Int)(h0_1:List (Int×ByteArray×ByteArray×Int×Int×ByteArray))(h0_2:Bool)(h0_3:Bool):Option (Bool×Int×Zt8×Bool×Bool):=lo.run (fixS (Ya9 lo)) (0,(rest1,to2,h0_0,h0_1,h0_2,h0_3))
def Yx5:VFn:=⟨true,49,[.t 6],
 (Rg [oB 6 false]
 (.seq (Rg [oM 13 1,oN 14 13,oR 15 .eql 14 (k 0)]
 (.cond 15 (Rg [oB 6 true]
 .ret)
 .skip))
 (.seq (Rg [oM 16 2,oN 17 16,oK 18 0]
 (.blk 0 (.loop 3 q83_L3_b)))
 (Rg [oB 6 false]
 .ret))))⟩
def Yne(lo:Lo):FnE:=Yg0 (fun x=>q83 lo x.1 x.2.1 x.2.2.1 x.2.2.2.1 x.2.2.2.2.1 x.2.2.2.2.2)
noncomputable def fs84(lo:Lo):List FnE:=Yne lo::fs83 lo
theorem Yx6(h:GZ P fm fs83 lo)(t:Ti P fm 520 Yx5):GZ P fm fs84 lo:=
  h.ir (Yne lo) (Ya9 lo) (ls:=fun rec=>Ynd lo rec) (fun rec=>(Yx4 lo rec)) t (by kernel_rfl) (fun _=>rfl) rfl (fun _=>by kernel_rfl) fun n x=>by kernel_rfl
def q84_L5_b:VCode:=
 (Rg [oR 18 .lss 17 16]
 (.seq (Ce 18 2)
 (.seq (.blk 3 (Rg [oI 19 4 15 17,oT 20 4 19,o 7 (.alloc [.s (⟨#[]⟩),.i .i64 0,.i .i64 0,.s (⟨#[]⟩)]),oS 4 7 20]
 (Rg [oF 21 0 7,oL 22 21,oR 23 .neq 22 (ks (⟨#[]⟩)),oM 24 23,gT 25 24 (.mv 3),gT 26 24 (.fad 0 7),gT 27 24 (.load false 1 26),gT 28 24 (.call 256 [25,27]),gT 29 24 (.not 28),oP 30 24 29 (kb false)]
 (.cond 30 (.reg [oM 31 3,oF 32 0 7,oL 33 32,o 34 (.bsl (cs [.s]) 1 [(0,33)]),o 35 (.app (cs [.s]) 0 31 34),oM 3 35])
 .skip))))
 (.reg [oR 36 .add 17 (k 1),oM 17 36]))))
def Yex(lo:Lo):Zp58->Option (Zp58⊕ ((Zt0×Int×Int×Zt3))):=fun x=>match x with
  | (v8,v9,v10,v15,v16,v17,out3)=>bif(decide (v17<v16))then(chk (0<=v17/\v17< (v15.length:Int)) (bif(!decide ((v15.getD v17.toNat Zd0).1=(YHk #[])))then(YG1 (q5 lo out3 ((v15.getD v17.toNat Zd0).1)) fun y354=>bif(!y354)then(chk (out3.length+([(v15.getD v17.toNat Zd0).1]).length<=maxEl) (some (.inl (v8,v9,v10,v15,v16,(YHl .i64 (v17+1)),(out3++([(v15.getD v17.toNat Zd0).1]))))))else(some (.inl (v8,v9,v10,v15,v16,(YHl .i64 (v17+1)),out3))))else(some (.inl (v8,v9,v10,v15,v16,(YHl .i64 (v17+1)),out3)))))else(some (.inr (v8,v9,v10,out3)))
def Yg1(lo:Lo):Zp58->Option ((Zt0×Int×Int×Zt3)):=lo.run (Yex lo)
def Yx7(lo:Lo):LpE:=⟨5,[],(Zsg [3,8,9,10,15,16,17] [.ref 0,.l Zc5,.j,.j,.l Zc13,.j,.j] [.sq (cs [.s])]),[⟨.exit 2,(Zsg [3,8,9,10] [.ref 0,.l Zc5,.j,.j] [.sq (cs [.s])])⟩],Yg1 lo⟩
def Ynf(lo:Lo):LL:=(Yx7 lo,.loop q84_L5_b.er)::[]
theorem Yx8(lo:Lo):Lk lo pf (fs84 lo) 0 (Ynf lo):=.l .n (Yex lo)
def q84_L3_b:VCode:=
 (Rg [oR 11 .lss 10 9]
 (.seq (Ce 11 0)
 (.seq (.blk 1 (Rg [oI 12 2 8 10,oT 13 2 12,o 5 (.alloc [.s (⟨#[]⟩),.e Zc13]),oS 2 5 13]
 (Rg [oF 14 1 5,oL 15 14,oN 16 15,oK 17 0]
 (.blk 2 (.loop 5 q84_L5_b)))))
 (.reg [oR 37 .add 10 (k 1),oM 10 37]))))
def Yey(lo:Lo):Zt0×Int×Int×Zt3->Option ((Zt0×Int×Int×Zt3)⊕ ((Zt3))):=fun x=>match x with
  | (v8,v9,v10,out3)=>bif(decide (v10<v9))then(chk (0<=v10/\v10< (v8.length:Int)) (YG1 (Yg1 lo (v8,v9,v10,(v8.getD v10.toNat ((YHk #[]),[])).2,(((v8.getD v10.toNat ((YHk #[]),[])).2).length:Int),(0:Int),out3)) fun y355=>some (.inl (y355.1,y355.2.1,(YHl .i64 (y355.2.2.1+(1:Int))),y355.2.2.2))))else(some (.inr out3))
def Yg2(lo:Lo):Zt0×Int×Int×Zt3->Option ((Zt3)):=lo.run (Yey lo)
def Yx9(lo:Lo):LpE:=⟨3,[(3,none,false)],(Zsg [3,8,9,10] [.ref 0,.l Zc5,.j,.j] [.sq (cs [.s])]),[⟨.exit 0,(Zsg [3] [.ref 0] [.sq (cs [.s])])⟩],Yg2 lo⟩
def Yya(lo:Lo):LL:=(Yx9 lo,.loop q84_L3_b.er)::Ynf lo
theorem Yyb(lo:Lo):Lk lo pf (fs84 lo) 0 (Yya lo):=.l (Yx8 lo) (Yey lo)
def q84(lo:Lo)(l0:List (ByteArray×Zt7)):Option (Zt3):=
  YG1 (Yg2 lo (l0,(l0.length:Int),(0:Int),[])) fun y356=>some y356
def Yyc:VFn:=⟨true,39,[.t 2],
 (Rg [o 2 (.mv (ke (cs [.s])))]
 (Rg [o 3 (.mv (ke (cs [.s])))]
 (.seq (Rg [oM 8 0,oN 9 8,oK 10 0]
 (.blk 0 (.loop 3 q84_L3_b)))
 (Rg [oM 38 3,oM 2 38]
 (Fr 2)))))⟩
def Yng(lo:Lo):FnE:=Zfe 521 true (Zsg [0] [.l Zc5] []) (.l (cs [.s])) [] (fun x=>q84 lo x:Zt0->Option (Zt3))
noncomputable def fs85(lo:Lo):List FnE:=Yng lo::fs84 lo
theorem Yyd(h:GZ P fm fs84 lo)(t:Ti P fm 521 Yyc):GZ P fm fs85 lo:=
  h.p (Yng lo) (Yyb lo) t
end Go.Abs.G47
namespace Go.Abs.G47
open Go Go.Abs
set_option maxRecDepth 100000
set_option maxHeartbeats 1000000
variable{P:Program}{fm:FM}{lo:Lo}
def q85_L14_b:VCode:=
 (Rg [oR 34 .lss 33 32]
 (.seq (Ce 34 0)
 (.seq (.blk 1 (Rg [oM 35 33,oI 36 1 31 33,oL 37 36,oM 7 35,oM 8 37]
 (.reg [oM 38 6,oM 39 8,oF 40 0 3,oL 41 40,oM 42 7,oI 43 1 41 42,oL 44 43,o 45 (.build [.s (⟨#[]⟩),.i .i64 0,.i .i64 0,.s (⟨#[]⟩)] [(0,1,44)]),on (.mput none .s Zc10 true 38 39 45)])))
 (.reg [oR 46 .add 33 (k 1),oM 33 46]))))
def Yez(lo:Lo):Zp44->Option (Zp44⊕ ((Zt3×Zt0×Zt3×Zt0×Int×Zt8×Bool×Bool))):=fun x=>match x with
  | (v31,v32,v33,from2_0,from2_1,to3_0,to3_1,h2_0,h2_1,h2_2,h2_3)=>bif(decide (v33<v32))then(chk (0<=v33/\v33< (v31.length:Int)) (chk (0<=v33/\v33< (to3_0.length:Int)) (some (.inl (v31,v32,(YHl .i64 (v33+1)),from2_0,from2_1,to3_0,to3_1,(mck eqS h2_0 (v31.getD v33.toNat (YHk #[])) h2_1),(mpt eqS h2_0 (v31.getD v33.toNat (YHk #[])) ((to3_0.getD v33.toNat (YHk #[])),(0:Int),(0:Int),(YHk #[])) h2_1),h2_2,h2_3)))))else(some (.inr (from2_0,from2_1,to3_0,to3_1,h2_0,h2_1,h2_2,h2_3)))
def Yg3(lo:Lo):Zp44->Option ((Zt3×Zt0×Zt3×Zt0×Int×Zt8×Bool×Bool)):=lo.run (Yez lo)
def Yye(lo:Lo):LpE:=⟨14,[],(Zsg [2,3,6,31,32,33] [.ptr 0 0 0,.ptr 1 0 0,.np 2,.l (cs [.s]),.j,.j] [.st [.l (cs [.s]),.l Zc5],.st [.l (cs [.s]),.l Zc5],.st [.j,.l Zc18,.b,.b]]),[⟨.exit 0,(Zsg [2,3,6] [.ptr 0 0 0,.ptr 1 0 0,.np 2] [.st [.l (cs [.s]),.l Zc5],.st [.l (cs [.s]),.l Zc5],.st [.j,.l Zc18,.b,.b]])⟩],Yg3 lo⟩
def Ynh(lo:Lo):LL:=(Yye lo,.loop q85_L14_b.er)::[]
theorem Yyf(lo:Lo):Lk lo pf (fs85 lo) 0 (Ynh lo):=.l .n (Yez lo)
def q85_L3_b:VCode:=
 (Rg [oR 59 .lss 58 57]
 (.seq (Ce 59 2)
 (.seq (.blk 3 (Rg [oI 60 1 56 58,oL 61 60,oM 11 61]
 (.reg [oM 62 9,oM 63 6,oM 64 11,o 65 (.mget none .s Zc10 true false 63 64),o 66 (.bsl Zc13 1 [(0,65)]),o 67 (.app Zc13 0 62 66),oM 9 67])))
 (.reg [oR 68 .add 58 (k 1),oM 58 68]))))
def YeA(lo:Lo):Zp51->Option (Zp51⊕ ((Zt7))):=fun x=>match x with
  | (v56,v57,v58,h0_0,h0_1,h0_2,h0_3,out9)=>bif(decide (v58<v57))then(chk (0<=v58/\v58< (v56.length:Int)) (chk (out9.length+([(mgt eqS (v56.getD v58.toNat (YHk #[])) h0_1 Zd0)]).length<=maxEl) (some (.inl (v56,v57,(YHl .i64 (v58+1)),h0_0,h0_1,h0_2,h0_3,(out9++([(mgt eqS (v56.getD v58.toNat (YHk #[])) h0_1 Zd0)])))))))else(some (.inr out9))
def Yg4(lo:Lo):Zp51->Option ((Zt7)):=lo.run (YeA lo)
def Yyg(lo:Lo):LpE:=⟨3,[(9,none,false)],(Zsg [6,9,56,57,58] [.np 0,.ref 1,.l (cs [.s]),.j,.j] [.st [.j,.l Zc18,.b,.b],.sq Zc13]),[⟨.exit 2,(Zsg [9] [.ref 0] [.sq Zc13])⟩],Yg4 lo⟩
def Yyh(lo:Lo):LL:=(Yyg lo,.loop q85_L3_b.er)::Ynh lo
theorem Yyi(lo:Lo):Lk lo pf (fs85 lo) 0 (Yyh lo):=.l (Yyf lo) (YeA lo)
def q85(lo:Lo)(from0_0:List ByteArray)(from0_1:List (ByteArray×Zt7))(to1_0:List ByteArray)(to1_1:List (ByteArray×Zt7)):Option (Zt7×Bool):=
  YG1 (q77 lo from0_0 from0_1) fun y325=>bif(!y325)then(some (([]:List Zp62),false))else(YG1 (q77 lo to1_0 to1_1) fun y326=>bif(!y326)then(some (([]:List Zp62),false))else(bif(!decide ((from0_0.length:Int)=(to1_0.length:Int)))then(some (([]:List Zp62),false))else(YG1 (Yg3 lo (from0_0,(from0_0.length:Int),(0:Int),from0_0,from0_1,to1_0,to1_1,(0:Int),([]:List (Int×ByteArray×ByteArray×Int×Int×ByteArray)),false,false)) fun y327=>YG1 (q83 lo y327.2.1 y327.2.2.2.1 y327.2.2.2.2.1 y327.2.2.2.2.2.1 y327.2.2.2.2.2.2.1 y327.2.2.2.2.2.2.2) fun y353=>bif(!y353.1)then(some (([]:List Zp62),false))else(YG1 (q84 lo y327.2.1) fun y357=>YG1 (Yg4 lo (y357,(y357.length:Int),(0:Int),y353.2.1,y353.2.2.1,y353.2.2.2.1,y353.2.2.2.2,[])) fun y358=>some (y358,true)))))
def Yyj:VFn:=⟨true,70,[.t 4,.t 5],
 (Rg [oG 2 0,oG 3 1,o 4 (.mv (ke Zc13)),oB 5 false]
 (.seq (Rg [oT 12 2 2,oC 13 519 [12],oX 14 13,oM 15 14,gF 16 15 (.load true 2 3),gF 17 15 (.call 519 [16]),gF 18 15 (.not 17),oP 19 15 (kb true) 18,oM 20 19,gF 21 20 (.fad 0 2),gF 22 20 (.load false 1 21),gF 23 20 (.len 22),gF 24 20 (.fad 0 3),gF 25 20 (.load false 1 24),gF 26 20 (.len 25),gF 27 20 (.bin .neq 23 26),oP 28 20 (kb true) 27]
 (.cond 28 (Rg [o 4 (.mv (ke Zc13)),oB 5 false]
 (.fz [4,5] .ret))
 .skip))
 (Rg [o 29 (.mkm none .s Zc10 true),oM 6 29]
 (.seq (Rg [oF 30 0 2,oL 31 30,oN 32 31,oK 33 0]
 (.blk 0 (.loop 14 q85_L14_b)))
 (.seq (Rg [oM 47 6,oF 48 1 2,oL 49 48,oF 50 1 3,oL 51 50,oC 52 520 [47,49,51],oX 53 52]
 (.cond 53 (Rg [o 4 (.mv (ke Zc13)),oB 5 false]
 (.fz [4,5] .ret))
 .skip))
 (Rg [o 9 (.mv (ke Zc13))]
 (.seq (Rg [oF 54 1 2,oL 55 54,oC 56 521 [55],oN 57 56,oK 58 0]
 (.blk 2 (.loop 3 q85_L3_b)))
 (Rg [oM 69 9,oM 4 69,oB 5 true]
 (.fz [4,5] .ret)))))))))⟩
def Yni(lo:Lo):FnE:=Zfe 479 true (Zsg [0,1] [.ag [.l (cs [.s]),.l Zc5],.ag [.l (cs [.s]),.l Zc5]] []) (.tp [.l Zc13,.b]) [] (fun x=>q85 lo x.1 x.2.1 x.2.2.1 x.2.2.2:Zt3×Zt0×Zt3×Zt0->Option (Zt7×Bool))
noncomputable def fs86(lo:Lo):List FnE:=Yni lo::fs85 lo
theorem Yyk(h:GZ P fm fs85 lo)(t:Ti P fm 479 Yyj):GZ P fm fs86 lo:=
  h.p (Yni lo) (Yyi lo) t
def q86(lo:Lo)(p0_0:List ByteArray)(p0_1:List (ByteArray×Zt7))(q1_0:List ByteArray)(q1_1:List (ByteArray×Zt7)):Option Bool:=
  YG1 (q85 lo q1_0 q1_1 p0_0 p0_1) fun y359=>some y359.2
def Yyl:VFn:=⟨true,14,[.t 4],
 (Rg [oG 2 0,oG 3 1,oB 4 false]
 (Rg [oT 8 2 3,oT 9 2 2,oC 10 479 [8,9],oM 7 10,oE 11 7 0,oE 12 7 1,oM 5 11,oM 6 12]
 (Rg [oM 13 6,oM 4 13]
 (Fr 4))))⟩
def Ynj(lo:Lo):FnE:=Zfe 482 true (Zsg [0,1] [.ag [.l (cs [.s]),.l Zc5],.ag [.l (cs [.s]),.l Zc5]] []) .b [] (fun x=>q86 lo x.1 x.2.1 x.2.2.1 x.2.2.2:Zt3×Zt0×Zt3×Zt0->Option Bool)
noncomputable def fs87(lo:Lo):List FnE:=Ynj lo::fs86 lo
theorem Yym(h:GZ P fm fs86 lo)(t:Ti P fm 482 Yyl):GZ P fm fs87 lo:=
  h.p (Ynj lo) .n t
def q87_L11_b:VCode:=
 (Rg [oR 21 .lss 20 19]
 (.seq (Ce 21 0)
 (.seq (.blk 1 (Rg [oI 22 2 18 20,oT 23 2 22,o 6 (.alloc [.s (⟨#[]⟩),.e Zc13]),oS 2 6 23]
 (.reg [oF 24 1 4,⟨some 25,.load false 1 24,none,true,false⟩,oF 26 0 6,⟨some 27,.load false 1 26,none,true,false⟩,oF 28 1 6,oL 29 28,o 30 (.callN 527 [29] true),o 31 (.build [.s (⟨#[]⟩),.e Zc13] [(0,1,27),(1,1,30)]),o 32 (.bsl Zc5 1 [(0,31)]),o 33 (.app Zc5 0 25 32),oF 34 1 4,oS 1 34 33])))
 (.reg [oR 35 .add 20 (k 1),oM 20 35]))))
def YeB(lo:Lo):Zp59->Option (Zp59⊕ ((Zt3×Zt0×Zt3×Zt0))):=fun x=>match x with
  | (v18,v19,v20,v2_0,v2_1,h2,h3)=>bif(decide (v20<v19))then(chk (0<=v20/\v20< (v18.length:Int)) (YG1 (q79 lo ((v18.getD v20.toNat ((YHk #[]),[])).2)) fun y363=>chk (h3.length+([((v18.getD v20.toNat ((YHk #[]),[])).1,y363)]).length<=maxEl) (some (.inl (v18,v19,(YHl .i64 (v20+1)),v2_0,v2_1,h2,(h3++([((v18.getD v20.toNat ((YHk #[]),[])).1,y363)])))))))else(some (.inr (v2_0,v2_1,h2,h3)))
def Yg5(lo:Lo):Zp59->Option ((Zt3×Zt0×Zt3×Zt0)):=lo.run (YeB lo)
def Yyn(lo:Lo):LpE:=⟨11,[(4,some 1,false)],(Zsg [2,4,18,19,20] [.ptr 0 0 0,.ptr 1 0 0,.l Zc5,.j,.j] [.st [.l (cs [.s]),.l Zc5],.st [.ref 2,.ref 3],.sq (cs [.s]),.sq Zc5]),[⟨.exit 0,(Zsg [2,4] [.ptr 0 0 0,.ptr 1 0 0] [.st [.l (cs [.s]),.l Zc5],.st [.ref 2,.ref 3],.sq (cs [.s]),.sq Zc5])⟩],Yg5 lo⟩
def Ynk(lo:Lo):LL:=(Yyn lo,.loop q87_L11_b.er)::[]
theorem Yyo(lo:Lo):Lk lo pf (fs87 lo) 0 (Ynk lo):=.l .n (YeB lo)
def q87_L3_b:VCode:=
 (.seq (Rg [oM 36 7,oF 37 1 4,oL 38 37,oN 39 38,oR 40 .lss 36 39]
 (Ce 40 2))
 (.blk 3 (.seq (.fz [38] (.reg [oF 41 0 4,⟨some 42,.load false 1 41,none,true,false⟩,oF 43 1 4,⟨some 44,.load false 1 43,none,true,false⟩,oM 45 7,o 46 (.slcR 2 44 none (some 45)),oF 47 1 4,⟨some 48,.load false 1 47,none,true,false⟩,oM 49 7,oR 50 .add 49 (k 1),o 51 (.slcR 2 48 (some 50) none),o 52 (.bsl (cs [.l Zc5]) 2 [(0,46),(1,51)]),⟨some 53,.call 528 [52],none,true,false⟩,o 54 (.build [.e (cs [.s]),.e Zc5] [(0,1,42),(1,1,53)]),o 8 (.alloc [.e (cs [.s]),.e Zc5]),oS 2 8 54]))
 (Rg [oT 55 2 8,oC 56 519 [55],oM 57 56,gT 58 57 (.load true 2 8),gT 59 57 (.load true 2 4),gT 60 57 (.call 482 [58,59]),oP 61 57 60 (kb false)]
 (.cond 61 (.reg [oT 62 2 8,oS 2 4 62])
 (.reg [oM 63 7,oR 64 .add 63 (k 1),oM 7 64]))))))
def YeC(lo:Lo):Int×Zt3×Zt0×Zt0×Zt3->Option ((Int×Zt3×Zt0×Zt0×Zt3)⊕ ((Zt3×Zt0×Zt0×Zt3))):=fun x=>match x with
  | (i7,v2_0,v2_1,out4,h2)=>bif(decide (i7< (out4.length:Int)))then(chk (0<=(0:Int)/\0<=i7/\i7<=(out4.length:Int)) (chk (0<=(YHl .i64 (i7+1))/\ (YHl .i64 (i7+1))<=(out4.length:Int)/\ (out4.length:Int)<=(out4.length:Int)) (YG1 (q81 lo ([((out4.take i7.toNat).drop 0),((out4.take (out4.length:Int).toNat).drop (YHl .i64 (i7+1)).toNat)])) fun y365=>YG1 (q77 lo h2 y365) fun y366=>bif y366 then(YG1 (q86 lo h2 y365 h2 out4) fun y367=>bif y367 then(some (.inl (i7,v2_0,v2_1,y365,h2)))else(some (.inl ((YHl .i64 (i7+1)),v2_0,v2_1,out4,h2))))else(some (.inl ((YHl .i64 (i7+1)),v2_0,v2_1,out4,h2))))))else(some (.inr (v2_0,v2_1,out4,h2)))
def Yb8(lo:Lo):Int×Zt3×Zt0×Zt0×Zt3->Option ((Zt3×Zt0×Zt0×Zt3)):=lo.run (YeC lo)
def Yyp(lo:Lo):LpE:=⟨3,[(4,some 1,false)],(Zsg [2,4,7] [.ptr 0 0 0,.ptr 1 0 0,.j] [.st [.l (cs [.s]),.l Zc5],.st [.ref 2,.l Zc5],.sq (cs [.s])]),[⟨.exit 2,(Zsg [2,4] [.ptr 0 0 0,.ptr 1 0 0] [.st [.l (cs [.s]),.l Zc5],.st [.ref 2,.l Zc5],.sq (cs [.s])])⟩],Yb8 lo⟩
def Yyq(lo:Lo):LL:=(Yyp lo,.loop q87_L3_b.er)::Ynk lo
theorem Yyr(lo:Lo):Lk lo pf (fs87 lo) 0 (Yyq lo):=.l (Yyo lo) (YeC lo)
def q87(lo:Lo)(q0_0:List ByteArray)(q0_1:List (ByteArray×Zt7)):Option (Zt3×Zt0×Int):=
  YG1 (q77 lo q0_0 q0_1) fun y361=>bif(!y361)then(some (([]:List ByteArray),([]:List (ByteArray×Zt7)),(1:Int)))else(YG1 (q78 lo q0_0) fun y362=>YG1 (Yg5 lo (q0_1,(q0_1.length:Int),(0:Int),([]:List ByteArray),([]:List (ByteArray×Zt7)),y362,[])) fun y364=>YG1 (Yb8 lo ((0:Int),y364.1,y364.2.1,y364.2.2.2,y364.2.2.1)) fun y368=>some (y368.2.2.2,y368.2.2.1,(0:Int)))
def Yys:VFn:=⟨true,66,[.c 2 true 2,.t 3],
 (Rg [oG 1 0,o 2 (.alloc [.e (cs [.s]),.e Zc5]),oK 3 0]
 (.seq (Rg [oT 9 2 1,oC 10 519 [9],oX 11 10]
 (.cond 11 (Rg [o 12 (.build [.e (cs [.s]),.e Zc5] []),oS 2 2 12,oK 3 1]
 (.fz [2,3] .ret))
 .skip))
 (Rg [oF 13 0 1,oL 14 13,oC 15 269 [14],o 16 (.build [.e (cs [.s]),.e Zc5] [(0,1,15)]),o 4 (.alloc [.e (cs [.s]),.e Zc5]),oS 2 4 16]
 (.seq (Rg [oF 17 1 1,oL 18 17,oN 19 18,oK 20 0]
 (.blk 0 (.loop 11 q87_L11_b)))
 (.seq (Rg [oK 7 0]
 (.blk 2 (.fz [2000004] (.loop 3 q87_L3_b))))
 (Rg [oT 65 2 4,oS 2 2 65,oK 3 0]
 (.fz [2,3] .ret)))))))⟩
def Ynl(lo:Lo):FnE:=Zfe 484 true (Zsg [0] [.ag [.l (cs [.s]),.l Zc5]] []) (.tp [.ag [.l (cs [.s]),.l Zc5],.j]) [] (fun x=>q87 lo x.1 x.2:Zt3×Zt0->Option (Zt3×Zt0×Int))
noncomputable def fs88(lo:Lo):List FnE:=Ynl lo::fs87 lo
theorem Yyt(h:GZ P fm fs87 lo)(t:Ti P fm 484 Yys):GZ P fm fs88 lo:=
  h.p (Ynl lo) (Yyr lo) t
def q88(lo:Lo)(i0:Int):Option ByteArray:=
  bif(decide (i0<10))then(chk (0<=i0/\i0<=(YHl .i64 (i0+1))/\ (YHl .i64 (i0+1))<=((YHk #[48,49,50,51,52,53,54,55,56,57,97,98,99,100,101,102,103,104,105,106,107,108,109,110,111,112,113,114,115,116,117,118,119,120,121,122]).size:Int)) (some ((YHk #[48,49,50,51,52,53,54,55,56,57,97,98,99,100,101,102,103,104,105,106,107,108,109,110,111,112,113,114,115,116,117,118,119,120,121,122]).extract i0.toNat (YHl .i64 (i0+1)).toNat)))else(chk (0<=(YHl .i64 (i0*2))/\ (YHl .i64 (i0*2))<=(YHl .i64 ((YHl .i64 (i0*2))+(2:Int)))/\ (YHl .i64 ((YHl .i64 (i0*2))+(2:Int)))<=((YHk #[48,48,48,49,48,50,48,51,48,52,48,53,48,54,48,55,48,56,48,57,49,48,49,49,49,50,49,51,49,52,49,53,49,54,49,55,49,56,49,57,50,48,50,49,50,50,50,51,50,52,50,53,50,54,50,55,50,56,50,57,51,48,51,49,51,50,51,51,51,52,51,53,51,54,51,55,51,56,51,57,52,48,52,49,52,50,52,51,52,52,52,53,52,54,52,55,52,56,52,57,53,48,53,49,53,50,53,51,53,52,53,53,53,54,53,55,53,56,53,57,54,48,54,49,54,50,54,51,54,52,54,53,54,54,54,55,54,56,54,57,55,48,55,49,55,50,55,51,55,52,55,53,55,54,55,55,55,56,55,57,56,48,56,49,56,50,56,51,56,52,56,53,56,54,56,55,56,56,56,57,57,48,57,49,57,50,57,51,57,52,57,53,57,54,57,55,57,56,57,57]).size:Int)) (some ((YHk #[48,48,48,49,48,50,48,51,48,52,48,53,48,54,48,55,48,56,48,57,49,48,49,49,49,50,49,51,49,52,49,53,49,54,49,55,49,56,49,57,50,48,50,49,50,50,50,51,50,52,50,53,50,54,50,55,50,56,50,57,51,48,51,49,51,50,51,51,51,52,51,53,51,54,51,55,51,56,51,57,52,48,52,49,52,50,52,51,52,52,52,53,52,54,52,55,52,56,52,57,53,48,53,49,53,50,53,51,53,52,53,53,53,54,53,55,53,56,53,57,54,48,54,49,54,50,54,51,54,52,54,53,54,54,54,55,54,56,54,57,55,48,55,49,55,50,55,51,55,52,55,53,55,54,55,55,55,56,55,57,56,48,56,49,56,50,56,51,56,52,56,53,56,54,56,55,56,56,56,57,57,48,57,49,57,50,57,51,57,52,57,53,57,54,57,55,57,56,57,57]).extract (YHl .i64 (i0*2)).toNat (YHl .i64 ((YHl .i64 (i0*2))+(2:Int))).toNat)))
def Yyu:VFn:=⟨true,15,[.t 2],
 (Rg [o 2 (.mv (ks (⟨#[]⟩)))]
 (.seq (Rg [oM 3 0,oR 4 .lss 3 (k 10)]
 (.cond 4 (Rg [oM 5 0,oM 6 0,oR 7 .add 6 (k 1),o 8 (.slcS (ks (⟨#[48,49,50,51,52,53,54,55,56,57,97,98,99,100,101,102,103,104,105,106,107,108,109,110,111,112,113,114,115,116,117,118,119,120,121,122]⟩)) (some 5) (some 7)),oM 2 8]
 (Fr 2))
 .skip))
 (Rg [oM 9 0,oR 10 .mul 9 (k 2),oM 11 0,oR 12 .mul 11 (k 2),oR 13 .add 12 (k 2),o 14 (.slcS (ks (⟨#[48,48,48,49,48,50,48,51,48,52,48,53,48,54,48,55,48,56,48,57,49,48,49,49,49,50,49,51,49,52,49,53,49,54,49,55,49,56,49,57,50,48,50,49,50,50,50,51,50,52,50,53,50,54,50,55,50,56,50,57,51,48,51,49,51,50,51,51,51,52,51,53,51,54,51,55,51,56,51,57,52,48,52,49,52,50,52,51,52,52,52,53,52,54,52,55,52,56,52,57,53,48,53,49,53,50,53,51,53,52,53,53,53,54,53,55,53,56,53,57,54,48,54,49,54,50,54,51,54,52,54,53,54,54,54,55,54,56,54,57,55,48,55,49,55,50,55,51,55,52,55,53,55,54,55,55,55,56,55,57,56,48,56,49,56,50,56,51,56,52,56,53,56,54,56,55,56,56,56,57,57,48,57,49,57,50,57,51,57,52,57,53,57,54,57,55,57,56,57,57]⟩)) (some 10) (some 13)),oM 2 14]
 (Fr 2))))⟩
def Ynm(lo:Lo):FnE:=Zfe 1082 true (Zsg [0] [.j] []) .s [] (fun x=>q88 lo x:Int->Option ByteArray)
noncomputable def fs89(lo:Lo):List FnE:=Ynm lo::fs88 lo
theorem Yyv(h:GZ P fm fs88 lo)(t:Ti P fm 1082 Yyu):GZ P fm fs89 lo:=
  h.p (Ynm lo) .n t
noncomputable def fs90(lo:Lo):List FnE:=fs89 lo
noncomputable def fs91(lo:Lo):List FnE:=fs90 lo
def q91(lo:Lo)(i0:Int)(base1:Int):Option ByteArray:=
  bif(decide (base1=10))then(bif(decide (0<=i0))then(bif(decide (i0<100))then(YG1 (q88 lo i0) fun y372=>some y372)else(bif(decide (i0<0))then(none)else(none)))else(bif(decide (i0<0))then(none)else(none)))else(none)
def Yyw:VFn:=⟨true,54,[.t 4],
 (Rg [o 4 (.mv (ks (⟨#[]⟩)))]
 (.seq (Rg [oM 10 1,oR 11 .eql 10 (k 10)]
 (.cond 11 (.seq (Rg [oM 12 0,oR 13 .leq (k 0) 12,oM 14 13,gT 15 14 (.mv 0),gT 16 14 (.bin .lss 15 (k 100)),oP 17 14 16 (kb false)]
 (.cond 17 (Rg [oM 18 0,oC 19 1082 [18],oM 4 19]
 (Fr 4))
 .skip))
 (Rg [o 5 (.alloc [.i .u8 0,.i .u8 0,.i .u8 0,.i .u8 0,.i .u8 0,.i .u8 0,.i .u8 0,.i .u8 0,.i .u8 0,.i .u8 0,.i .u8 0,.i .u8 0,.i .u8 0,.i .u8 0,.i .u8 0,.i .u8 0,.i .u8 0,.i .u8 0,.i .u8 0,.i .u8 0,.i .u8 0,.i .u8 0,.i .u8 0,.i .u8 0])]
 (Rg [oM 20 0,o 21 (.conv .u64 20),oM 6 21]
 (.seq (Rg [oM 22 0,oR 23 .lss 22 (k 0)]
 (.cond 23 (.reg [oM 24 6,o 25 (.neg 24),oM 6 25])
 .skip))
 (Rg [oM 26 6,oC 27 1083 [26],oM 7 27]
 (.seq .bad
 (.seq (Rg [oM 33 0,oR 34 .lss 33 (k 0)]
 (.cond 34 (Rg [o 35 (.iada 1 24 5 (k 0)),on (.store 1 35 (ki .u8 45))]
 (.seq .bad
 (Fr 4)))
 .skip))
 (.seq .bad
 (Fr 4)))))))))
 .skip))
 (Rg [oM 45 0,o 46 (.conv .u64 45),oM 47 1,oM 48 0,oR 49 .lss 48 (k 0),oC 50 1085 [(ke Zc20),46,47,49,(kb false)],oM 44 50,oE 51 44 0,oE 52 44 1,oM 8 51,oM 9 52]
 (Rg [oM 53 9,oM 4 53]
 (Fr 4)))))⟩
def Ynn(lo:Lo):FnE:=Zfe 1081 true (Zsg [0,1] [.j,.j] []) .s [] (fun x=>q91 lo x.1 x.2:Int×Int->Option ByteArray)
noncomputable def fs92(lo:Lo):List FnE:=Ynn lo::fs91 lo
theorem Yyx(h:GZ P fm fs91 lo)(t:Ti P fm 1081 Yyw):GZ P fm fs92 lo:=
  h.p (Ynn lo) .n t
def q92(lo:Lo)(i0:Int)(base1:Int):Option ByteArray:=
  YG1 (q91 lo i0 base1) fun y376=>some y376
def Yyy:VFn:=⟨true,8,[.t 4],
 (Rg [o 4 (.mv (ks (⟨#[]⟩)))]
 (Rg [oM 5 0,oM 6 1,oC 7 1081 [5,6],oM 4 7]
 (Fr 4)))⟩
def Yno(lo:Lo):FnE:=Zfe 549 true (Zsg [0,1] [.j,.j] []) .s [] (fun x=>q92 lo x.1 x.2:Int×Int->Option ByteArray)
noncomputable def fs93(lo:Lo):List FnE:=Yno lo::fs92 lo
theorem Yyz(h:GZ P fm fs92 lo)(t:Ti P fm 549 Yyy):GZ P fm fs93 lo:=
  h.p (Yno lo) .n t
def q93_L3_b:VCode:=
 (Rg [oR 10 .lss 9 8]
 (.seq (Ce 10 0)
 (.seq (.blk 1 (Rg [oM 11 9,oM 4 11]
 (Rg [oM 12 0,oM 13 4,o 14 (.idx 12 13),oM 5 14]
 (.blk 2 (Rg [oM 20 5,oR 21 .eql 20 (ki .u8 34),oM 22 21,gF 23 22 (.mv 5),gF 24 22 (.bin .eql 23 (ki .u8 92)),oP 25 22 (kb true) 24,oM 19 25]
 (.cond 19 (.reg [oM 26 3,oM 27 5,o 28 (.bsl Zc20 2 [(0,(ki .u8 92)),(1,27)]),o 29 (.appb 26 28),oM 3 29])
 (Rg [oM 31 5,oR 32 .eql 31 (ki .u8 10),oM 30 32]
 (.cond 30 (.reg [oM 33 3,o 34 (.bsl Zc20 2 [(0,(ki .u8 92)),(1,(ki .u8 110))]),o 35 (.appb 33 34),oM 3 35])
 (Rg [oM 37 5,oR 38 .lss 37 (ki .u8 32),oM 39 38,gF 40 39 (.mv 5),gF 41 39 (.bin .gtr 40 (ki .u8 126)),oP 42 39 (kb true) 41,oM 36 42]
 (.cond 36 (.reg [oM 43 3,oM 44 5,oR 45 .shr 44 (ki .u64 4),o 46 (.idx (ks (⟨#[48,49,50,51,52,53,54,55,56,57,97,98,99,100,101,102]⟩)) 45),oM 47 5,oR 48 .and 47 (ki .u8 15),o 49 (.idx (ks (⟨#[48,49,50,51,52,53,54,55,56,57,97,98,99,100,101,102]⟩)) 48),o 50 (.bsl Zc20 4 [(0,(ki .u8 92)),(1,(ki .u8 120)),(2,46),(3,49)]),o 51 (.appb 43 50),oM 3 51])
 (.reg [oM 15 3,oM 16 5,o 17 (.bsl Zc20 1 [(0,16)]),o 18 (.appb 15 17),oM 3 18])))))))))))
 (.reg [oR 52 .add 9 (k 1),oM 9 52]))))
def Ynp(lo:Lo):Zp62->Option (Zp62⊕ByteArray):=fun x=>match x with
  | (s0,v8,v9,out3)=>bif(decide (v9<v8))then(chk (0<=v9/\v9< (s0.size:Int)) (bif(decide ((YBQ s0 v9)=(34:Int)))then(bif inB ([(92:Int),(YBQ s0 v9)])then(chk (out3.size+([(92:Int),(YBQ s0 v9)]).length<=maxEl) (some (.inl (s0,v8,(YHl .i64 (v9+1)),(out3++YBU ([(92:Int),(YBQ s0 v9)]))))))else none)else(bif(decide ((YBQ s0 v9)=(92:Int)))then(bif inB ([(92:Int),(YBQ s0 v9)])then(chk (out3.size+([(92:Int),(YBQ s0 v9)]).length<=maxEl) (some (.inl (s0,v8,(YHl .i64 (v9+1)),(out3++YBU ([(92:Int),(YBQ s0 v9)]))))))else none)else(bif(decide ((YBQ s0 v9)=(10:Int)))then(bif inB ([(92:Int),(110:Int)])then(chk (out3.size+([(92:Int),(110:Int)]).length<=maxEl) (some (.inl (s0,v8,(YHl .i64 (v9+1)),(out3++YBU ([(92:Int),(110:Int)]))))))else none)else(bif(decide ((YBQ s0 v9)< (32:Int)))then(chk (0<=(4:Int)) (chk (0<=((YBQ s0 v9).fdiv (2^(min (4:Int).toNat (IntKind.bits .u8))))/\ ((YBQ s0 v9).fdiv (2^(min (4:Int).toNat (IntKind.bits .u8))))< ((YHk #[48,49,50,51,52,53,54,55,56,57,97,98,99,100,101,102]).size:Int)) (chk (0<=(bits .and .u8 (YBQ s0 v9) (15:Int))/\ (bits .and .u8 (YBQ s0 v9) (15:Int))< ((YHk #[48,49,50,51,52,53,54,55,56,57,97,98,99,100,101,102]).size:Int)) (bif inB ([(92:Int),(120:Int),(YBQ (YHk #[48,49,50,51,52,53,54,55,56,57,97,98,99,100,101,102]) ((YBQ s0 v9).fdiv (2^(min (4:Int).toNat (IntKind.bits .u8))))),(YBQ (YHk #[48,49,50,51,52,53,54,55,56,57,97,98,99,100,101,102]) (bits .and .u8 (YBQ s0 v9) (15:Int)))])then(chk (out3.size+([(92:Int),(120:Int),(YBQ (YHk #[48,49,50,51,52,53,54,55,56,57,97,98,99,100,101,102]) ((YBQ s0 v9).fdiv (2^(min (4:Int).toNat (IntKind.bits .u8))))),(YBQ (YHk #[48,49,50,51,52,53,54,55,56,57,97,98,99,100,101,102]) (bits .and .u8 (YBQ s0 v9) (15:Int)))]).length<=maxEl) (some (.inl (s0,v8,(YHl .i64 (v9+1)),(out3++YBU ([(92:Int),(120:Int),(YBQ (YHk #[48,49,50,51,52,53,54,55,56,57,97,98,99,100,101,102]) ((YBQ s0 v9).fdiv (2^(min (4:Int).toNat (IntKind.bits .u8))))),(YBQ (YHk #[48,49,50,51,52,53,54,55,56,57,97,98,99,100,101,102]) (bits .and .u8 (YBQ s0 v9) (15:Int)))]))))))else none))))else(bif(decide ((126:Int)< (YBQ s0 v9)))then(chk (0<=(4:Int)) (chk (0<=((YBQ s0 v9).fdiv (2^(min (4:Int).toNat (IntKind.bits .u8))))/\ ((YBQ s0 v9).fdiv (2^(min (4:Int).toNat (IntKind.bits .u8))))< ((YHk #[48,49,50,51,52,53,54,55,56,57,97,98,99,100,101,102]).size:Int)) (chk (0<=(bits .and .u8 (YBQ s0 v9) (15:Int))/\ (bits .and .u8 (YBQ s0 v9) (15:Int))< ((YHk #[48,49,50,51,52,53,54,55,56,57,97,98,99,100,101,102]).size:Int)) (bif inB ([(92:Int),(120:Int),(YBQ (YHk #[48,49,50,51,52,53,54,55,56,57,97,98,99,100,101,102]) ((YBQ s0 v9).fdiv (2^(min (4:Int).toNat (IntKind.bits .u8))))),(YBQ (YHk #[48,49,50,51,52,53,54,55,56,57,97,98,99,100,101,102]) (bits .and .u8 (YBQ s0 v9) (15:Int)))])then(chk (out3.size+([(92:Int),(120:Int),(YBQ (YHk #[48,49,50,51,52,53,54,55,56,57,97,98,99,100,101,102]) ((YBQ s0 v9).fdiv (2^(min (4:Int).toNat (IntKind.bits .u8))))),(YBQ (YHk #[48,49,50,51,52,53,54,55,56,57,97,98,99,100,101,102]) (bits .and .u8 (YBQ s0 v9) (15:Int)))]).length<=maxEl) (some (.inl (s0,v8,(YHl .i64 (v9+1)),(out3++YBU ([(92:Int),(120:Int),(YBQ (YHk #[48,49,50,51,52,53,54,55,56,57,97,98,99,100,101,102]) ((YBQ s0 v9).fdiv (2^(min (4:Int).toNat (IntKind.bits .u8))))),(YBQ (YHk #[48,49,50,51,52,53,54,55,56,57,97,98,99,100,101,102]) (bits .and .u8 (YBQ s0 v9) (15:Int)))]))))))else none))))else(bif inB ([(YBQ s0 v9)])then(chk (out3.size+([(YBQ s0 v9)]).length<=maxEl) (some (.inl (s0,v8,(YHl .i64 (v9+1)),(out3++YBU ([(YBQ s0 v9)]))))))else none)))))))else(some (.inr out3))
def Ynq(lo:Lo):Zp62->Option ByteArray:=lo.run (Ynp lo)
def YyA(lo:Lo):LpE:=⟨3,[],(Zsg [0,3,8,9] [.s,.ref 0,.j,.j] [.sb]),[⟨.exit 0,(Zsg [3] [.ref 0] [.sb])⟩],Ynq lo⟩
def YyB(lo:Lo):LL:=(YyA lo,.loop q93_L3_b.er)::[]
theorem YyC(lo:Lo):Lk lo pf (fs93 lo) 0 (YyB lo):=.l .n (Ynp lo)
def q93(lo:Lo)(s0:ByteArray):Option ByteArray:=
  bif inB [(34:Int)]then(YG1 (Ynq lo (s0,(s0.size:Int),(0:Int),(YBU [(34:Int)]))) fun y379=>bif inB ([(34:Int)])then(chk (y379.size+([(34:Int)]).length<=maxEl) (some (y379++YBU ([(34:Int)]))))else none)else none
def YyD:VFn:=⟨true,57,[.t 2],
 (Rg [o 2 (.mv (ks (⟨#[]⟩)))]
 (Rg [o 6 (.litb [(ki .u8 34)]),oM 3 6]
 (.seq (Rg [oM 7 0,o 8 (.lenS 7),oK 9 0]
 (.blk 0 (.loop 3 q93_L3_b)))
 (Rg [oM 53 3,o 54 (.bsl Zc20 1 [(0,(ki .u8 34))]),o 55 (.appb 53 54),o 56 (.bstr 55),oM 2 56]
 (Fr 2)))))⟩
def Ynr(lo:Lo):FnE:=Zfe 550 true (Zsg [0] [.s] []) .s [] (fun x=>q93 lo x:ByteArray->Option ByteArray)
noncomputable def fs94(lo:Lo):List FnE:=Ynr lo::fs93 lo
theorem YyE(h:GZ P fm fs93 lo)(t:Ti P fm 550 YyD):GZ P fm fs94 lo:=
  h.p (Ynr lo) (YyC lo) t
def q94(lo:Lo)(v0_0:Int)(v0_1:Int)(v0_2:ByteArray):Option (ByteArray×Int):=
  YG1 (q6 lo v0_0 v0_1 v0_2) fun y371=>bif(!y371)then(some ((YHk #[]),(1:Int)))else(bif(decide (v0_0=0))then(some ((YHk #[110,117,108,108]),(0:Int)))else(bif(decide (v0_0=1))then(YG1 (q92 lo v0_1 (10:Int)) fun y377=>some (y377,(0:Int)))else(bif(decide (v0_0=3))then(YG1 (q92 lo v0_1 (10:Int)) fun y378=>chk (YGR ((YHk #[63]).size+y378.size) 9223372036854775807=true) (some (((YHk #[63])++y378),(0:Int))))else(YG1 (q93 lo v0_2) fun y380=>some (y380,(0:Int))))))
def YyF:VFn:=⟨true,25,[.t 2,.t 3],
 (Rg [oG 1 0,o 2 (.mv (ks (⟨#[]⟩))),oK 3 0]
 (.seq (Rg [oT 4 3 1,oC 5 283 [4],oX 6 5]
 (.cond 6 (Rg [o 2 (.mv (ks (⟨#[]⟩))),oK 3 1]
 (.fz [2,3] .ret))
 .skip))
 (.seq (Rg [oF 7 0 1,oL 8 7]
 (.blk 0 (Rg [oR 10 .eql 8 (k 0),oM 9 10]
 (.cond 9 (Rg [o 2 (.mv (ks (⟨#[110,117,108,108]⟩))),oK 3 0]
 (.fz [2,3] .ret))
 (Rg [oR 12 .eql 8 (k 1),oM 11 12]
 (.cond 11 (Rg [oF 13 1 1,oL 14 13,oC 15 549 [14,(k 10)],oM 2 15,oK 3 0]
 (.fz [2,3] .ret))
 (Rg [oR 17 .eql 8 (k 3),oM 16 17]
 (.cond 16 (Rg [oF 18 1 1,oL 19 18,oC 20 549 [19,(k 10)],oR 21 .add (ks (⟨#[63]⟩)) 20,oM 2 21,oK 3 0]
 (.fz [2,3] .ret))
 .skip))))))))
 (Rg [oF 22 2 1,oL 23 22,oC 24 550 [23],oM 2 24,oK 3 0]
 (.fz [2,3] .ret)))))⟩
def Yns(lo:Lo):FnE:=Zfe 530 true (Zsg [0] [.ag [.j,.j,.s]] []) (.tp [.s,.j]) [] (fun x=>q94 lo x.1 x.2.1 x.2.2:Int×Int×ByteArray->Option (ByteArray×Int))
noncomputable def fs95(lo:Lo):List FnE:=Yns lo::fs94 lo
theorem YyG(h:GZ P fm fs94 lo)(t:Ti P fm 530 YyF):GZ P fm fs95 lo:=
  h.p (Yns lo) .n t
def q95(lo:Lo)(l:List ByteArray)(sep:ByteArray):Option ByteArray:=YD6 l sep
def YyH(lo:Lo):FnE:=vjoinE 169
noncomputable def fs96(lo:Lo):List FnE:=YyH lo::fs95 lo
theorem YyI(h:GZ P fm fs95 lo)(hG: ∀f,fm f=169->YBT P f=true/\ ∃ρ:Go.Shelf.Ren,Go.Proofs.Lays.n156 P ρ/\Go.Proofs.Builder.Extra P ρ/\ρ.f 156=f):GZ P fm fs96 lo:=
  ⟨h.1,h.2,Ytg h.S rfl hG⟩
def q96_L6_b:VCode:=
 (Rg [oR 25 .lss 24 23]
 (.seq (Ce 25 2)
 (.seq (.blk 3 (Rg [oI 26 4 22 24,oT 27 4 26,o 9 (.alloc [.s (⟨#[]⟩),.i .i64 0,.i .i64 0,.s (⟨#[]⟩)]),oS 4 9 27]
 (Rg [oF 28 0 9,oL 29 28,oM 10 29]
 (.seq (Rg [oM 30 10,oR 31 .eql 30 (ks (⟨#[]⟩))]
 (.cond 31 (.reg [oF 33 1 9,oT 34 3 33,oC 35 530 [34],oM 32 35,oE 36 32 0,oE 37 32 1,oM 10 36])
 .skip))
 (.reg [oM 38 7,oM 39 10,o 40 (.bsl (cs [.s]) 1 [(0,39)]),o 41 (.app (cs [.s]) 0 38 40),oM 7 41])))))
 (.reg [oR 42 .add 24 (k 1),oM 24 42]))))
def Ynt(lo:Lo):Zp40->Option (Zp40⊕ ((Zt0×Int×Int×Zt3×Zt0×Zt3×ByteArray×Zt7×Zt3))):=fun x=>match x with
  | (v15,v16,v17,v22,v23,v24,q1_0,q1_1,atoms4,a6_0,a6_1,terms7)=>bif(decide (v24<v23))then(chk (0<=v24/\v24< (v22.length:Int)) (bif(decide ((v22.getD v24.toNat Zd0).1=(YHk #[])))then(YG1 (q94 lo ((v22.getD v24.toNat Zd0).2.1) ((v22.getD v24.toNat Zd0).2.2.1) ((v22.getD v24.toNat Zd0).2.2.2)) fun y381=>chk (terms7.length+[y381.1].length<=maxEl) (some (.inl (v15,v16,v17,v22,v23,(YHl .i64 (v24+1)),q1_0,q1_1,atoms4,a6_0,a6_1,(terms7++[y381.1])))))else(chk (terms7.length+([(v22.getD v24.toNat Zd0).1]).length<=maxEl) (some (.inl (v15,v16,v17,v22,v23,(YHl .i64 (v24+1)),q1_0,q1_1,atoms4,a6_0,a6_1,(terms7++([(v22.getD v24.toNat Zd0).1]))))))))else(some (.inr (v15,v16,v17,q1_0,q1_1,atoms4,a6_0,a6_1,terms7)))
def Ynu(lo:Lo):Zp40->Option ((Zt0×Int×Int×Zt3×Zt0×Zt3×ByteArray×Zt7×Zt3)):=lo.run (Ynt lo)
def YyJ(lo:Lo):LpE:=⟨6,[(7,none,false)],(Zsg [1,4,6,7,15,16,17,22,23,24] [.ptr 0 0 0,.ref 1,.ptr 2 0 0,.ref 3,.l Zc5,.j,.j,.l Zc13,.j,.j] [.st [.l (cs [.s]),.l Zc5],.sq (cs [.s]),.st [.s,.l Zc13],.sq (cs [.s])]),[⟨.exit 2,(Zsg [1,4,6,7,15,16,17] [.ptr 0 0 0,.ref 1,.ptr 2 0 0,.ref 3,.l Zc5,.j,.j] [.st [.l (cs [.s]),.l Zc5],.sq (cs [.s]),.st [.s,.l Zc13],.sq (cs [.s])])⟩],Ynu lo⟩
def Ynv(lo:Lo):LL:=(YyJ lo,.loop q96_L6_b.er)::[]
theorem YyK(lo:Lo):Lk lo pf (fs96 lo) 0 (Ynv lo):=.l .n (Ynt lo)
def q96_L3_b:VCode:=
 (Rg [oR 18 .lss 17 16]
 (.seq (Ce 18 0)
 (.seq (.blk 1 (Rg [oI 19 2 15 17,oT 20 2 19,o 6 (.alloc [.s (⟨#[]⟩),.e Zc13]),oS 2 6 20]
 (Rg [o 7 (.mv (ke (cs [.s])))]
 (.seq (Rg [oF 21 1 6,oL 22 21,oN 23 22,oK 24 0]
 (.blk 2 (.loop 6 q96_L6_b)))
 (.reg [oM 43 4,oF 44 0 6,oL 45 44,oR 46 .add 45 (ks (⟨#[40]⟩)),oM 47 7,o 48 (.call 169 [47,(ks (⟨#[44,32]⟩))]),oR 49 .add 46 48,oR 50 .add 49 (ks (⟨#[41]⟩)),o 51 (.bsl (cs [.s]) 1 [(0,50)]),o 52 (.app (cs [.s]) 0 43 51),oM 4 52])))))
 (.reg [oR 53 .add 17 (k 1),oM 17 53]))))
def Ynw(lo:Lo):Zt0×Int×Int×Zt3×Zt0×Zt3->Option ((Zt0×Int×Int×Zt3×Zt0×Zt3)⊕ ((Zt3×Zt0×Zt3))):=fun x=>match x with
  | (v15,v16,v17,q1_0,q1_1,atoms4)=>bif(decide (v17<v16))then(chk (0<=v17/\v17< (v15.length:Int)) (YG1 (Ynu lo (v15,v16,v17,(v15.getD v17.toNat ((YHk #[]),[])).2,(((v15.getD v17.toNat ((YHk #[]),[])).2).length:Int),(0:Int),q1_0,q1_1,atoms4,(v15.getD v17.toNat ((YHk #[]),[])).1,(v15.getD v17.toNat ((YHk #[]),[])).2,[])) fun y382=>chk (YGR (y382.2.2.2.2.2.2.1.size+(YHk #[40]).size) 9223372036854775807=true) (YG1 (q95 lo y382.2.2.2.2.2.2.2.2 (YHk #[44,32])) fun y383=>chk (YGR ((y382.2.2.2.2.2.2.1++(YHk #[40])).size+y383.size) 9223372036854775807=true) (chk (YGR (((y382.2.2.2.2.2.2.1++(YHk #[40]))++y383).size+(YHk #[41]).size) 9223372036854775807=true) (chk (y382.2.2.2.2.2.1.length+([(((y382.2.2.2.2.2.2.1++(YHk #[40]))++y383)++(YHk #[41]))]).length<=maxEl) (some (.inl (y382.1,y382.2.1,(YHl .i64 (y382.2.2.1+(1:Int))),y382.2.2.2.1,y382.2.2.2.2.1,(y382.2.2.2.2.2.1++([(((y382.2.2.2.2.2.2.1++(YHk #[40]))++y383)++(YHk #[41]))]))))))))))else(some (.inr (q1_0,q1_1,atoms4)))
def Ynx(lo:Lo):Zt0×Int×Int×Zt3×Zt0×Zt3->Option ((Zt3×Zt0×Zt3)):=lo.run (Ynw lo)
def YyL(lo:Lo):LpE:=⟨3,[(4,none,false)],(Zsg [1,4,15,16,17] [.ptr 0 0 0,.ref 1,.l Zc5,.j,.j] [.st [.l (cs [.s]),.l Zc5],.sq (cs [.s])]),[⟨.exit 0,(Zsg [1,4] [.ptr 0 0 0,.ref 1] [.st [.l (cs [.s]),.l Zc5],.sq (cs [.s])])⟩],Ynx lo⟩
def YyM(lo:Lo):LL:=(YyL lo,.loop q96_L3_b.er)::Ynv lo
theorem YyN(lo:Lo):Lk lo pf (fs96 lo) 0 (YyM lo):=.l (YyK lo) (Ynw lo)
def q96(lo:Lo)(q0_0:List ByteArray)(q0_1:List (ByteArray×Zt7)):Option (ByteArray×Int):=
  YG1 (q77 lo q0_0 q0_1) fun y370=>bif(!y370)then(some ((YHk #[]),(1:Int)))else(YG1 (Ynx lo (q0_1,(q0_1.length:Int),(0:Int),q0_0,q0_1,[])) fun y384=>YG1 (q95 lo y384.1 (YHk #[44,32])) fun y385=>chk (YGR ((YHk #[40]).size+y385.size) 9223372036854775807=true) (chk (YGR (((YHk #[40])++y385).size+(YHk #[41,32,58,32]).size) 9223372036854775807=true) (YG1 (q95 lo y384.2.2 (YHk #[44,32])) fun y386=>chk (YGR ((((YHk #[40])++y385)++(YHk #[41,32,58,32])).size+y386.size) 9223372036854775807=true) (some (((((YHk #[40])++y385)++(YHk #[41,32,58,32]))++y386),(0:Int))))))
def YyO:VFn:=⟨true,62,[.t 2,.t 3],
 (Rg [oG 1 0,o 2 (.mv (ks (⟨#[]⟩))),oK 3 0]
 (.seq (Rg [oT 11 2 1,oC 12 519 [11],oX 13 12]
 (.cond 13 (Rg [o 2 (.mv (ks (⟨#[]⟩))),oK 3 1]
 (.fz [2,3] .ret))
 .skip))
 (Rg [o 4 (.mv (ke (cs [.s])))]
 (.seq (Rg [oF 14 1 1,oL 15 14,oN 16 15,oK 17 0]
 (.blk 0 (.loop 3 q96_L3_b)))
 (Rg [oF 54 0 1,oL 55 54,o 56 (.call 169 [55,(ks (⟨#[44,32]⟩))]),oR 57 .add (ks (⟨#[40]⟩)) 56,oR 58 .add 57 (ks (⟨#[41,32,58,32]⟩)),oM 59 4,o 60 (.call 169 [59,(ks (⟨#[44,32]⟩))]),oR 61 .add 58 60,oM 2 61,oK 3 0]
 (.fz [2,3] .ret))))))⟩
def Yny(lo:Lo):FnE:=Zfe 489 true (Zsg [0] [.ag [.l (cs [.s]),.l Zc5]] []) (.tp [.s,.j]) [] (fun x=>q96 lo x.1 x.2:Zt3×Zt0->Option (ByteArray×Int))
noncomputable def fs97(lo:Lo):List FnE:=Yny lo::fs96 lo
theorem YyP(h:GZ P fm fs96 lo)(t:Ti P fm 489 YyO):GZ P fm fs97 lo:=
  h.p (Yny lo) (YyN lo) t
def q97_L3_b:VCode:=
 (.seq (Rg [oM 11 5,oM 12 0,oN 13 12,oR 14 .lss 11 13]
 (Ce 14 0))
 (.seq (.blk 1 (Rg [oM 17 0,oM 18 5,oI 19 1 17 18,oL 20 19,oM 21 1,oM 22 5,oI 23 1 21 22,oL 24 23,oR 25 .neq 20 24]
 (.cond 25 (Rg [oB 4 false]
 (Fr 4))
 .skip)))
 (.reg [oM 15 5,oR 16 .add 15 (k 1),oM 5 16])))
def Ynz(lo:Lo):(List Int)× (List Int)×Int->Option (((List Int)× (List Int)×Int)⊕ (Bool⊕Unit)):=fun x=>match x with
  | (a0,b1,i5)=>bif(decide (i5< (a0.length:Int)))then(chk (0<=i5/\i5< (a0.length:Int)) (chk (0<=i5/\i5< (b1.length:Int)) (bif(!decide ((a0.getD i5.toNat (0:Int))=(b1.getD i5.toNat (0:Int))))then(some (.inr (.inl false)))else(some (.inl (a0,b1,(YHl .i64 (i5+1))))))))else(some (.inr (.inr ())))
def YnA(lo:Lo):(List Int)× (List Int)×Int->Option (Bool⊕Unit):=lo.run (Ynz lo)
def YyQ(lo:Lo):LpE:=⟨3,[],(Zsg [0,1,5] [.l (cs [I]),.l (cs [I]),.j] []),[⟨.ret,(Zsg [4] [.b] [])⟩,⟨.exit 0,(Zsg [] [] [])⟩],YnA lo⟩
def YyR(lo:Lo):LL:=(YyQ lo,.loop q97_L3_b.er)::[]
theorem YyS(lo:Lo):Lk lo pf (fs97 lo) 0 (YyR lo):=.l .n (Ynz lo)
def q97(lo:Lo)(a0:List Int)(b1:List Int):Option Bool:=
  bif(!decide ((a0.length:Int)=(b1.length:Int)))then(some false)else(YG1 (YnA lo (a0,b1,(0:Int))) fun y388=>alt2 y388 (fun y389=>some y389) (fun y390=>some true))
def YyT:VFn:=⟨true,26,[.t 4],
 (Rg [oB 4 false]
 (.seq (Rg [oM 6 0,oN 7 6,oM 8 1,oN 9 8,oR 10 .neq 7 9]
 (.cond 10 (Rg [oB 4 false]
 (Fr 4))
 .skip))
 (.seq (Rg [oK 5 0]
 (.blk 0 (.loop 3 q97_L3_b)))
 (Rg [oB 4 true]
 (Fr 4)))))⟩
def YnB(lo:Lo):FnE:=Zfe 351 true (Zsg [0,1] [.l (cs [I]),.l (cs [I])] []) .b [] (fun x=>q97 lo x.1 x.2:(List Int)× (List Int)->Option Bool)
noncomputable def fs98(lo:Lo):List FnE:=YnB lo::fs97 lo
theorem YyU(h:GZ P fm fs97 lo)(t:Ti P fm 351 YyT):GZ P fm fs98 lo:=
  h.p (YnB lo) (YyS lo) t
end Go.Abs.G47
namespace Go.Abs.G47
open Go Go.Abs
set_option maxRecDepth 100000
set_option maxHeartbeats 1000000
variable{P:Program}{fm:FM}{lo:Lo}
def q98_L3_b:VCode:=
 (.seq (Rg [oM 11 5,oM 12 0,oN 13 12,oR 14 .lss 11 13]
 (Ce 14 0))
 (.seq (.blk 1 (Rg [oM 17 0,oM 18 5,oI 19 1 17 18,oL 20 19,oM 21 1,oM 22 5,oI 23 1 21 22,oL 24 23,oC 25 351 [20,24],oX 26 25]
 (.cond 26 (Rg [oB 4 false]
 (Fr 4))
 .skip)))
 (.reg [oM 15 5,oR 16 .add 15 (k 1),oM 5 16])))
def YnC(lo:Lo):Zt11×Zt11×Int->Option ((Zt11×Zt11×Int)⊕ (Bool⊕Unit)):=fun x=>match x with
  | (a0,b1,i5)=>bif(decide (i5< (a0.length:Int)))then(chk (0<=i5/\i5< (a0.length:Int)) (chk (0<=i5/\i5< (b1.length:Int)) (YG1 (q97 lo (a0.getD i5.toNat []) (b1.getD i5.toNat [])) fun y391=>bif(!y391)then(some (.inr (.inl false)))else(some (.inl (a0,b1,(YHl .i64 (i5+1))))))))else(some (.inr (.inr ())))
def YnD(lo:Lo):Zt11×Zt11×Int->Option (Bool⊕Unit):=lo.run (YnC lo)
def YyV(lo:Lo):LpE:=⟨3,[],(Zsg [0,1,5] [.l Zc17,.l Zc17,.j] []),[⟨.ret,(Zsg [4] [.b] [])⟩,⟨.exit 0,(Zsg [] [] [])⟩],YnD lo⟩
def YyW(lo:Lo):LL:=(YyV lo,.loop q98_L3_b.er)::[]
theorem YyX(lo:Lo):Lk lo pf (fs98 lo) 0 (YyW lo):=.l .n (YnC lo)
def q98(lo:Lo)(a0:List ((List Int)))(b1:List ((List Int))):Option Bool:=
  bif(!decide ((a0.length:Int)=(b1.length:Int)))then(some false)else(YG1 (YnD lo (a0,b1,(0:Int))) fun y392=>alt2 y392 (fun y393=>some y393) (fun y394=>some true))
def YyY:VFn:=⟨true,27,[.t 4],
 (Rg [oB 4 false]
 (.seq (Rg [oM 6 0,oN 7 6,oM 8 1,oN 9 8,oR 10 .neq 7 9]
 (.cond 10 (Rg [oB 4 false]
 (Fr 4))
 .skip))
 (.seq (Rg [oK 5 0]
 (.blk 0 (.loop 3 q98_L3_b)))
 (Rg [oB 4 true]
 (Fr 4)))))⟩
def YnE(lo:Lo):FnE:=Zfe 346 true (Zsg [0,1] [.l Zc17,.l Zc17] []) .b [] (fun x=>q98 lo x.1 x.2:Zt11×Zt11->Option Bool)
noncomputable def fs99(lo:Lo):List FnE:=YnE lo::fs98 lo
theorem YyZ(h:GZ P fm fs98 lo)(t:Ti P fm 346 YyY):GZ P fm fs99 lo:=
  h.p (YnE lo) (YyX lo) t
noncomputable def q99(lo:Lo):Option Bool:=
  YG1 (q1 lo (1:Int) ([(1:Int),(2:Int)])) fun y2=>YG1 (q1 lo (2:Int) ([(1:Int),(3:Int)])) fun y3=>YG1 (q1 lo (3:Int) ([(2:Int),(3:Int)])) fun y4=>YG1 (q1 lo (1:Int) ([(3:Int)])) fun y5=>YG1 (q2 lo (YHk #[120])) fun y6=>YG1 (q2 lo (YHk #[121])) fun y7=>YG1 (q2 lo (YHk #[121])) fun y8=>YG1 (q66 lo ([((YHk #[114]),[(YHk #[97]),(YHk #[98])],[y2,y3,y4]),((YHk #[115]),[(YHk #[99])],[y5])]) ([(YHk #[120])]) ([((YHk #[114]),[y6,y7]),((YHk #[115]),[y8])])) fun y229=>YG1 (q0 lo (2:Int)) fun y230=>YG1 (q73 lo ([((YHk #[114]),[(YHk #[97]),(YHk #[98])],[y2,y3,y4]),((YHk #[115]),[(YHk #[99])],[y5])]) ([(YHk #[120])]) ([((YHk #[114]),[y6,y7]),((YHk #[115]),[y8])]) [y230.2]) fun y295=>YG1 (q2 lo (YHk #[120])) fun y296=>YG1 (q2 lo (YHk #[121])) fun y297=>YG1 (q2 lo (YHk #[120])) fun y298=>YG1 (q2 lo (YHk #[122])) fun y299=>YG1 (q87 lo ([(YHk #[120])]) ([((YHk #[114]),[y296,y297]),((YHk #[114]),[y298,y299])])) fun y369=>YG1 (q96 lo y369.1 y369.2.1) fun y387=>bif(decide (y229.2=(0:Int)))then(bif(decide (y295.2=(0:Int)))then(bif(decide (y369.2.2=(0:Int)))then(bif(decide (y387.2=(0:Int)))then(bif(decide ((y229.1.length:Int)=2))then(chk (0<=(1:Int)/\ (1:Int)< (y229.1.length:Int)) (chk (0<=(0:Int)/\ (0:Int)< ((y229.1.getD 1 []).length:Int)) (bif(decide (((y229.1.getD 1 []).getD 0 Zd1).2.1=(2:Int)))then(YG1 (q98 lo y295.1 ([[(3:Int),(1:Int)]])) fun y395=>bif y395 then(bif(decide (y387.1=(YHk #[40,120,41,32,58,32,114,40,120,44,32,122,41])))then(YG1 (q86 lo ([(YHk #[120])]) ([((YHk #[114]),[y296,y297]),((YHk #[114]),[y298,y299])]) y369.1 y369.2.1) fun y396=>bif y396 then(YG1 (q86 lo y369.1 y369.2.1 ([(YHk #[120])]) ([((YHk #[114]),[y296,y297]),((YHk #[114]),[y298,y299])])) fun y397=>some y397)else(some false))else(some false))else(some false))else(some false))))else(some false))else(some false))else(some false))else(some false))else(some false)
def Yy0:VFn:=⟨true,129,[.t 0],
 (Rg [oB 0 false]
 (Rg [o 1 (.mv (.c (.f 497)))]
 (Rg [o 14 (.bsl (cs [.s]) 2 [(0,(ks (⟨#[97]⟩))),(1,(ks (⟨#[98]⟩)))]),oM 15 1,o 16 (.bsl (cs [I]) 2 [(0,(k 1)),(1,(k 2))]),o 17 (.dyn 15 [(k 1),16]),oM 18 1,o 19 (.bsl (cs [I]) 2 [(0,(k 1)),(1,(k 3))]),o 20 (.dyn 18 [(k 2),19]),oM 21 1,o 22 (.bsl (cs [I]) 2 [(0,(k 2)),(1,(k 3))]),o 23 (.dyn 21 [(k 3),22]),o 24 (.bsl Zc15 3 [(0,17),(1,20),(2,23)]),o 25 (.build [.s (⟨#[]⟩),.e (cs [.s]),.e Zc15] [(0,1,(ks (⟨#[114]⟩))),(1,1,14),(2,1,24)]),o 26 (.bsl (cs [.s]) 1 [(0,(ks (⟨#[99]⟩)))]),oM 27 1,o 28 (.bsl (cs [I]) 1 [(0,(k 3))]),o 29 (.dyn 27 [(k 1),28]),o 30 (.bsl Zc15 1 [(0,29)]),o 31 (.build [.s (⟨#[]⟩),.e (cs [.s]),.e Zc15] [(0,1,(ks (⟨#[115]⟩))),(1,1,26),(2,1,30)]),o 32 (.bsl Zc6 2 [(0,25),(1,31)]),o 33 (.build [.e Zc6] [(0,1,32)]),o 2 (.alloc [.e Zc6]),oS 1 2 33]
 (Rg [o 34 (.bsl (cs [.s]) 1 [(0,(ks (⟨#[120]⟩)))]),o 35 (.call 499 [(ks (⟨#[120]⟩))]),o 36 (.call 499 [(ks (⟨#[121]⟩))]),o 37 (.bsl Zc13 2 [(0,35),(1,36)]),o 38 (.build [.s (⟨#[]⟩),.e Zc13] [(0,1,(ks (⟨#[114]⟩))),(1,1,37)]),o 39 (.call 499 [(ks (⟨#[121]⟩))]),o 40 (.bsl Zc13 1 [(0,39)]),o 41 (.build [.s (⟨#[]⟩),.e Zc13] [(0,1,(ks (⟨#[115]⟩))),(1,1,40)]),o 42 (.bsl Zc5 2 [(0,38),(1,41)]),o 43 (.build [.e (cs [.s]),.e Zc5] [(0,1,34),(1,1,42)]),o 3 (.alloc [.e (cs [.s]),.e Zc5]),oS 2 3 43]
 (Rg [oT 45 1 2,oT 46 2 3,oC 47 476 [45,46],oM 44 47,oE 48 44 0,oE 49 44 1,oM 4 48,oM 5 49]
 (Rg [oT 51 1 2,oT 52 2 3,oC 53 498 [(k 2)],o 54 (.fld true 1 3 53),o 55 (.bsl Zc10 1 [(0,54)]),oC 56 495 [51,52,55],oM 50 56,oE 57 50 0,oE 58 50 1,oM 6 57,oM 7 58]
 (Rg [o 59 (.bsl (cs [.s]) 1 [(0,(ks (⟨#[120]⟩)))]),o 60 (.call 499 [(ks (⟨#[120]⟩))]),o 61 (.call 499 [(ks (⟨#[121]⟩))]),o 62 (.bsl Zc13 2 [(0,60),(1,61)]),o 63 (.build [.s (⟨#[]⟩),.e Zc13] [(0,1,(ks (⟨#[114]⟩))),(1,1,62)]),o 64 (.call 499 [(ks (⟨#[120]⟩))]),o 65 (.call 499 [(ks (⟨#[122]⟩))]),o 66 (.bsl Zc13 2 [(0,64),(1,65)]),o 67 (.build [.s (⟨#[]⟩),.e Zc13] [(0,1,(ks (⟨#[114]⟩))),(1,1,66)]),o 68 (.bsl Zc5 2 [(0,63),(1,67)]),o 69 (.build [.e (cs [.s]),.e Zc5] [(0,1,59),(1,1,68)]),o 8 (.alloc [.e (cs [.s]),.e Zc5]),oS 2 8 69]
 (Rg [oT 71 2 8,oC 72 484 [71],oM 70 72,oE 73 70 0,oE 74 70 1,o 9 (.alloc [.e (cs [.s]),.e Zc5]),oS 2 9 73,oM 10 74]
 (Rg [oT 76 2 9,oC 77 489 [76],oM 75 77,oE 78 75 0,oE 79 75 1,oM 11 78,oM 12 79]
 (Rg [oM 80 5,oR 81 .eql 80 (k 0),oM 82 81,gT 83 82 (.mv 7),gT 84 82 (.bin .eql 83 (k 0)),oP 85 82 84 (kb false),oM 86 85,gT 87 86 (.mv 10),gT 88 86 (.bin .eql 87 (k 0)),oP 89 86 88 (kb false),oM 90 89,gT 91 90 (.mv 12),gT 92 90 (.bin .eql 91 (k 0)),oP 93 90 92 (kb false),oM 13 93]
 (Rg [oM 94 13,oM 95 94,gT 96 95 (.mv 4),gT 97 95 (.len 96),gT 98 95 (.bin .eql 97 (k 2)),oP 99 95 98 (kb false),oM 100 99,gT 101 100 (.mv 4),gT 102 100 (.iad 1 101 (k 1)),gT 103 100 (.load false 1 102),gT 104 100 (.iad 3 103 (k 0)),gT 105 100 (.fad 1 104),gT 106 100 (.load false 1 105),gT 107 100 (.bin .eql 106 (k 2)),oP 108 100 107 (kb false),oM 109 108,gT 110 109 (.mv 6),gT 111 109 (.bsl (cs [I]) 2 [(0,(k 3)),(1,(k 1))]),gT 112 109 (.bsl Zc17 1 [(0,111)]),gT 113 109 (.call 346 [110,112]),oP 114 109 113 (kb false),oM 115 114,gT 116 115 (.mv 11),gT 117 115 (.bin .eql 116 (ks (⟨#[40,120,41,32,58,32,114,40,120,44,32,122,41]⟩))),oP 118 115 117 (kb false),oM 119 118,gT 120 119 (.load true 2 8),gT 121 119 (.load true 2 9),gT 122 119 (.call 482 [120,121]),oP 123 119 122 (kb false),oM 124 123,gT 125 124 (.load true 2 9),gT 126 124 (.load true 2 8),gT 127 124 (.call 482 [125,126]),oP 128 124 127 (kb false),oM 0 128]
 (Fr 0))))))))))))⟩
noncomputable def YnF(lo:Lo):FnE:=Zfe 469 true (Zsg [] [] []) .b [] (fun x=>q99 lo:Unit->Option Bool)
noncomputable def YEZ(lo:Lo):List FnE:=YnF lo::fs99 lo
theorem Yy1(h:GZ P fm fs99 lo)(t:Ti P fm 469 Yy0):GZ P fm YEZ lo:=
  h.p (YnF lo) .n t
noncomputable def YFr(lo:Lo):List FnE:=YEZ lo
noncomputable def YE0(lo:Lo):List FnE:=YFr lo
def q102(lo:Lo)(c0:Int):Option Bool:=
  bif(decide (97<=c0))then(bif(decide (c0<=122))then(some true)else(bif(decide (65<=c0))then(bif(decide (c0<=90))then(some true)else(some (decide (c0=95))))else(some (decide (c0=95)))))else(bif(decide (65<=c0))then(bif(decide (c0<=90))then(some true)else(some (decide (c0=95))))else(some (decide (c0=95))))
def Yy2:VFn:=⟨true,21,[.t 2],
 (Rg [oB 2 false]
 (Rg [oM 3 0,oR 4 .geq 3 (ki .u8 97),oM 5 4,gT 6 5 (.mv 0),gT 7 5 (.bin .leq 6 (ki .u8 122)),oP 8 5 7 (kb false),oM 9 8,gF 10 9 (.mv 0),gF 11 9 (.bin .geq 10 (ki .u8 65)),gF 12 9 (.mv 11),gT 13 12 (.mv 0),gT 14 12 (.bin .leq 13 (ki .u8 90)),gF 15 9 (.pick 12 14 (kb false)),oP 16 9 (kb true) 15,oM 17 16,gF 18 17 (.mv 0),gF 19 17 (.bin .eql 18 (ki .u8 95)),oP 20 17 (kb true) 19,oM 2 20]
 (Fr 2)))⟩
def YnG(lo:Lo):FnE:=Zfe 295 true (Zsg [0] [.i .u8] []) .b [] (fun x=>q102 lo x:Int->Option Bool)
noncomputable def YD7(lo:Lo):List FnE:=YnG lo::YE0 lo
theorem Yy3(h:GZ P fm YE0 lo)(t:Ti P fm 295 Yy2):GZ P fm YD7 lo:=
  h.p (YnG lo) .n t
def q103_L3_b:VCode:=
 (.seq (Rg [oM 22 3,oM 23 0,o 24 (.lenS 23),oR 25 .lss 22 24]
 (Ce 25 0))
 (.seq (.blk 1 (Rg [oM 28 0,oM 29 3,o 30 (.idx 28 29),oC 31 295 [30],oX 32 31,oM 33 32,gT 34 33 (.mv 0),gT 35 33 (.mv 3),gT 36 33 (.idx 34 35),gT 37 33 (.bin .lss 36 (ki .u8 48)),gT 38 33 (.mv 37),gF 39 38 (.mv 0),gF 40 38 (.mv 3),gF 41 38 (.idx 39 40),gF 42 38 (.bin .gtr 41 (ki .u8 57)),gT 43 33 (.pick 38 (kb true) 42),oP 44 33 43 (kb false)]
 (.cond 44 (Rg [oB 2 false]
 (Fr 2))
 .skip)))
 (.reg [oM 26 3,oR 27 .add 26 (k 1),oM 3 27])))
def YeD(lo:Lo):ByteArray×Int->Option ((ByteArray×Int)⊕ (Bool⊕Unit)):=fun x=>match x with
  | (s0,i3)=>bif(decide (i3< (s0.size:Int)))then(chk (0<=i3/\i3< (s0.size:Int)) (YG1 (q102 lo (YBQ s0 i3)) fun y412=>bif(!y412)then(chk (0<=i3/\i3< (s0.size:Int)) (bif(decide ((YBQ s0 i3)< (48:Int)))then(some (.inr (.inl false)))else(chk (0<=i3/\i3< (s0.size:Int)) (bif(decide ((57:Int)< (YBQ s0 i3)))then(some (.inr (.inl false)))else(some (.inl (s0,(YHl .i64 (i3+1)))))))))else(some (.inl (s0,(YHl .i64 (i3+1)))))))else(some (.inr (.inr ())))
def Yg6(lo:Lo):ByteArray×Int->Option (Bool⊕Unit):=lo.run (YeD lo)
def Yy4(lo:Lo):LpE:=⟨3,[],(Zsg [0,3] [.s,.j] []),[⟨.ret,(Zsg [2] [.b] [])⟩,⟨.exit 0,(Zsg [] [] [])⟩],Yg6 lo⟩
def Yy5(lo:Lo):LL:=(Yy4 lo,.loop q103_L3_b.er)::[]
theorem Yy6(lo:Lo):Lk lo pf (YD7 lo) 0 (Yy5 lo):=.l .n (YeD lo)
def q103(lo:Lo)(s0:ByteArray):Option Bool:=
  bif(decide ((s0.size:Int)=0))then(some false)else(bif(decide ((24:Int)< (s0.size:Int)))then(some false)else(chk (0<=(0:Int)/\ (0:Int)< (s0.size:Int)) (YG1 (q102 lo (YBQ s0 (0:Int))) fun y411=>bif(!y411)then(some false)else(bif(decide (s0=(YHk #[110,117,108,108])))then(some false)else(YG1 (Yg6 lo (s0,(0:Int))) fun y413=>alt2 y413 (fun y414=>some y414) (fun y415=>some true))))))
def Yy7:VFn:=⟨true,45,[.t 2],
 (Rg [oB 2 false]
 (.seq (Rg [oM 4 0,o 5 (.lenS 4),oR 6 .eql 5 (k 0),oM 7 6,gF 8 7 (.mv 0),gF 9 7 (.lenS 8),gF 10 7 (.bin .gtr 9 (k 24)),oP 11 7 (kb true) 10,oM 12 11,gF 13 12 (.mv 0),gF 14 12 (.idx 13 (k 0)),gF 15 12 (.call 295 [14]),gF 16 12 (.not 15),oP 17 12 (kb true) 16,oM 18 17,gF 19 18 (.mv 0),gF 20 18 (.bin .eql 19 (ks (⟨#[110,117,108,108]⟩))),oP 21 18 (kb true) 20]
 (.cond 21 (Rg [oB 2 false]
 (Fr 2))
 .skip))
 (.seq (Rg [oK 3 0]
 (.blk 0 (.loop 3 q103_L3_b)))
 (Rg [oB 2 true]
 (Fr 2)))))⟩
def YnH(lo:Lo):FnE:=Zfe 258 true (Zsg [0] [.s] []) .b [] (fun x=>q103 lo x:ByteArray->Option Bool)
noncomputable def YD8(lo:Lo):List FnE:=YnH lo::YD7 lo
theorem Yy8(h:GZ P fm YD7 lo)(t:Ti P fm 258 Yy7):GZ P fm YD8 lo:=
  h.p (YnH lo) (Yy6 lo) t
def q104_L3_b:VCode:=
 (.seq (Rg [oM 6 5,oM 7 0,oN 8 7,oR 9 .lss 6 8]
 (Ce 9 0))
 (.seq (.blk 1 (Rg [oM 12 0,oM 13 5,oI 14 1 12 13,oL 15 14,oM 16 1,oR 17 .eql 15 16]
 (.cond 17 (Rg [oM 18 5,oM 4 18]
 (Fr 4))
 .skip)))
 (.reg [oM 10 5,oR 11 .add 10 (k 1),oM 5 11])))
def YeE(lo:Lo):Zt3×ByteArray×Int->Option ((Zt3×ByteArray×Int)⊕ (Int⊕Unit)):=fun x=>match x with
  | (l0,name1,i5)=>bif(decide (i5< (l0.length:Int)))then(chk (0<=i5/\i5< (l0.length:Int)) (bif(decide ((l0.getD i5.toNat (YHk #[]))=name1))then(some (.inr (.inl i5)))else(some (.inl (l0,name1,(YHl .i64 (i5+1)))))))else(some (.inr (.inr ())))
def Yg7(lo:Lo):Zt3×ByteArray×Int->Option (Int⊕Unit):=lo.run (YeE lo)
def Yy9(lo:Lo):LpE:=⟨3,[],(Zsg [0,1,5] [.l (cs [.s]),.s,.j] []),[⟨.ret,(Zsg [4] [.j] [])⟩,⟨.exit 0,(Zsg [] [] [])⟩],Yg7 lo⟩
def Yza(lo:Lo):LL:=(Yy9 lo,.loop q104_L3_b.er)::[]
theorem Yzb(lo:Lo):Lk lo pf (YD8 lo) 0 (Yza lo):=.l .n (YeE lo)
def q104(lo:Lo)(l0:List ByteArray)(name1:ByteArray):Option Int:=
  YG1 (Yg7 lo (l0,name1,(0:Int))) fun y418=>alt2 y418 (fun y419=>some y419) (fun y420=>some (-1:Int))
def Yzc:VFn:=⟨true,19,[.t 4],
 (Rg [oK 4 0]
 (.seq (Rg [oK 5 0]
 (.blk 0 (.loop 3 q104_L3_b)))
 (Rg [oK 4 (-1)]
 (Fr 4))))⟩
def YnI(lo:Lo):FnE:=Zfe 272 true (Zsg [0,1] [.l (cs [.s]),.s] []) (.i .i64) [] (fun x=>q104 lo x.1 x.2:Zt3×ByteArray->Option Int)
noncomputable def YE1(lo:Lo):List FnE:=YnI lo::YD8 lo
theorem Yzd(h:GZ P fm YD8 lo)(t:Ti P fm 272 Yzc):GZ P fm YE1 lo:=
  h.p (YnI lo) (Yzb lo) t
noncomputable def YE2(lo:Lo):List FnE:=YE1 lo
def q106(lo:Lo)(v0_0:Int)(v0_1:Int)(v0_2:ByteArray):Option Bool:=
  bif(decide (v0_0=0))then(bif(decide (v0_1=0))then(some (decide (v0_2=(YHk #[]))))else(some false))else(bif(decide (v0_0=1))then(some (decide (v0_2=(YHk #[]))))else(bif(decide (v0_0=2))then(bif(decide (v0_1=0))then(some (decide ((v0_2.size:Int)<=200)))else(some false))else(bif(decide (v0_0=3))then(bif(decide (1<=v0_1))then(some (decide (v0_2=(YHk #[]))))else(some false))else(some false))))
def Yze:VFn:=⟨true,44,[.t 2],
 (Rg [oG 1 0,oB 2 false]
 (.seq (Rg [oF 3 0 1,oL 4 3]
 (.blk 0 (Rg [oR 6 .eql 4 (k 0),oM 5 6]
 (.cond 5 (Rg [oF 7 1 1,oL 8 7,oR 9 .eql 8 (k 0),oM 10 9,gT 11 10 (.fad 2 1),gT 12 10 (.load false 1 11),gT 13 10 (.bin .eql 12 (ks (⟨#[]⟩))),oP 14 10 13 (kb false),oM 2 14]
 (Fr 2))
 (Rg [oR 16 .eql 4 (k 1),oM 15 16]
 (.cond 15 (Rg [oF 17 2 1,oL 18 17,oR 19 .eql 18 (ks (⟨#[]⟩)),oM 2 19]
 (Fr 2))
 (Rg [oR 21 .eql 4 (k 2),oM 20 21]
 (.cond 20 (Rg [oF 22 1 1,oL 23 22,oR 24 .eql 23 (k 0),oM 25 24,gT 26 25 (.fad 2 1),gT 27 25 (.load false 1 26),gT 28 25 (.lenS 27),gT 29 25 (.bin .leq 28 (k 200)),oP 30 25 29 (kb false),oM 2 30]
 (Fr 2))
 .skip))))))))
 (Rg [oF 31 0 1,oL 32 31,oR 33 .eql 32 (k 3),oM 34 33,gT 35 34 (.fad 1 1),gT 36 34 (.load false 1 35),gT 37 34 (.bin .geq 36 (k 1)),oP 38 34 37 (kb false),oM 39 38,gT 40 39 (.fad 2 1),gT 41 39 (.load false 1 40),gT 42 39 (.bin .eql 41 (ks (⟨#[]⟩))),oP 43 39 42 (kb false),oM 2 43]
 (Fr 2))))⟩
def YnJ(lo:Lo):FnE:=Zfe 284 true (Zsg [0] [.ag [.j,.j,.s]] []) .b [] (fun x=>q106 lo x.1 x.2.1 x.2.2:Int×Int×ByteArray->Option Bool)
noncomputable def YE3(lo:Lo):List FnE:=YnJ lo::YE2 lo
theorem Yzf(h:GZ P fm YE2 lo)(t:Ti P fm 284 Yze):GZ P fm YE3 lo:=
  h.p (YnJ lo) .n t
noncomputable def YFs(lo:Lo):List FnE:=YE3 lo
noncomputable def YFt(lo:Lo):List FnE:=YFs lo
noncomputable def YFu(lo:Lo):List FnE:=YFt lo
noncomputable def YE4(lo:Lo):List FnE:=YFu lo
def q111(lo:Lo)(t0_0:ByteArray)(t0_1:Int)(t0_2:Int)(t0_3:ByteArray):Option Bool:=
  bif(!decide (t0_0=(YHk #[])))then(YG1 (q103 lo t0_0) fun y444=>bif y444 then(some ((decide (t0_1=0))&& ((decide (t0_2=0))&& ((decide (t0_3=(YHk #[])))&&true))))else(some false))else(YG1 (q106 lo t0_1 t0_2 t0_3) fun y445=>some y445)
def Yzg:VFn:=⟨true,18,[.t 2],
 (Rg [oG 1 0,oB 2 false]
 (.seq (Rg [oF 3 0 1,oL 4 3,oR 5 .neq 4 (ks (⟨#[]⟩))]
 (.cond 5 (Rg [oF 6 0 1,oL 7 6,oC 8 258 [7],oM 9 8,gT 10 9 (.fad 1 1),gT 11 9 (.load true 3 10),gT 12 9 (.build [.i .i64 0,.i .i64 0,.s (⟨#[]⟩)] []),gT 13 9 (.eqa false [1,1,2] 11 12),oP 14 9 13 (kb false),oM 2 14]
 (Fr 2))
 .skip))
 (Rg [oF 15 1 1,oT 16 3 15,oC 17 284 [16],oM 2 17]
 (Fr 2))))⟩
def YnK(lo:Lo):FnE:=Zfe 542 true (Zsg [0] [.ag [.s,.j,.j,.s]] []) .b [] (fun x=>q111 lo x.1 x.2.1 x.2.2.1 x.2.2.2:Zp62->Option Bool)
noncomputable def YD9(lo:Lo):List FnE:=YnK lo::YE4 lo
theorem Yzh(h:GZ P fm YE4 lo)(t:Ti P fm 542 Yzg):GZ P fm YD9 lo:=
  h.p (YnK lo) .n t
def q112_L3_b:VCode:=
 (.seq (Rg [oM 4 3,oF 5 1 1,oL 6 5,oN 7 6,oR 8 .lss 4 7]
 (Ce 8 0))
 (.seq (.blk 1 (Rg [oF 11 1 1,oL 12 11,oM 13 3,oI 14 4 12 13,oT 15 4 14,oC 16 542 [15],oX 17 16]
 (.cond 17 (Rg [oB 2 false]
 (Fr 2))
 .skip)))
 (.reg [oM 9 3,oR 10 .add 9 (k 1),oM 3 10])))
def YeF(lo:Lo):Int×ByteArray×Zt7->Option ((Int×ByteArray×Zt7)⊕ (Bool⊕Unit)):=fun x=>match x with
  | (i3,a1_0,a1_1)=>bif(decide (i3< (a1_1.length:Int)))then(chk (0<=i3/\i3< (a1_1.length:Int)) (YG1 (q111 lo ((a1_1.getD i3.toNat Zd0).1) ((a1_1.getD i3.toNat Zd0).2.1) ((a1_1.getD i3.toNat Zd0).2.2.1) ((a1_1.getD i3.toNat Zd0).2.2.2)) fun y446=>bif(!y446)then(some (.inr (.inl false)))else(some (.inl ((YHl .i64 (i3+1)),a1_0,a1_1)))))else(some (.inr (.inr ())))
def Yg8(lo:Lo):Int×ByteArray×Zt7->Option (Bool⊕Unit):=lo.run (YeF lo)
def Yzi(lo:Lo):LpE:=⟨3,[],(Zsg [1,3] [.ptr 0 0 0,.j] [.st [.s,.l Zc13]]),[⟨.ret,(Zsg [2] [.b] [])⟩,⟨.exit 0,(Zsg [] [] [])⟩],Yg8 lo⟩
def Yzj(lo:Lo):LL:=(Yzi lo,.loop q112_L3_b.er)::[]
theorem Yzk(lo:Lo):Lk lo pf (YD9 lo) 0 (Yzj lo):=.l .n (YeF lo)
def q112(lo:Lo)(a0_0:ByteArray)(a0_1:List Zp62):Option Bool:=
  YG1 (Yg8 lo ((0:Int),a0_0,a0_1)) fun y447=>alt2 y447 (fun y448=>some y448) (fun y449=>some true)
def Yzl:VFn:=⟨true,18,[.t 2],
 (Rg [oG 1 0,oB 2 false]
 (.seq (Rg [oK 3 0]
 (.blk 0 (.loop 3 q112_L3_b)))
 (Rg [oB 2 true]
 (Fr 2))))⟩
def YnL(lo:Lo):FnE:=Zfe 508 true (Zsg [0] [.ag [.s,.l Zc13]] []) .b [] (fun x=>q112 lo x.1 x.2:ByteArray×Zt7->Option Bool)
noncomputable def YDP(lo:Lo):List FnE:=YnL lo::YD9 lo
theorem Yzm(h:GZ P fm YD9 lo)(t:Ti P fm 508 Yzl):GZ P fm YDP lo:=
  h.p (YnL lo) (Yzk lo) t
end Go.Abs.G47
namespace Go.Abs.G47
open Go Go.Abs
set_option maxRecDepth 100000
set_option maxHeartbeats 1000000
variable{P:Program}{fm:FM}{lo:Lo}
def q113_L5_b:VCode:=
 (.seq (Rg [oM 13 5,oM 14 0,oM 15 4,oI 16 2 14 15,oF 17 1 16,oL 18 17,oN 19 18,oR 20 .lss 13 19]
 (Ce 20 2))
 (.seq (.blk 3 (Rg [oM 23 0,oM 24 4,oI 25 2 23 24,oF 26 1 25,oL 27 26,oM 28 5,oI 29 4 27 28,oF 30 0 29,oL 31 30,oM 6 31]
 (Rg [oM 32 6,oR 33 .neq 32 (ks (⟨#[]⟩)),oM 34 33,gT 35 34 (.mv 3),gT 36 34 (.mv 6),gT 37 34 (.call 272 [35,36]),gT 38 34 (.bin .lss 37 (k 0)),oP 39 34 38 (kb false)]
 (.cond 39 (.reg [oM 40 3,oM 41 6,o 42 (.bsl (cs [.s]) 1 [(0,41)]),o 43 (.app (cs [.s]) 0 40 42),oM 3 43])
 .skip))))
 (.reg [oM 21 5,oR 22 .add 21 (k 1),oM 5 22])))
def YeG(lo:Lo):Zt0×Int×Int×Zt3->Option ((Zt0×Int×Int×Zt3)⊕ ((Zt0×Int×Zt3))):=fun x=>match x with
  | (l0,i4,k5,out3)=>chk (0<=i4/\i4< (l0.length:Int)) (bif(decide (k5< (((l0.getD i4.toNat ((YHk #[]),[])).2).length:Int)))then(chk (0<=i4/\i4< (l0.length:Int)) (chk (0<=k5/\k5< (((l0.getD i4.toNat ((YHk #[]),[])).2).length:Int)) (bif(!decide ((((l0.getD i4.toNat ((YHk #[]),[])).2).getD k5.toNat Zd0).1=(YHk #[])))then(YG1 (q104 lo out3 ((((l0.getD i4.toNat ((YHk #[]),[])).2).getD k5.toNat Zd0).1)) fun y454=>bif(decide (y454<0))then(chk (out3.length+([(((l0.getD i4.toNat ((YHk #[]),[])).2).getD k5.toNat Zd0).1]).length<=maxEl) (some (.inl (l0,i4,(YHl .i64 (k5+1)),(out3++([(((l0.getD i4.toNat ((YHk #[]),[])).2).getD k5.toNat Zd0).1]))))))else(some (.inl (l0,i4,(YHl .i64 (k5+1)),out3))))else(some (.inl (l0,i4,(YHl .i64 (k5+1)),out3))))))else(some (.inr (l0,i4,out3))))
def Yg9(lo:Lo):Zt0×Int×Int×Zt3->Option ((Zt0×Int×Zt3)):=lo.run (YeG lo)
def Yzn(lo:Lo):LpE:=⟨5,[],(Zsg [0,3,4,5] [.l Zc5,.ref 0,.j,.j] [.sq (cs [.s])]),[⟨.exit 2,(Zsg [0,3,4] [.l Zc5,.ref 0,.j] [.sq (cs [.s])])⟩],Yg9 lo⟩
def YnM(lo:Lo):LL:=(Yzn lo,.loop q113_L5_b.er)::[]
theorem Yzo(lo:Lo):Lk lo pf (YDP lo) 0 (YnM lo):=.l .n (YeG lo)
def q113_L3_b:VCode:=
 (.seq (Rg [oM 7 4,oM 8 0,oN 9 8,oR 10 .lss 7 9]
 (Ce 10 0))
 (.seq (.blk 1 (Rg [oK 5 0]
 (.blk 2 (.loop 5 q113_L5_b))))
 (.reg [oM 11 4,oR 12 .add 11 (k 1),oM 4 12])))
def YeH(lo:Lo):Zt0×Int×Zt3->Option ((Zt0×Int×Zt3)⊕ ((Zt3))):=fun x=>match x with
  | (l0,i4,out3)=>bif(decide (i4< (l0.length:Int)))then(YG1 (Yg9 lo (l0,i4,(0:Int),out3)) fun y455=>some (.inl (y455.1,(YHl .i64 (y455.2.1+(1:Int))),y455.2.2)))else(some (.inr out3))
def Yha(lo:Lo):Zt0×Int×Zt3->Option ((Zt3)):=lo.run (YeH lo)
def Yzp(lo:Lo):LpE:=⟨3,[(3,none,false)],(Zsg [0,3,4] [.l Zc5,.ref 0,.j] [.sq (cs [.s])]),[⟨.exit 0,(Zsg [3] [.ref 0] [.sq (cs [.s])])⟩],Yha lo⟩
def Yzq(lo:Lo):LL:=(Yzp lo,.loop q113_L3_b.er)::YnM lo
theorem Yzr(lo:Lo):Lk lo pf (YDP lo) 0 (Yzq lo):=.l (Yzo lo) (YeH lo)
def q113(lo:Lo)(l0:List (ByteArray×Zt7)):Option (Zt3):=
  YG1 (Yha lo (l0,(0:Int),[])) fun y456=>some y456
def Yzs:VFn:=⟨true,45,[.t 2],
 (Rg [o 2 (.mv (ke (cs [.s])))]
 (Rg [o 3 (.mv (ke (cs [.s])))]
 (.seq (Rg [oK 4 0]
 (.blk 0 (.loop 3 q113_L3_b)))
 (Rg [oM 44 3,oM 2 44]
 (Fr 2)))))⟩
def YnN(lo:Lo):FnE:=Zfe 511 true (Zsg [0] [.l Zc5] []) (.l (cs [.s])) [] (fun x=>q113 lo x:Zt0->Option (Zt3))
noncomputable def YEa(lo:Lo):List FnE:=YnN lo::YDP lo
theorem Yzt(h:GZ P fm YDP lo)(t:Ti P fm 511 Yzs):GZ P fm YEa lo:=
  h.p (YnN lo) (Yzr lo) t
def q114_L3_b:VCode:=
 (.seq (Rg [oM 8 4,oF 9 0 1,oL 10 9,oN 11 10,oR 12 .lss 8 11]
 (Ce 12 0))
 (.seq (.blk 1 (Rg [oM 15 3,oF 16 0 1,oL 17 16,oM 18 4,oI 19 1 17 18,oL 20 19,oC 21 272 [15,20],oR 22 .lss 21 (k 0),oM 23 22,gF 24 23 (.fad 0 1),gF 25 23 (.load false 1 24),gF 26 23 (.mv 4),gF 27 23 (.slcR 1 25 none (some 26)),gF 28 23 (.fad 0 1),gF 29 23 (.load false 1 28),gF 30 23 (.mv 4),gF 31 23 (.iad 1 29 30),gF 32 23 (.load false 1 31),gF 33 23 (.call 272 [27,32]),gF 34 23 (.bin .geq 33 (k 0)),oP 35 23 (kb true) 34]
 (.cond 35 (Rg [oB 2 false]
 (Fr 2))
 .skip)))
 (.reg [oM 13 4,oR 14 .add 13 (k 1),oM 4 14])))
def YeI(lo:Lo):Zt3×Int×Zt3×Zt0->Option ((Zt3×Int×Zt3×Zt0)⊕ (Bool⊕Unit)):=fun x=>match x with
  | (l3,i4,q1_0,q1_1)=>bif(decide (i4< (q1_0.length:Int)))then(chk (0<=i4/\i4< (q1_0.length:Int)) (YG1 (q104 lo l3 (q1_0.getD i4.toNat (YHk #[]))) fun y458=>bif(decide (y458<0))then(some (.inr (.inl false)))else(chk (0<=(0:Int)/\0<=i4/\i4<=(q1_0.length:Int)) (chk (0<=i4/\i4< (q1_0.length:Int)) (YG1 (q104 lo ((q1_0.take i4.toNat).drop 0) (q1_0.getD i4.toNat (YHk #[]))) fun y459=>bif(decide (0<=y459))then(some (.inr (.inl false)))else(some (.inl (l3,(YHl .i64 (i4+1)),q1_0,q1_1))))))))else(some (.inr (.inr ())))
def Yhb(lo:Lo):Zt3×Int×Zt3×Zt0->Option (Bool⊕Unit):=lo.run (YeI lo)
def Yzu(lo:Lo):LpE:=⟨3,[],(Zsg [1,3,4] [.ptr 0 0 0,.l (cs [.s]),.j] [.st [.l (cs [.s]),.l Zc5]]),[⟨.ret,(Zsg [2] [.b] [])⟩,⟨.exit 0,(Zsg [] [] [])⟩],Yhb lo⟩
def Yzv(lo:Lo):LL:=(Yzu lo,.loop q114_L3_b.er)::[]
theorem Yzw(lo:Lo):Lk lo pf (YEa lo) 0 (Yzv lo):=.l .n (YeI lo)
def q114(lo:Lo)(q0_0:List ByteArray)(q0_1:List (ByteArray×Zt7)):Option Bool:=
  YG1 (q113 lo q0_1) fun y457=>YG1 (Yhb lo (y457,(0:Int),q0_0,q0_1)) fun y460=>alt2 y460 (fun y461=>some y461) (fun y462=>some true)
def Yzx:VFn:=⟨true,36,[.t 2],
 (Rg [oG 1 0,oB 2 false]
 (Rg [oF 5 1 1,oL 6 5,oC 7 511 [6],oM 3 7]
 (.seq (Rg [oK 4 0]
 (.blk 0 (.loop 3 q114_L3_b)))
 (Rg [oB 2 true]
 (Fr 2)))))⟩
def YnO(lo:Lo):FnE:=Zfe 509 true (Zsg [0] [.ag [.l (cs [.s]),.l Zc5]] []) .b [] (fun x=>q114 lo x.1 x.2:Zt3×Zt0->Option Bool)
noncomputable def YE5(lo:Lo):List FnE:=YnO lo::YEa lo
theorem Yzy(h:GZ P fm YEa lo)(t:Ti P fm 509 Yzx):GZ P fm YE5 lo:=
  h.p (YnO lo) (Yzw lo) t
noncomputable def YFv(lo:Lo):List FnE:=YE5 lo
noncomputable def YE6(lo:Lo):List FnE:=YFv lo
def q117(lo:Lo)(code0:Int):Option (Int×Int×ByteArray):=
  chk ((12:Int)≠0) (bif(decide ((code0.tmod (12:Int))=(0:Int)))then(some ((1:Int),(0:Int),(YHk #[])))else(bif(decide ((code0.tmod (12:Int))=(1:Int)))then(some ((1:Int),(1:Int),(YHk #[])))else(bif(decide ((code0.tmod (12:Int))=(2:Int)))then(some ((1:Int),(2:Int),(YHk #[])))else(bif(decide ((code0.tmod (12:Int))=(3:Int)))then(some Zd1)else(bif(decide ((code0.tmod (12:Int))=(4:Int)))then(some ((2:Int),(0:Int),(YHk #[97])))else(bif(decide ((code0.tmod (12:Int))=(5:Int)))then(some ((2:Int),(0:Int),(YHk #[98])))else(bif(decide ((code0.tmod (12:Int))=(6:Int)))then(some ((2:Int),(0:Int),(YHk #[])))else(bif(decide ((code0.tmod (12:Int))=(7:Int)))then(some ((3:Int),(1:Int),(YHk #[])))else(bif(decide ((code0.tmod (12:Int))=(8:Int)))then(some ((1:Int),(-1:Int),(YHk #[])))else(bif(decide ((code0.tmod (12:Int))=(9:Int)))then(some ((2:Int),(0:Int),(YHk #[97,98])))else(bif(decide ((code0.tmod (12:Int))=(10:Int)))then(some ((3:Int),(2:Int),(YHk #[])))else(some ((1:Int),(7:Int),(YHk #[]))))))))))))))
def Yzz:VFn:=⟨true,39,[.c 2 true 3],
 (Rg [o 2 (.alloc [.i .i64 0,.i .i64 0,.s (⟨#[]⟩)])]
 (.seq (Rg [oM 3 0,oR 4 .rem 3 (ki .u8 12)]
 (.blk 0 (Rg [oR 6 .eql 4 (ki .u8 0),oM 5 6]
 (.cond 5 (Rg [o 7 (.build [.i .i64 0,.i .i64 0,.s (⟨#[]⟩)] [(0,1,(k 1))]),oS 3 2 7]
 (Fr 2))
 (Rg [oR 9 .eql 4 (ki .u8 1),oM 8 9]
 (.cond 8 (Rg [o 10 (.build [.i .i64 0,.i .i64 0,.s (⟨#[]⟩)] [(0,1,(k 1)),(1,1,(k 1))]),oS 3 2 10]
 (Fr 2))
 (Rg [oR 12 .eql 4 (ki .u8 2),oM 11 12]
 (.cond 11 (Rg [o 13 (.build [.i .i64 0,.i .i64 0,.s (⟨#[]⟩)] [(0,1,(k 1)),(1,1,(k 2))]),oS 3 2 13]
 (Fr 2))
 (Rg [oR 15 .eql 4 (ki .u8 3),oM 14 15]
 (.cond 14 (Rg [o 16 (.build [.i .i64 0,.i .i64 0,.s (⟨#[]⟩)] []),oS 3 2 16]
 (Fr 2))
 (Rg [oR 18 .eql 4 (ki .u8 4),oM 17 18]
 (.cond 17 (Rg [o 19 (.build [.i .i64 0,.i .i64 0,.s (⟨#[]⟩)] [(0,1,(k 2)),(2,1,(ks (⟨#[97]⟩)))]),oS 3 2 19]
 (Fr 2))
 (Rg [oR 21 .eql 4 (ki .u8 5),oM 20 21]
 (.cond 20 (Rg [o 22 (.build [.i .i64 0,.i .i64 0,.s (⟨#[]⟩)] [(0,1,(k 2)),(2,1,(ks (⟨#[98]⟩)))]),oS 3 2 22]
 (Fr 2))
 (Rg [oR 24 .eql 4 (ki .u8 6),oM 23 24]
 (.cond 23 (Rg [o 25 (.build [.i .i64 0,.i .i64 0,.s (⟨#[]⟩)] [(0,1,(k 2))]),oS 3 2 25]
 (Fr 2))
 (Rg [oR 27 .eql 4 (ki .u8 7),oM 26 27]
 (.cond 26 (Rg [o 28 (.build [.i .i64 0,.i .i64 0,.s (⟨#[]⟩)] [(0,1,(k 3)),(1,1,(k 1))]),oS 3 2 28]
 (Fr 2))
 (Rg [oR 30 .eql 4 (ki .u8 8),oM 29 30]
 (.cond 29 (Rg [o 31 (.build [.i .i64 0,.i .i64 0,.s (⟨#[]⟩)] [(0,1,(k 1)),(1,1,(k (-1)))]),oS 3 2 31]
 (Fr 2))
 (Rg [oR 33 .eql 4 (ki .u8 9),oM 32 33]
 (.cond 32 (Rg [o 34 (.build [.i .i64 0,.i .i64 0,.s (⟨#[]⟩)] [(0,1,(k 2)),(2,1,(ks (⟨#[97,98]⟩)))]),oS 3 2 34]
 (Fr 2))
 (Rg [oR 36 .eql 4 (ki .u8 10),oM 35 36]
 (.cond 35 (Rg [o 37 (.build [.i .i64 0,.i .i64 0,.s (⟨#[]⟩)] [(0,1,(k 3)),(1,1,(k 2))]),oS 3 2 37]
 (Fr 2))
 .skip))))))))))))))))))))))))
 (Rg [o 38 (.build [.i .i64 0,.i .i64 0,.s (⟨#[]⟩)] [(0,1,(k 1)),(1,1,(k 7))]),oS 3 2 38]
 (Fr 2))))⟩
def YnP(lo:Lo):FnE:=Zfe 251 true (Zsg [0] [.i .u8] []) (.ag [.j,.j,.s]) [] (fun x=>q117 lo x:Int->Option (Int×Int×ByteArray))
noncomputable def YDQ(lo:Lo):List FnE:=YnP lo::YE6 lo
theorem YzA(h:GZ P fm YE6 lo)(t:Ti P fm 251 Yzz):GZ P fm YDQ lo:=
  h.p (YnP lo) .n t
def q118_L6_b:VCode:=
 (.seq (Rg [oM 32 8,oM 33 1,oR 34 .lss 32 33]
 (Ce 34 2))
 (.seq (.blk 3 (Rg [o 9 (.mv (ki .u8 0))]
 (.seq (Rg [oM 37 8,oF 38 2 2,oL 39 38,oM 40 6,oI 41 1 39 40,oL 42 41,oN 43 42,oR 44 .lss 37 43]
 (.cond 44 (.reg [oF 45 2 2,oL 46 45,oM 47 6,oI 48 1 46 47,oL 49 48,oM 50 8,oI 51 1 49 50,oL 52 51,oM 9 52])
 .skip))
 (.reg [oF 53 1 7,oL 54 53,oM 55 9,oC 56 251 [55],o 57 (.bsl Zc10 1 [(0,56)]),o 58 (.app Zc10 0 54 57),oF 59 1 7,oS 1 59 58]))))
 (.reg [oM 35 8,oR 36 .add 35 (k 1),oM 8 36])))
def YeJ(lo:Lo):Zp34->Option (Zp34⊕ ((Int×Int×Int×Int×Zt11×ByteArray×Zt3×Zt12×ByteArray×Int×Zt3×Zt12×Zt2))):=fun x=>match x with
  | (n1,i6,k8,x2_0,x2_1,x2_2,v4_0,v4_1,v4_2,t5,r7,h4,h5,h6)=>bif(decide (k8<n1))then(chk (0<=i6/\i6< (x2_2.length:Int)) (bif(decide (k8< ((x2_2.getD i6.toNat []).length:Int)))then(chk (0<=i6/\i6< (x2_2.length:Int)) (chk (0<=k8/\k8< ((x2_2.getD i6.toNat []).length:Int)) (YG1 (q117 lo ((x2_2.getD i6.toNat []).getD k8.toNat (0:Int))) fun y468=>chk (h6.length+[y468].length<=maxEl) (some (.inl (n1,i6,(YHl .i64 (k8+1)),x2_0,x2_1,x2_2,v4_0,v4_1,v4_2,t5,r7,h4,h5,(h6++[y468])))))))else(YG1 (q117 lo (0:Int)) fun y469=>chk (h6.length+[y469].length<=maxEl) (some (.inl (n1,i6,(YHl .i64 (k8+1)),x2_0,x2_1,x2_2,v4_0,v4_1,v4_2,t5,r7,h4,h5,(h6++[y469])))))))else(some (.inr (n1,i6,x2_0,x2_1,x2_2,v4_0,v4_1,v4_2,t5,r7,h4,h5,h6)))
def Yhc(lo:Lo):Zp34->Option ((Int×Int×Int×Int×Zt11×ByteArray×Zt3×Zt12×ByteArray×Int×Zt3×Zt12×Zt2)):=lo.run (YeJ lo)
def YzB(lo:Lo):LpE:=⟨6,[(5,some 2,false),(7,some 1,false)],(Zsg [1,2,4,5,6,7,8] [.j,.ptr 0 0 0,.ptr 1 0 0,.ptr 2 0 0,.j,.ptr 3 0 0,.j] [.st [.i .u8,.i .u8,.l (cs [.l Zc20])],.st [.s,.l (cs [.s]),.l Zc15],.st [.s,.ref 4,.ref 5],.st [.j,.ref 6],.sq (cs [.s]),.sq Zc15,.sq Zc10]),[⟨.exit 2,(Zsg [1,2,4,5,6,7] [.j,.ptr 0 0 0,.ptr 1 0 0,.ptr 2 0 0,.j,.ptr 3 0 0] [.st [.i .u8,.i .u8,.l (cs [.l Zc20])],.st [.s,.l (cs [.s]),.l Zc15],.st [.s,.ref 4,.ref 5],.st [.j,.ref 6],.sq (cs [.s]),.sq Zc15,.sq Zc10])⟩],Yhc lo⟩
def YnQ(lo:Lo):LL:=(YzB lo,.loop q118_L6_b.er)::[]
theorem YzC(lo:Lo):Lk lo pf (YDQ lo) 0 (YnQ lo):=.l .n (YeJ lo)
def q118_L3_b:VCode:=
 (.seq (Rg [oM 16 6,oF 17 2 2,oL 18 17,oN 19 18,oR 20 .lss 16 19]
 (Ce 20 0))
 (.seq (.blk 1 (Rg [oM 23 6,oF 24 1 2,oL 25 24,oR 26 .rem 25 (ki .u8 3),o 27 (.conv .i64 26),oR 28 .add (k 1) 27,oR 29 .mul 23 28,oR 30 .add (k 1) 29,o 31 (.build [.i .i64 0,.e Zc10] [(0,1,30)]),o 7 (.alloc [.i .i64 0,.e Zc10]),oS 2 7 31]
 (.seq (Rg [oK 8 0]
 (.blk 2 (.loop 6 q118_L6_b)))
 (.fz [7] (.reg [oF 60 2 5,oL 61 60,oT 62 2 7,o 63 (.bsl Zc15 1 [(0,62)]),o 64 (.app Zc15 0 61 63),oF 65 2 5,oS 1 65 64])))))
 (.reg [oM 21 6,oR 22 .add 21 (k 1),oM 6 22])))
def YeK(lo:Lo):Zp39->Option (Zp39⊕ ((ByteArray×Zt3×Zt12×ByteArray×Zt3×Zt12))):=fun x=>match x with
  | (n1,i6,x2_0,x2_1,x2_2,v4_0,v4_1,v4_2,t5,h3,h4)=>bif(decide (i6< (x2_2.length:Int)))then(chk ((3:Int)≠0) (YG1 (Yhc lo (n1,i6,(0:Int),x2_0,x2_1,x2_2,v4_0,v4_1,v4_2,t5,(YHl .i64 ((1:Int)+(YHl .i64 (i6*(YHl .i64 ((1:Int)+(YHl .i64 (x2_1.tmod (3:Int))))))))),h3,h4,[])) fun y470=>chk (y470.2.2.2.2.2.2.2.2.2.2.2.1.length+([(y470.2.2.2.2.2.2.2.2.2.1,y470.2.2.2.2.2.2.2.2.2.2.2.2)]).length<=maxEl) (some (.inl (y470.1,(YHl .i64 (y470.2.1+(1:Int))),y470.2.2.1,y470.2.2.2.1,y470.2.2.2.2.1,y470.2.2.2.2.2.1,y470.2.2.2.2.2.2.1,y470.2.2.2.2.2.2.2.1,y470.2.2.2.2.2.2.2.2.1,y470.2.2.2.2.2.2.2.2.2.2.1,(y470.2.2.2.2.2.2.2.2.2.2.2.1++([(y470.2.2.2.2.2.2.2.2.2.1,y470.2.2.2.2.2.2.2.2.2.2.2.2)])))))))else(some (.inr (v4_0,v4_1,v4_2,t5,h3,h4)))
def Yhd(lo:Lo):Zp39->Option ((ByteArray×Zt3×Zt12×ByteArray×Zt3×Zt12)):=lo.run (YeK lo)
def YzD(lo:Lo):LpE:=⟨3,[(5,some 2,false)],(Zsg [1,2,4,5,6] [.j,.ptr 0 0 0,.ptr 1 0 0,.ptr 2 0 0,.j] [.st [.i .u8,.i .u8,.l (cs [.l Zc20])],.st [.s,.l (cs [.s]),.l Zc15],.st [.s,.ref 3,.ref 4],.sq (cs [.s]),.sq Zc15]),[⟨.exit 0,(Zsg [4,5] [.ptr 0 0 0,.ptr 1 0 0] [.st [.s,.l (cs [.s]),.l Zc15],.st [.s,.ref 2,.ref 3],.sq (cs [.s]),.sq Zc15])⟩],Yhd lo⟩
def YzE(lo:Lo):LL:=(YzD lo,.loop q118_L3_b.er)::YnQ lo
theorem YzF(lo:Lo):Lk lo pf (YDQ lo) 0 (YzE lo):=.l (YzC lo) (YeK lo)
def q118(lo:Lo)(x0_0:Int)(x0_1:Int)(x0_2:List ((List Int)))(n1:Int):Option (ByteArray×Zt3×Zt12):=
  chk (0<=(0:Int)/\0<=n1/\n1<=(([(YHk #[97]),(YHk #[98]),(YHk #[99]),(YHk #[100]),(YHk #[101]),(YHk #[102]),(YHk #[103]),(YHk #[104])]).length:Int)) (chk (((([(YHk #[97]),(YHk #[98]),(YHk #[99]),(YHk #[100]),(YHk #[101]),(YHk #[102]),(YHk #[103]),(YHk #[104])]).take n1.toNat).drop 0).length<=maxEl) (YG1 (Yhd lo (n1,(0:Int),x0_0,x0_1,x0_2,(YHk #[]),([]:List ByteArray),([]:List (Int×Zt2)),(YHk #[114]),((([(YHk #[97]),(YHk #[98]),(YHk #[99]),(YHk #[100]),(YHk #[101]),(YHk #[102]),(YHk #[103]),(YHk #[104])]).take n1.toNat).drop 0),[])) fun y471=>some (y471.2.2.2.1,y471.2.2.2.2.1,y471.2.2.2.2.2)))
def YzG:VFn:=⟨true,67,[.c 4 true 3],
 (Rg [oG 2 0,o 4 (.alloc [.s (⟨#[]⟩),.e (cs [.s]),.e Zc15])]
 (Rg [o 10 (.bsl (cs [.s]) 0 []),o 11 (.bsl (cs [.s]) 8 [(0,(ks (⟨#[97]⟩))),(1,(ks (⟨#[98]⟩))),(2,(ks (⟨#[99]⟩))),(3,(ks (⟨#[100]⟩))),(4,(ks (⟨#[101]⟩))),(5,(ks (⟨#[102]⟩))),(6,(ks (⟨#[103]⟩))),(7,(ks (⟨#[104]⟩)))]),oM 12 1,o 13 (.slcR 1 11 none (some 12)),o 14 (.app (cs [.s]) 0 10 13),o 15 (.build [.s (⟨#[]⟩),.e (cs [.s]),.e Zc15] [(0,1,(ks (⟨#[114]⟩))),(1,1,14)]),o 5 (.alloc [.s (⟨#[]⟩),.e (cs [.s]),.e Zc15]),oS 3 5 15]
 (.seq (Rg [oK 6 0]
 (.blk 0 (.loop 3 q118_L3_b)))
 (Rg [oT 66 3 5,oS 3 4 66]
 (Fr 4)))))⟩
def YnR(lo:Lo):FnE:=Zfe 275 true (Zsg [0,1] [.ag [.i .u8,.i .u8,.l (cs [.l Zc20])],.j] []) (.ag [.s,.l (cs [.s]),.l Zc15]) [] (fun x=>q118 lo x.1 x.2.1 x.2.2.1 x.2.2.2:Int×Int×Zt11×Int->Option (ByteArray×Zt3×Zt12))
noncomputable def YEs(lo:Lo):List FnE:=YnR lo::YDQ lo
theorem YzH(h:GZ P fm YDQ lo)(t:Ti P fm 275 YzG):GZ P fm YEs lo:=
  h.p (YnR lo) (YzF lo) t
def q119(lo:Lo)(x0_0:Int)(x0_1:Int)(x0_2:List ((List Int)))(most1:Int):Option (ByteArray×Zt3×Zt12×Bool):=
  bif(decide (most1< (x0_2.length:Int)))then(some ((YHk #[]),([]:List ByteArray),([]:List (Int×Zt2)),false))else(chk ((6:Int)≠0) (YG1 (q118 lo x0_0 x0_1 x0_2 (YHl .i64 (x0_0.tmod (6:Int)))) fun y472=>some (y472.1,y472.2.1,y472.2.2,true)))
def YzI:VFn:=⟨true,18,[.c 4 true 3,.t 5],
 (Rg [oG 2 0,o 4 (.alloc [.s (⟨#[]⟩),.e (cs [.s]),.e Zc15]),oB 5 false]
 (.seq (Rg [oF 6 2 2,oL 7 6,oN 8 7,oM 9 1,oR 10 .gtr 8 9]
 (.cond 10 (Rg [o 11 (.build [.s (⟨#[]⟩),.e (cs [.s]),.e Zc15] []),oS 3 4 11,oB 5 false]
 (.fz [4,5] .ret))
 .skip))
 (Rg [oT 12 3 2,oF 13 0 2,oL 14 13,oR 15 .rem 14 (ki .u8 6),o 16 (.conv .i64 15),oC 17 275 [12,16],oS 3 4 17,oB 5 true]
 (.fz [4,5] .ret))))⟩
def YnS(lo:Lo):FnE:=Zfe 239 true (Zsg [0,1] [.ag [.i .u8,.i .u8,.l (cs [.l Zc20])],.j] []) (.tp [.ag [.s,.l (cs [.s]),.l Zc15],.b]) [] (fun x=>q119 lo x.1 x.2.1 x.2.2.1 x.2.2.2:Int×Int×Zt11×Int->Option (ByteArray×Zt3×Zt12×Bool))
noncomputable def YEb(lo:Lo):List FnE:=YnS lo::YEs lo
theorem YzJ(h:GZ P fm YEs lo)(t:Ti P fm 239 YzI):GZ P fm YEb lo:=
  h.p (YnS lo) .n t
def q120_L3_b:VCode:=
 (.seq (Rg [oM 8 5,oM 9 0,oN 10 9,oR 11 .lss 8 10,oM 12 11,gT 13 12 (.mv 5),gT 14 12 (.bin .lss 13 (k 3)),oP 15 12 14 (kb false)]
 (Ce 15 0))
 (.seq (.blk 1 (Rg [oM 19 0,oM 20 5,⟨some 21,.iad 3 19 20,none,true,false⟩,oF 22 0 21,⟨some 23,.load false 1 22,none,true,false⟩,oR 24 .rem 23 (ki .u8 4),oM 25 0,oM 26 5,⟨some 27,.iad 3 25 26,none,true,false⟩,oF 28 1 27,⟨some 29,.load false 1 28,none,true,false⟩,oM 30 0,oM 31 5,⟨some 32,.iad 3 30 31,none,true,false⟩,oF 33 2 32,⟨some 34,.load false 1 33,none,true,false⟩,o 35 (.build [.i .u8 0,.i .u8 0,.e (cs [.l Zc20])] [(0,1,24),(1,1,29),(2,1,34)]),⟨some 36,.call 239 [35,(k 6)],none,true,false⟩,oM 18 36,oE 37 18 0,oE 38 18 1,o 6 (.alloc [.s (⟨#[]⟩),.e (cs [.s]),.e Zc15]),oS 3 6 37,oM 7 38]
 (.seq (Rg [oM 39 7,oX 40 39]
 (.cond 40 (Rg [o 41 (.build [.e Zc6] []),oS 1 2 41,oB 3 false]
 (.fz [2,3] .ret))
 .skip))
 (Rg [o 42 (.bsl (cs [.s]) 3 [(0,(ks (⟨#[114]⟩))),(1,(ks (⟨#[115]⟩))),(2,(ks (⟨#[116]⟩)))]),oM 43 5,oI 44 1 42 43,oL 45 44,oF 46 0 6,oS 1 46 45]
 (.reg [oF 47 0 4,oL 48 47,oT 49 3 6,o 50 (.bsl Zc6 1 [(0,49)]),o 51 (.app Zc6 0 48 50),oF 52 0 4,oS 1 52 51])))))
 (.reg [oM 16 5,oR 17 .add 16 (k 1),oM 5 17])))
def YcZ(lo:Lo):Zt24×Int×Zt1×Zt1->Option ((Zt24×Int×Zt1×Zt1)⊕ ((Bool×Zt1)⊕ (Zt24×Zt1×Zt1))):=fun x=>match x with
  | (d0,i5,v2,h2)=>bif(decide (i5< (d0.length:Int)))then(bif(decide (i5<3))then(chk (0<=i5/\i5< (d0.length:Int)) (chk ((4:Int)≠0) (chk (0<=i5/\i5< (d0.length:Int)) (chk (0<=i5/\i5< (d0.length:Int)) (YG1 (q119 lo (((d0.getD i5.toNat ((0:Int),(0:Int),[])).1).tmod (4:Int)) ((d0.getD i5.toNat ((0:Int),(0:Int),[])).2.1) ((d0.getD i5.toNat ((0:Int),(0:Int),[])).2.2) (6:Int)) fun y473=>bif(!y473.2.2.2)then(some (.inr (.inl (false,([]:List (ByteArray×Zt3×Zt12))))))else(chk (0<=i5/\i5< (([(YHk #[114]),(YHk #[115]),(YHk #[116])]).length:Int)) (chk (h2.length+([((([(YHk #[114]),(YHk #[115]),(YHk #[116])]).getD i5.toNat (YHk #[])),y473.2.1,y473.2.2.1)]).length<=maxEl) (some (.inl (d0,(YHl .i64 (i5+1)),v2,(h2++([((([(YHk #[114]),(YHk #[115]),(YHk #[116])]).getD i5.toNat (YHk #[])),y473.2.1,y473.2.2.1)]))))))))))))else(some (.inr (.inr (d0,v2,h2)))))else(some (.inr (.inr (d0,v2,h2))))
def Yhe(lo:Lo):Zt24×Int×Zt1×Zt1->Option ((Bool×Zt1)⊕ (Zt24×Zt1×Zt1)):=lo.run (YcZ lo)
def YzK(lo:Lo):LpE:=⟨3,[(4,some 0,false)],(Zsg [0,2,4,5] [.l Zc25,.ptr 0 0 0,.ptr 1 0 0,.j] [.st [.l Zc6],.st [.ref 2],.sq Zc6]),[⟨.ret,(Zsg [2,3] [.ptr 0 0 0,.b] [.st [.l Zc6]])⟩,⟨.exit 0,(Zsg [0,2,4] [.l Zc25,.ptr 0 0 0,.ptr 1 0 0] [.st [.l Zc6],.st [.ref 2],.sq Zc6])⟩],Yhe lo⟩
def YzL(lo:Lo):LL:=(YzK lo,.loop q120_L3_b.er)::[]
theorem YzM(lo:Lo):Lk lo pf (YEb lo) 0 (YzL lo):=.l .n (YcZ lo)
def q120(lo:Lo)(d0:List (Int×Int×Zt11)):Option (Zt1×Bool):=
  YG1 (Yhe lo (d0,(0:Int),([]:List (ByteArray×Zt3×Zt12)),[])) fun y474=>alt2 y474 (fun y475=>some (y475.2,y475.1)) (fun y476=>some (y476.2.2,(decide ((y476.1.length:Int)<=3))))
def YzN:VFn:=⟨true,57,[.c 2 true 1,.t 3],
 (Rg [o 2 (.alloc [.e Zc6]),oB 3 false]
 (Rg [o 4 (.alloc [.e Zc6])]
 (.seq (Rg [oK 5 0]
 (.blk 0 (.loop 3 q120_L3_b)))
 (Rg [oT 53 1 4,oM 54 0,oN 55 54,oR 56 .leq 55 (k 3),oS 1 2 53,oM 3 56]
 (.fz [2,3] .ret)))))⟩
def YnT(lo:Lo):FnE:=Zfe 474 true (Zsg [0] [.l Zc25] []) (.tp [.ag [.l Zc6],.b]) [] (fun x=>q120 lo x:Zt24->Option (Zt1×Bool))
noncomputable def YEt(lo:Lo):List FnE:=YnT lo::YEb lo
theorem YzO(h:GZ P fm YEb lo)(t:Ti P fm 474 YzN):GZ P fm YEt lo:=
  h.p (YnT lo) (YzM lo) t
def q121(lo:Lo)(n0:Int):Option ByteArray:=
  chk ((4:Int)≠0) (chk (0<=(n0.tmod (4:Int))/\ (n0.tmod (4:Int))< (([(YHk #[120]),(YHk #[121]),(YHk #[122]),(YHk #[119])]).length:Int)) (some (([(YHk #[120]),(YHk #[121]),(YHk #[122]),(YHk #[119])]).getD ((n0.tmod (4:Int)).toNat) (YHk #[]))))
def YzP:VFn:=⟨true,8,[.t 2],
 (Rg [o 2 (.mv (ks (⟨#[]⟩)))]
 (Rg [o 3 (.bsl (cs [.s]) 4 [(0,(ks (⟨#[120]⟩))),(1,(ks (⟨#[121]⟩))),(2,(ks (⟨#[122]⟩))),(3,(ks (⟨#[119]⟩)))]),oM 4 0,oR 5 .rem 4 (ki .u8 4),oI 6 1 3 5,oL 7 6,oM 2 7]
 (Fr 2)))⟩
def YnU(lo:Lo):FnE:=Zfe 510 true (Zsg [0] [.i .u8] []) .s [] (fun x=>q121 lo x:Int->Option ByteArray)
noncomputable def YDs(lo:Lo):List FnE:=YnU lo::YEt lo
theorem YzQ(h:GZ P fm YEt lo)(t:Ti P fm 510 YzP):GZ P fm YDs lo:=
  h.p (YnU lo) .n t
end Go.Abs.G47
namespace Go.Abs.G47
open Go Go.Abs
set_option maxRecDepth 100000
set_option maxHeartbeats 1000000
variable{P:Program}{fm:FM}{lo:Lo}
def q122_J23_b:VCode:=
 (Rg [oM 83 11,oC 84 510 [83],o 85 (.build [.s (⟨#[]⟩),.i .i64 0,.i .i64 0,.s (⟨#[]⟩)] [(0,1,84)]),o 12 (.alloc [.s (⟨#[]⟩),.i .i64 0,.i .i64 0,.s (⟨#[]⟩)]),oS 4 12 85]
 (.seq (Rg [oM 86 11,oR 87 .geq 86 (ki .u8 4)]
 (.cond 87 (.reg [oM 88 11,oR 89 .sub 88 (ki .u8 4),oC 90 251 [89],o 91 (.build [.s (⟨#[]⟩),.i .i64 0,.i .i64 0,.s (⟨#[]⟩)] [(1,3,90)]),oS 4 12 91])
 .skip))
 (.reg [oF 92 1 9,oL 93 92,oT 94 4 12,o 95 (.bsl Zc13 1 [(0,94)]),o 96 (.app Zc13 0 93 95),oF 97 1 9,oS 1 97 96])))
def Yc0(lo:Lo):Int×Int×Int×Zt1× (List Int)×Zt19×Zt3×Zt0×ByteArray×Zt3×Zt12×ByteArray×Zt3×Zt0×Zt7->Option (Zp30):=fun x=>match x with
  | (i7,k10,code11,db2,d3_0,d3_1,v4_0,v4_1,t8_0,t8_1,t8_2,a9,h6,h7,h8)=>YG1 (q121 lo code11) fun y489=>bif(decide (4<=code11))then(YG1 (q117 lo (YHl .u8 (code11-4))) fun y490=>chk (h8.length+([((YHk #[]),y490.1,y490.2.1,y490.2.2)]).length<=maxEl) (some (i7,k10,db2,d3_0,d3_1,v4_0,v4_1,t8_0,t8_1,t8_2,a9,h6,h7,(h8++([((YHk #[]),y490.1,y490.2.1,y490.2.2)])))))else(chk (h8.length+([(y489,(0:Int),(0:Int),(YHk #[]))]).length<=maxEl) (some (i7,k10,db2,d3_0,d3_1,v4_0,v4_1,t8_0,t8_1,t8_2,a9,h6,h7,(h8++([(y489,(0:Int),(0:Int),(YHk #[]))])))))
def YzR(lo:Lo):LpE:=⟨23,[(6,some 0,false),(6,some 1,false),(9,some 1,false)],(Zsg [2,3,4,6,7,8,9,10,11] [.ptr 0 0 0,.ptr 1 0 0,.ptr 2 0 0,.ptr 3 0 0,.j,.ptr 4 0 0,.ptr 5 0 0,.j,.i .u8] [.st [.l Zc6],.st [.l Zc20,.l Zc23],.st [.l (cs [.s]),.l Zc5],.st [.ref 6,.ref 7],.st [.s,.l (cs [.s]),.l Zc15],.st [.s,.ref 8],.sq (cs [.s]),.sq Zc5,.sq Zc13]),[⟨.nor,(Zsg [2,3,4,6,7,8,9,10] [.ptr 0 0 0,.ptr 1 0 0,.ptr 2 0 0,.ptr 3 0 0,.j,.ptr 4 0 0,.ptr 5 0 0,.j] [.st [.l Zc6],.st [.l Zc20,.l Zc23],.st [.l (cs [.s]),.l Zc5],.st [.ref 6,.ref 7],.st [.s,.l (cs [.s]),.l Zc15],.st [.s,.ref 8],.sq (cs [.s]),.sq Zc5,.sq Zc13])⟩],Yc0 lo⟩
def YnV(lo:Lo):LL:=(YzR lo,q122_J23_b.er)::[]
theorem YzS(lo:Lo):Lk lo pf (YDs lo) 0 (YnV lo):=.j .n
def q122_L15_b:VCode:=
 (.seq (Rg [oM 58 10,oF 59 1 8,oL 60 59,oN 61 60,oR 62 .lss 58 61]
 (Ce 62 2))
 (.seq (.blk 3 (Rg [o 11 (.mv (ki .u8 0))]
 (.seq (Rg [oM 65 10,oF 66 1 3,oL 67 66,oM 68 7,oI 69 2 67 68,oF 70 1 69,oL 71 70,oN 72 71,oR 73 .lss 65 72]
 (.cond 73 (.reg [oF 74 1 3,oL 75 74,oM 76 7,oI 77 2 75 76,oF 78 1 77,oL 79 78,oM 80 10,oI 81 1 79 80,oL 82 81,oM 11 82])
 .skip))
 (.jn 23 q122_J23_b))))
 (.reg [oM 63 10,oR 64 .add 63 (k 1),oM 10 64])))
def YeL(lo:Lo):Zp30->Option (Zp30⊕ ((Int×Zt1× (List Int)×Zt19×Zt3×Zt0×ByteArray×Zt3×Zt0×Zt7))):=fun x=>match x with
  | (i7,k10,db2,d3_0,d3_1,v4_0,v4_1,t8_0,t8_1,t8_2,a9,h6,h7,h8)=>bif(decide (k10< (t8_1.length:Int)))then(chk (0<=i7/\i7< (d3_1.length:Int)) (bif(decide (k10< (((d3_1.getD i7.toNat ((0:Int),[])).2).length:Int)))then(chk (0<=i7/\i7< (d3_1.length:Int)) (chk (0<=k10/\k10< (((d3_1.getD i7.toNat ((0:Int),[])).2).length:Int)) (YG1 (Yc0 lo (i7,k10,(((d3_1.getD i7.toNat ((0:Int),[])).2).getD k10.toNat (0:Int)),db2,d3_0,d3_1,v4_0,v4_1,t8_0,t8_1,t8_2,a9,h6,h7,h8)) fun y491=>some (.inl (y491.1,(YHl .i64 (y491.2.1+(1:Int))),y491.2.2.1,y491.2.2.2.1,y491.2.2.2.2.1,y491.2.2.2.2.2.1,y491.2.2.2.2.2.2.1,y491.2.2.2.2.2.2.2.1,y491.2.2.2.2.2.2.2.2.1,y491.2.2.2.2.2.2.2.2.2.1,y491.2.2.2.2.2.2.2.2.2.2.1,y491.2.2.2.2.2.2.2.2.2.2.2.1,y491.2.2.2.2.2.2.2.2.2.2.2.2.1,y491.2.2.2.2.2.2.2.2.2.2.2.2.2)))))else(YG1 (Yc0 lo (i7,k10,(0:Int),db2,d3_0,d3_1,v4_0,v4_1,t8_0,t8_1,t8_2,a9,h6,h7,h8)) fun y492=>some (.inl (y492.1,(YHl .i64 (y492.2.1+(1:Int))),y492.2.2.1,y492.2.2.2.1,y492.2.2.2.2.1,y492.2.2.2.2.2.1,y492.2.2.2.2.2.2.1,y492.2.2.2.2.2.2.2.1,y492.2.2.2.2.2.2.2.2.1,y492.2.2.2.2.2.2.2.2.2.1,y492.2.2.2.2.2.2.2.2.2.2.1,y492.2.2.2.2.2.2.2.2.2.2.2.1,y492.2.2.2.2.2.2.2.2.2.2.2.2.1,y492.2.2.2.2.2.2.2.2.2.2.2.2.2)))))else(some (.inr (i7,db2,d3_0,d3_1,v4_0,v4_1,a9,h6,h7,h8)))
def Yhf(lo:Lo):Zp30->Option ((Int×Zt1× (List Int)×Zt19×Zt3×Zt0×ByteArray×Zt3×Zt0×Zt7)):=lo.run (YeL lo)
def YzT(lo:Lo):LpE:=⟨15,[(6,some 0,false),(6,some 1,false),(9,some 1,false)],(Zsg [2,3,4,6,7,8,9,10] [.ptr 0 0 0,.ptr 1 0 0,.ptr 2 0 0,.ptr 3 0 0,.j,.ptr 4 0 0,.ptr 5 0 0,.j] [.st [.l Zc6],.st [.l Zc20,.l Zc23],.st [.l (cs [.s]),.l Zc5],.st [.ref 6,.ref 7],.st [.s,.l (cs [.s]),.l Zc15],.st [.s,.ref 8],.sq (cs [.s]),.sq Zc5,.sq Zc13]),[⟨.exit 2,(Zsg [2,3,4,6,7,9] [.ptr 0 0 0,.ptr 1 0 0,.ptr 2 0 0,.ptr 3 0 0,.j,.ptr 4 0 0] [.st [.l Zc6],.st [.l Zc20,.l Zc23],.st [.l (cs [.s]),.l Zc5],.st [.ref 5,.ref 6],.st [.s,.ref 7],.sq (cs [.s]),.sq Zc5,.sq Zc13])⟩],Yhf lo⟩
def YnW(lo:Lo):LL:=(YzT lo,.loop q122_L15_b.er)::YnV lo
theorem YzU(lo:Lo):Lk lo pf (YDs lo) 0 (YnW lo):=.l (YzS lo) (YeL lo)
def q122_L12_b:VCode:=
 (.seq (Rg [oM 33 7,oF 34 1 3,oL 35 34,oN 36 35,oR 37 .lss 33 36]
 (Ce 37 0))
 (.seq (.blk 1 (Rg [oF 40 0 2,⟨some 41,.load false 1 40,none,true,false⟩,oF 42 1 3,⟨some 43,.load false 1 42,none,true,false⟩,oM 44 7,⟨some 45,.iad 2 43 44,none,true,false⟩,oF 46 0 45,⟨some 47,.load false 1 46,none,true,false⟩,o 48 (.conv .i64 47),oF 49 0 2,⟨some 50,.load false 1 49,none,true,false⟩,oN 51 50,oR 52 .rem 48 51,⟨some 53,.iad 3 41 52,none,true,false⟩,⟨some 54,.load true 3 53,none,true,false⟩,o 8 (.alloc [.s (⟨#[]⟩),.e (cs [.s]),.e Zc15]),oS 3 8 54]
 (Rg [oF 55 0 8,oL 56 55,o 57 (.build [.s (⟨#[]⟩),.e Zc13] [(0,1,56)]),o 9 (.alloc [.s (⟨#[]⟩),.e Zc13]),oS 2 9 57]
 (.seq (Rg [oK 10 0]
 (.blk 2 (.loop 15 q122_L15_b)))
 (.fz [9] (.reg [oF 98 1 6,oL 99 98,oT 100 2 9,o 101 (.bsl Zc5 1 [(0,100)]),o 102 (.app Zc5 0 99 101),oF 103 1 6,oS 1 103 102]))))))
 (.reg [oM 38 7,oR 39 .add 38 (k 1),oM 7 39])))
def YeM(lo:Lo):Zp47->Option (Zp47⊕ (((List Int)×Zt19×Zt3×Zt0×Zt3×Zt0))):=fun x=>match x with
  | (i7,db2,d3_0,d3_1,v4_0,v4_1,h4,h5)=>bif(decide (i7< (d3_1.length:Int)))then(chk (0<=i7/\i7< (d3_1.length:Int)) (chk ((db2.length:Int)≠0) (chk (0<=((YHl .i64 ((d3_1.getD i7.toNat ((0:Int),[])).1)).tmod (db2.length:Int))/\ ((YHl .i64 ((d3_1.getD i7.toNat ((0:Int),[])).1)).tmod (db2.length:Int))< (db2.length:Int)) (YG1 (Yhf lo (i7,(0:Int),db2,d3_0,d3_1,v4_0,v4_1,(db2.getD (((YHl .i64 ((d3_1.getD i7.toNat ((0:Int),[])).1)).tmod (db2.length:Int)).toNat) ((YHk #[]),[],[])).1,(db2.getD (((YHl .i64 ((d3_1.getD i7.toNat ((0:Int),[])).1)).tmod (db2.length:Int)).toNat) ((YHk #[]),[],[])).2.1,(db2.getD (((YHl .i64 ((d3_1.getD i7.toNat ((0:Int),[])).1)).tmod (db2.length:Int)).toNat) ((YHk #[]),[],[])).2.2,(db2.getD (((YHl .i64 ((d3_1.getD i7.toNat ((0:Int),[])).1)).tmod (db2.length:Int)).toNat) ((YHk #[]),[],[])).1,h4,h5,[])) fun y493=>chk (y493.2.2.2.2.2.2.2.2.1.length+([(y493.2.2.2.2.2.2.1,y493.2.2.2.2.2.2.2.2.2)]).length<=maxEl) (some (.inl ((YHl .i64 (y493.1+(1:Int))),y493.2.1,y493.2.2.1,y493.2.2.2.1,y493.2.2.2.2.1,y493.2.2.2.2.2.1,y493.2.2.2.2.2.2.2.1,(y493.2.2.2.2.2.2.2.2.1++([(y493.2.2.2.2.2.2.1,y493.2.2.2.2.2.2.2.2.2)])))))))))else(some (.inr (d3_0,d3_1,v4_0,v4_1,h4,h5)))
def Yhg(lo:Lo):Zp47->Option (((List Int)×Zt19×Zt3×Zt0×Zt3×Zt0)):=lo.run (YeM lo)
def YzV(lo:Lo):LpE:=⟨12,[(6,some 0,false),(6,some 1,false)],(Zsg [2,3,4,6,7] [.ptr 0 0 0,.ptr 1 0 0,.ptr 2 0 0,.ptr 3 0 0,.j] [.st [.l Zc6],.st [.l Zc20,.l Zc23],.st [.l (cs [.s]),.l Zc5],.st [.ref 4,.ref 5],.sq (cs [.s]),.sq Zc5]),[⟨.exit 0,(Zsg [3,4,6] [.ptr 0 0 0,.ptr 1 0 0,.ptr 2 0 0] [.st [.l Zc20,.l Zc23],.st [.l (cs [.s]),.l Zc5],.st [.ref 3,.ref 4],.sq (cs [.s]),.sq Zc5])⟩],Yhg lo⟩
def YnX(lo:Lo):LL:=(YzV lo,.loop q122_L12_b.er)::YnW lo
theorem YzW(lo:Lo):Lk lo pf (YDs lo) 0 (YnX lo):=.l (YzU lo) (YeM lo)
def q122_L3_b:VCode:=
 (.seq (Rg [oM 107 14,oF 108 0 3,oL 109 108,oN 110 109,oR 111 .lss 107 110,oM 112 111,gT 113 112 (.mv 14),gT 114 112 (.bin .lss 113 (k 4)),oP 115 112 114 (kb false)]
 (Ce 115 4))
 (.seq (.blk 5 (Rg [oF 118 0 3,oL 119 118,oM 120 14,oI 121 1 119 120,oL 122 121,oC 123 510 [122],oM 15 123]
 (Rg [oM 124 13,oM 125 15,oC 126 272 [124,125],oR 127 .geq 126 (k 0),oM 128 127,gT 129 128 (.fad 0 6),gT 130 128 (.load false 1 129),gT 131 128 (.mv 15),gT 132 128 (.call 272 [130,131]),gT 133 128 (.bin .lss 132 (k 0)),oP 134 128 133 (kb false)]
 (.cond 134 (.reg [oF 135 0 6,oL 136 135,oM 137 15,o 138 (.bsl (cs [.s]) 1 [(0,137)]),o 139 (.app (cs [.s]) 0 136 138),oF 140 0 6,oS 1 140 139])
 .skip))))
 (.reg [oM 116 14,oR 117 .add 116 (k 1),oM 14 117])))
def Yc1(lo:Lo):Zp48->Option (Zp48⊕ ((Zt3×Zt0×Zt0×Zt3))):=fun x=>match x with
  | (l13,i14,d3_0,d3_1,v4_0,v4_1,q6,h3)=>bif(decide (i14< (d3_0.length:Int)))then(bif(decide (i14<4))then(chk (0<=i14/\i14< (d3_0.length:Int)) (YG1 (q121 lo (d3_0.getD i14.toNat (0:Int))) fun y496=>YG1 (q104 lo l13 y496) fun y497=>bif(decide (0<=y497))then(YG1 (q104 lo h3 y496) fun y498=>bif(decide (y498<0))then(chk (h3.length+[y496].length<=maxEl) (some (.inl (l13,(YHl .i64 (i14+1)),d3_0,d3_1,v4_0,v4_1,q6,(h3++[y496])))))else(some (.inl (l13,(YHl .i64 (i14+1)),d3_0,d3_1,v4_0,v4_1,q6,h3))))else(some (.inl (l13,(YHl .i64 (i14+1)),d3_0,d3_1,v4_0,v4_1,q6,h3)))))else(some (.inr (v4_0,v4_1,q6,h3))))else(some (.inr (v4_0,v4_1,q6,h3)))
def Yhh(lo:Lo):Zp48->Option ((Zt3×Zt0×Zt0×Zt3)):=lo.run (Yc1 lo)
def YzX(lo:Lo):LpE:=⟨3,[(6,some 0,false)],(Zsg [3,4,6,13,14] [.ptr 0 0 0,.ptr 1 0 0,.ptr 2 0 0,.l (cs [.s]),.j] [.st [.l Zc20,.l Zc23],.st [.l (cs [.s]),.l Zc5],.st [.ref 3,.l Zc5],.sq (cs [.s])]),[⟨.exit 4,(Zsg [4,6] [.ptr 0 0 0,.ptr 1 0 0] [.st [.l (cs [.s]),.l Zc5],.st [.ref 2,.l Zc5],.sq (cs [.s])])⟩],Yhh lo⟩
def YzY(lo:Lo):LL:=(YzX lo,.loop q122_L3_b.er)::YnX lo
theorem YzZ(lo:Lo):Lk lo pf (YDs lo) 0 (YzY lo):=.l (YzW lo) (Yc1 lo)
def q122(lo:Lo)(db0:List (ByteArray×Zt3×Zt12))(d1_0:List Int)(d1_1:List (Int× (List Int))):Option (Zt3×Zt0×Bool):=
  bif(decide ((db0.length:Int)=0))then(some (([]:List ByteArray),([]:List (ByteArray×Zt7)),false))else(bif(decide ((d1_1.length:Int)<1))then(some (([]:List ByteArray),([]:List (ByteArray×Zt7)),false))else(bif(decide ((3:Int)< (d1_1.length:Int)))then(some (([]:List ByteArray),([]:List (ByteArray×Zt7)),false))else(YG1 (Yhg lo ((0:Int),db0,d1_0,d1_1,([]:List ByteArray),([]:List (ByteArray×Zt7)),[],[])) fun y494=>YG1 (q113 lo y494.2.2.2.2.2) fun y495=>YG1 (Yhh lo (y495,(0:Int),y494.1,y494.2.1,y494.2.2.1,y494.2.2.2.1,y494.2.2.2.2.2,y494.2.2.2.2.1)) fun y499=>some (y499.2.2.2,y499.2.2.1,true))))
def Yz0:VFn:=⟨true,142,[.c 4 true 2,.t 5],
 (Rg [oG 2 0,oG 3 1,o 4 (.alloc [.e (cs [.s]),.e Zc5]),oB 5 false]
 (.seq (Rg [oF 16 0 2,oL 17 16,oN 18 17,oR 19 .eql 18 (k 0),oM 20 19,gF 21 20 (.fad 1 3),gF 22 20 (.load false 1 21),gF 23 20 (.len 22),gF 24 20 (.bin .lss 23 (k 1)),oP 25 20 (kb true) 24,oM 26 25,gF 27 26 (.fad 1 3),gF 28 26 (.load false 1 27),gF 29 26 (.len 28),gF 30 26 (.bin .gtr 29 (k 3)),oP 31 26 (kb true) 30]
 (.cond 31 (Rg [o 32 (.build [.e (cs [.s]),.e Zc5] []),oS 2 4 32,oB 5 false]
 (.fz [4,5] .ret))
 .skip))
 (Rg [o 6 (.alloc [.e (cs [.s]),.e Zc5])]
 (.seq (Rg [oK 7 0]
 (.blk 0 (.loop 12 q122_L12_b)))
 (.seq (.fz [2000006] (.reg [oF 104 1 6,oL 105 104,oC 106 511 [105],oM 13 106]))
 (.seq (Rg [oK 14 0]
 (.blk 4 (.loop 3 q122_L3_b)))
 (Rg [oT 141 2 6,oS 2 4 141,oB 5 true]
 (.fz [4,5] .ret))))))))⟩
def YnY(lo:Lo):FnE:=Zfe 475 true (Zsg [0,1] [.ag [.l Zc6],.ag [.l Zc20,.l Zc23]] []) (.tp [.ag [.l (cs [.s]),.l Zc5],.b]) [] (fun x=>q122 lo x.1 x.2.1 x.2.2:Zt1× (List Int)×Zt19->Option (Zt3×Zt0×Bool))
noncomputable def YE7(lo:Lo):List FnE:=YnY lo::YDs lo
theorem Yz1(h:GZ P fm YDs lo)(t:Ti P fm 475 Yz0):GZ P fm YE7 lo:=
  h.p (YnY lo) (YzZ lo) t
noncomputable def YE8(lo:Lo):List FnE:=YE7 lo
def q124(lo:Lo)(a0:Int)(b1:Int):Option Int:=
  bif(decide (a0<b1))then(some (-1:Int))else(bif(decide (b1<a0))then(some (1:Int))else(some (0:Int)))
def Yz2:VFn:=⟨true,11,[.t 4],
 (Rg [oK 4 0]
 (.seq (Rg [oM 5 0,oM 6 1,oR 7 .lss 5 6]
 (.cond 7 (Rg [oK 4 (-1)]
 (Fr 4))
 .skip))
 (.seq (Rg [oM 8 0,oM 9 1,oR 10 .gtr 8 9]
 (.cond 10 (Rg [oK 4 1]
 (Fr 4))
 .skip))
 (Rg [oK 4 0]
 (Fr 4)))))⟩
def YnZ(lo:Lo):FnE:=Zfe 303 true (Zsg [0,1] [.j,.j] []) (.i .i64) [] (fun x=>q124 lo x.1 x.2:Int×Int->Option Int)
noncomputable def YEc(lo:Lo):List FnE:=YnZ lo::YE8 lo
theorem Yz3(h:GZ P fm YE8 lo)(t:Ti P fm 303 Yz2):GZ P fm YEc lo:=
  h.p (YnZ lo) .n t
def q125_L3_b:VCode:=
 (.seq (Rg [oM 6 5,oM 7 0,o 8 (.lenS 7),oR 9 .lss 6 8,oM 10 9,gT 11 10 (.mv 5),gT 12 10 (.mv 1),gT 13 10 (.lenS 12),gT 14 10 (.bin .lss 11 13),oP 15 10 14 (kb false)]
 (Ce 15 0))
 (.seq (.blk 1 (Rg [oM 18 0,oM 19 5,o 20 (.idx 18 19),oM 21 1,oM 22 5,o 23 (.idx 21 22),oR 24 .neq 20 23]
 (.cond 24 (Rg [oM 25 0,oM 26 5,o 27 (.idx 25 26),o 28 (.conv .i64 27),oM 29 1,oM 30 5,o 31 (.idx 29 30),o 32 (.conv .i64 31),oC 33 303 [28,32],oM 4 33]
 (Fr 4))
 .skip)))
 (.reg [oM 16 5,oR 17 .add 16 (k 1),oM 5 17])))
def Yc2(lo:Lo):ByteArray×ByteArray×Int->Option ((ByteArray×ByteArray×Int)⊕ (Int⊕ (ByteArray×ByteArray))):=fun x=>match x with
  | (a0,b1,i5)=>bif(decide (i5< (a0.size:Int)))then(bif(decide (i5< (b1.size:Int)))then(chk (0<=i5/\i5< (a0.size:Int)) (chk (0<=i5/\i5< (b1.size:Int)) (bif(!decide ((YBQ a0 i5)=(YBQ b1 i5)))then(chk (0<=i5/\i5< (a0.size:Int)) (chk (0<=i5/\i5< (b1.size:Int)) (YG1 (q124 lo (YHl .i64 (YBQ a0 i5)) (YHl .i64 (YBQ b1 i5))) fun y512=>some (.inr (.inl y512)))))else(some (.inl (a0,b1,(YHl .i64 (i5+1))))))))else(some (.inr (.inr (a0,b1)))))else(some (.inr (.inr (a0,b1))))
def Yhi(lo:Lo):ByteArray×ByteArray×Int->Option (Int⊕ (ByteArray×ByteArray)):=lo.run (Yc2 lo)
def Yz4(lo:Lo):LpE:=⟨3,[],(Zsg [0,1,5] [.s,.s,.j] []),[⟨.ret,(Zsg [4] [.j] [])⟩,⟨.exit 0,(Zsg [0,1] [.s,.s] [])⟩],Yhi lo⟩
def Yz5(lo:Lo):LL:=(Yz4 lo,.loop q125_L3_b.er)::[]
theorem Yz6(lo:Lo):Lk lo pf (YEc lo) 0 (Yz5 lo):=.l .n (Yc2 lo)
def q125(lo:Lo)(a0:ByteArray)(b1:ByteArray):Option Int:=
  YG1 (Yhi lo (a0,b1,(0:Int))) fun y513=>alt2 y513 (fun y514=>some y514) (fun y515=>YG1 (q124 lo (y515.1.size:Int) (y515.2.size:Int)) fun y516=>some y516)
def Yz7:VFn:=⟨true,39,[.t 4],
 (Rg [oK 4 0]
 (.seq (Rg [oK 5 0]
 (.blk 0 (.loop 3 q125_L3_b)))
 (Rg [oM 34 0,o 35 (.lenS 34),oM 36 1,o 37 (.lenS 36),oC 38 303 [35,37],oM 4 38]
 (Fr 4))))⟩
def Yn0(lo:Lo):FnE:=Zfe 320 true (Zsg [0,1] [.s,.s] []) (.i .i64) [] (fun x=>q125 lo x.1 x.2:ByteArray×ByteArray->Option Int)
noncomputable def YEu(lo:Lo):List FnE:=Yn0 lo::YEc lo
theorem Yz8(h:GZ P fm YEc lo)(t:Ti P fm 320 Yz7):GZ P fm YEu lo:=
  h.p (Yn0 lo) (Yz6 lo) t
def q126(lo:Lo)(a0_0:Int)(a0_1:Int)(a0_2:ByteArray)(b1_0:Int)(b1_1:Int)(b1_2:ByteArray):Option Int:=
  YG1 (q124 lo a0_0 b1_0) fun y510=>bif(!decide (y510=0))then(some y510)else(YG1 (q124 lo a0_1 b1_1) fun y511=>bif(!decide (y511=0))then(some y511)else(YG1 (q125 lo a0_2 b1_2) fun y517=>some y517))
def Yz9:VFn:=⟨true,28,[.t 4],
 (Rg [oG 2 0,oG 3 1,oK 4 0]
 (.seq (Rg [oF 7 0 2,oL 8 7,oF 9 0 3,oL 10 9,oC 11 303 [8,10],oM 5 11]
 (Rg [oM 12 5,oR 13 .neq 12 (k 0)]
 (.cond 13 (Rg [oM 14 5,oM 4 14]
 (Fr 4))
 .skip)))
 (.seq (Rg [oF 15 1 2,oL 16 15,oF 17 1 3,oL 18 17,oC 19 303 [16,18],oM 6 19]
 (Rg [oM 20 6,oR 21 .neq 20 (k 0)]
 (.cond 21 (Rg [oM 22 6,oM 4 22]
 (Fr 4))
 .skip)))
 (Rg [oF 23 2 2,oL 24 23,oF 25 2 3,oL 26 25,oC 27 320 [24,26],oM 4 27]
 (Fr 4)))))⟩
def Yn1(lo:Lo):FnE:=Zfe 302 true (Zsg [0,1] [.ag [.j,.j,.s],.ag [.j,.j,.s]] []) (.i .i64) [] (fun x=>q126 lo x.1 x.2.1 x.2.2.1 x.2.2.2.1 x.2.2.2.2.1 x.2.2.2.2.2:Int×Int×ByteArray×Int×Int×ByteArray->Option Int)
noncomputable def YE9(lo:Lo):List FnE:=Yn1 lo::YEu lo
theorem YAa(h:GZ P fm YEu lo)(t:Ti P fm 302 Yz9):GZ P fm YE9 lo:=
  h.p (Yn1 lo) .n t
noncomputable def YFw(lo:Lo):List FnE:=YE9 lo
noncomputable def YFx(lo:Lo):List FnE:=YFw lo
noncomputable def YFy(lo:Lo):List FnE:=YFx lo
end Go.Abs.G47
namespace Go.Abs.G47
open Go Go.Abs
set_option maxRecDepth 100000
set_option maxHeartbeats 1000000
variable{P:Program}{fm:FM}{lo:Lo}
noncomputable def YFz(lo:Lo):List FnE:=YFy lo
noncomputable def YFA(lo:Lo):List FnE:=YFz lo
noncomputable def YEv(lo:Lo):List FnE:=YFA lo
def q133_L3_b:VCode:=
 (.seq (Rg [oM 7 5,oM 8 0,oN 9 8,oR 10 .lss 7 9,oM 11 10,gT 12 11 (.mv 5),gT 13 11 (.mv 1),gT 14 11 (.len 13),gT 15 11 (.bin .lss 12 14),oP 16 11 15 (kb false)]
 (Ce 16 0))
 (.seq (.blk 1 (Rg [oM 19 0,oM 20 5,oI 21 3 19 20,oT 22 3 21,oM 23 1,oM 24 5,oI 25 3 23 24,oT 26 3 25,oC 27 302 [22,26],oM 6 27]
 (Rg [oM 28 6,oR 29 .neq 28 (k 0)]
 (.cond 29 (Rg [oM 30 6,oM 4 30]
 (Fr 4))
 .skip))))
 (.reg [oM 17 5,oR 18 .add 17 (k 1),oM 5 18])))
def Yc3(lo:Lo):Zt2×Zt2×Int->Option ((Zt2×Zt2×Int)⊕ (Int⊕ (Zt2×Zt2))):=fun x=>match x with
  | (a0,b1,i5)=>bif(decide (i5< (a0.length:Int)))then(bif(decide (i5< (b1.length:Int)))then(chk (0<=i5/\i5< (a0.length:Int)) (chk (0<=i5/\i5< (b1.length:Int)) (YG1 (q126 lo ((a0.getD i5.toNat Zd1).1) ((a0.getD i5.toNat Zd1).2.1) ((a0.getD i5.toNat Zd1).2.2) ((b1.getD i5.toNat Zd1).1) ((b1.getD i5.toNat Zd1).2.1) ((b1.getD i5.toNat Zd1).2.2)) fun y532=>bif(!decide (y532=0))then(some (.inr (.inl y532)))else(some (.inl (a0,b1,(YHl .i64 (i5+1))))))))else(some (.inr (.inr (a0,b1)))))else(some (.inr (.inr (a0,b1))))
def Yhj(lo:Lo):Zt2×Zt2×Int->Option (Int⊕ (Zt2×Zt2)):=lo.run (Yc3 lo)
def YAb(lo:Lo):LpE:=⟨3,[],(Zsg [0,1,5] [.l Zc10,.l Zc10,.j] []),[⟨.ret,(Zsg [4] [.j] [])⟩,⟨.exit 0,(Zsg [0,1] [.l Zc10,.l Zc10] [])⟩],Yhj lo⟩
def YAc(lo:Lo):LL:=(YAb lo,.loop q133_L3_b.er)::[]
theorem YAd(lo:Lo):Lk lo pf (YEv lo) 0 (YAc lo):=.l .n (Yc3 lo)
def q133(lo:Lo)(a0:List (Int×Int×ByteArray))(b1:List (Int×Int×ByteArray)):Option Int:=
  YG1 (Yhj lo (a0,b1,(0:Int))) fun y533=>alt2 y533 (fun y534=>some y534) (fun y535=>YG1 (q124 lo (y535.1.length:Int) (y535.2.length:Int)) fun y536=>some y536)
def YAe:VFn:=⟨true,36,[.t 4],
 (Rg [oK 4 0]
 (.seq (Rg [oK 5 0]
 (.blk 0 (.loop 3 q133_L3_b)))
 (Rg [oM 31 0,oN 32 31,oM 33 1,oN 34 33,oC 35 303 [32,34],oM 4 35]
 (Fr 4))))⟩
def Yn2(lo:Lo):FnE:=Zfe 274 true (Zsg [0,1] [.l Zc10,.l Zc10] []) (.i .i64) [] (fun x=>q133 lo x.1 x.2:Zt2×Zt2->Option Int)
noncomputable def YEw(lo:Lo):List FnE:=Yn2 lo::YEv lo
theorem YAf(h:GZ P fm YEv lo)(t:Ti P fm 274 YAe):GZ P fm YEw lo:=
  h.p (Yn2 lo) (YAd lo) t
def q134(lo:Lo)(a0:List (Int×Int×ByteArray))(b1:List (Int×Int×ByteArray)):Option Bool:=
  YG1 (q133 lo a0 b1) fun y537=>some (decide (y537=0))
def YAg:VFn:=⟨true,9,[.t 4],
 (Rg [oB 4 false]
 (Rg [oM 5 0,oM 6 1,oC 7 274 [5,6],oR 8 .eql 7 (k 0),oM 4 8]
 (Fr 4)))⟩
def Yn3(lo:Lo):FnE:=Zfe 297 true (Zsg [0,1] [.l Zc10,.l Zc10] []) .b [] (fun x=>q134 lo x.1 x.2:Zt2×Zt2->Option Bool)
noncomputable def YFa(lo:Lo):List FnE:=Yn3 lo::YEw lo
theorem YAh(h:GZ P fm YEw lo)(t:Ti P fm 297 YAg):GZ P fm YFa lo:=
  h.p (Yn3 lo) .n t
noncomputable def YFB(lo:Lo):List FnE:=YFa lo
noncomputable def YEx(lo:Lo):List FnE:=YFB lo
def q137_L3_b:VCode:=
 (.seq (Rg [oM 11 5,oM 12 0,oN 13 12,oR 14 .lss 11 13]
 (Ce 14 0))
 (.seq (.blk 1 (Rg [oM 17 0,oM 18 5,oI 19 1 17 18,oL 20 19,oM 21 1,oM 22 5,oI 23 1 21 22,oL 24 23,oC 25 297 [20,24],oX 26 25]
 (.cond 26 (Rg [oB 4 false]
 (Fr 4))
 .skip)))
 (.reg [oM 15 5,oR 16 .add 15 (k 1),oM 5 16])))
def YeN(lo:Lo):Zt21×Zt21×Int->Option ((Zt21×Zt21×Int)⊕ (Bool⊕Unit)):=fun x=>match x with
  | (a0,b1,i5)=>bif(decide (i5< (a0.length:Int)))then(chk (0<=i5/\i5< (a0.length:Int)) (chk (0<=i5/\i5< (b1.length:Int)) (YG1 (q134 lo (a0.getD i5.toNat []) (b1.getD i5.toNat [])) fun y547=>bif(!y547)then(some (.inr (.inl false)))else(some (.inl (a0,b1,(YHl .i64 (i5+1))))))))else(some (.inr (.inr ())))
def Yhk(lo:Lo):Zt21×Zt21×Int->Option (Bool⊕Unit):=lo.run (YeN lo)
def YAi(lo:Lo):LpE:=⟨3,[],(Zsg [0,1,5] [.l Zc22,.l Zc22,.j] []),[⟨.ret,(Zsg [4] [.b] [])⟩,⟨.exit 0,(Zsg [] [] [])⟩],Yhk lo⟩
def YAj(lo:Lo):LL:=(YAi lo,.loop q137_L3_b.er)::[]
theorem YAk(lo:Lo):Lk lo pf (YEx lo) 0 (YAj lo):=.l .n (YeN lo)
def q137(lo:Lo)(a0:List (Zt2))(b1:List (Zt2)):Option Bool:=
  bif(!decide ((a0.length:Int)=(b1.length:Int)))then(some false)else(YG1 (Yhk lo (a0,b1,(0:Int))) fun y548=>alt2 y548 (fun y549=>some y549) (fun y550=>some true))
def YAl:VFn:=⟨true,27,[.t 4],
 (Rg [oB 4 false]
 (.seq (Rg [oM 6 0,oN 7 6,oM 8 1,oN 9 8,oR 10 .neq 7 9]
 (.cond 10 (Rg [oB 4 false]
 (Fr 4))
 .skip))
 (.seq (Rg [oK 5 0]
 (.blk 0 (.loop 3 q137_L3_b)))
 (Rg [oB 4 true]
 (Fr 4)))))⟩
def Yn4(lo:Lo):FnE:=Zfe 478 true (Zsg [0,1] [.l Zc22,.l Zc22] []) .b [] (fun x=>q137 lo x.1 x.2:Zt21×Zt21->Option Bool)
noncomputable def YFb(lo:Lo):List FnE:=Yn4 lo::YEx lo
theorem YAm(h:GZ P fm YEx lo)(t:Ti P fm 478 YAl):GZ P fm YFb lo:=
  h.p (Yn4 lo) (YAk lo) t
noncomputable def YEy(lo:Lo):List FnE:=YFb lo
def q139_L3_b:VCode:=
 (.seq (Rg [oM 14 3,oF 15 1 1,oL 16 15,oN 17 16,oR 18 .lss 14 17]
 (Ce 18 0))
 (.seq (.blk 1 (Rg [oF 21 1 1,oL 22 21,oM 23 3,oI 24 2 22 23,oF 25 0 24,oL 26 25,oC 27 258 [26],oX 28 27,oM 29 28,gF 30 29 (.fad 1 1),gF 31 29 (.load false 1 30),gF 32 29 (.mv 3),gF 33 29 (.iad 2 31 32),gF 34 29 (.load true 2 33),gF 35 29 (.call 508 [34]),gF 36 29 (.not 35),oP 37 29 (kb true) 36]
 (.cond 37 (Rg [oB 2 false]
 (Fr 2))
 .skip)))
 (.reg [oM 19 3,oR 20 .add 19 (k 1),oM 3 20])))
def YeO(lo:Lo):Int×Zt3×Zt0->Option ((Int×Zt3×Zt0)⊕ (Bool⊕ (Zt3×Zt0))):=fun x=>match x with
  | (i3,q1_0,q1_1)=>bif(decide (i3< (q1_1.length:Int)))then(chk (0<=i3/\i3< (q1_1.length:Int)) (YG1 (q103 lo ((q1_1.getD i3.toNat ((YHk #[]),[])).1)) fun y559=>bif(!y559)then(some (.inr (.inl false)))else(chk (0<=i3/\i3< (q1_1.length:Int)) (YG1 (q112 lo ((q1_1.getD i3.toNat ((YHk #[]),[])).1) ((q1_1.getD i3.toNat ((YHk #[]),[])).2)) fun y560=>bif(!y560)then(some (.inr (.inl false)))else(some (.inl ((YHl .i64 (i3+1)),q1_0,q1_1)))))))else(some (.inr (.inr (q1_0,q1_1))))
def Yhl(lo:Lo):Int×Zt3×Zt0->Option (Bool⊕ (Zt3×Zt0)):=lo.run (YeO lo)
def YAn(lo:Lo):LpE:=⟨3,[],(Zsg [1,3] [.ptr 0 0 0,.j] [.st [.l (cs [.s]),.l Zc5]]),[⟨.ret,(Zsg [2] [.b] [])⟩,⟨.exit 0,(Zsg [1] [.ptr 0 0 0] [.st [.l (cs [.s]),.l Zc5]])⟩],Yhl lo⟩
def YAo(lo:Lo):LL:=(YAn lo,.loop q139_L3_b.er)::[]
theorem YAp(lo:Lo):Lk lo pf (YEy lo) 0 (YAo lo):=.l .n (YeO lo)
def q139(lo:Lo)(q0_0:List ByteArray)(q0_1:List (ByteArray×Zt7)):Option Bool:=
  bif(decide ((q0_1.length:Int)<1))then(some false)else(bif(decide ((6:Int)< (q0_1.length:Int)))then(some false)else(YG1 (Yhl lo ((0:Int),q0_0,q0_1)) fun y561=>alt2 y561 (fun y562=>some y562) (fun y563=>YG1 (q114 lo y563.1 y563.2) fun y564=>some y564)))
def YAq:VFn:=⟨true,40,[.t 2],
 (Rg [oG 1 0,oB 2 false]
 (.seq (Rg [oF 4 1 1,oL 5 4,oN 6 5,oR 7 .lss 6 (k 1),oM 8 7,gF 9 8 (.fad 1 1),gF 10 8 (.load false 1 9),gF 11 8 (.len 10),gF 12 8 (.bin .gtr 11 (k 6)),oP 13 8 (kb true) 12]
 (.cond 13 (Rg [oB 2 false]
 (Fr 2))
 .skip))
 (.seq (Rg [oK 3 0]
 (.blk 0 (.loop 3 q139_L3_b)))
 (Rg [oT 38 2 1,oC 39 509 [38],oM 2 39]
 (Fr 2)))))⟩
def Yn5(lo:Lo):FnE:=Zfe 488 true (Zsg [0] [.ag [.l (cs [.s]),.l Zc5]] []) .b [] (fun x=>q139 lo x.1 x.2:Zt3×Zt0->Option Bool)
noncomputable def YFc(lo:Lo):List FnE:=Yn5 lo::YEy lo
theorem YAr(h:GZ P fm YEy lo)(t:Ti P fm 488 YAq):GZ P fm YFc lo:=
  h.p (Yn5 lo) (YAp lo) t
noncomputable def YFC(lo:Lo):List FnE:=YFc lo
end Go.Abs.G47
namespace Go.Abs.G47
open Go Go.Abs
set_option maxRecDepth 100000
set_option maxHeartbeats 1000000
variable{P:Program}{fm:FM}{lo:Lo}
noncomputable def YFD(lo:Lo):List FnE:=YFC lo
noncomputable def YFE(lo:Lo):List FnE:=YFD lo
noncomputable def YFF(lo:Lo):List FnE:=YFE lo
noncomputable def YFG(lo:Lo):List FnE:=YFF lo
noncomputable def YFH(lo:Lo):List FnE:=YFG lo
noncomputable def YFI(lo:Lo):List FnE:=YFH lo
noncomputable def YFJ(lo:Lo):List FnE:=YFI lo
noncomputable def YFK(lo:Lo):List FnE:=YFJ lo
noncomputable def YFL(lo:Lo):List FnE:=YFK lo
end Go.Abs.G47
