/- Functions of the program as functions of data (written by program). No condition. -/
import Derived.Test.YtkgoecnchnbbfaaB
set_option linter.unusedVariables false
set_option linter.unusedSimpArgs false
set_option linter.unusedSectionVars false
open List renaming mem_cons_self → Yz1
open Nat renaming beq → YAe, ble → YAi
open Option renaming bind → YAr
open ByteArray renaming mk → YAL
open Go.IntKind renaming wrap → YAM
namespace Go.Abs.G3c
open Go Go.Abs
abbrev Zd1:Int×Int×ByteArray:=((0:Int),(0:Int),(YAL #[]))
abbrev _root_.Go.Abs.SV.j:SV:=.i .i64
mutual
def ZtS:SV->List Ty
 | .i k=>[.i k]
 | .b=>[.b]
 | .s=>[.s]
 | .l c=>[.l c]
 | .pre _=>[I]
 | .ag l=>ZtL l
 | .tp l=>ZtL l
 | .clo _ l=>ZtL l
 |_=>[]
def ZtL:List SV->List Ty
 | []=>[]
 |a::r=>ZtS a++ZtL r
end
def ZtO:List SO->List Ty
 | []=>[]
 | .sq c::r=>.l c::ZtO r
 | .fm A _ c::r=>.l (sn c A)::ZtO r
 | .fp o c::r=>I:: .l (mapC o (.l c) .nil)::ZtO r
 | .st l::r=>ZtL l++ZtO r
 | .sb::r=>.s::ZtO r
 | .dd::r=>ZtO r
abbrev Zsg(t:List Nat)(v:List SV)(o:List SO):Sg:=⟨t,v,o,cs (ZtL v++ZtO o)⟩
abbrev Zfe(g:Nat)(p:Bool)(a:Sg)(r:SV)(o:List SO)(F:a.c.den->Option (cs (ZtS r++ZtO o)).den):FnE:=⟨g,p,a,r,o,_,F⟩
abbrev Zt0:Type:=List (Int×Int×ByteArray)
abbrev Zt1:Type:=List ByteArray
abbrev Zc4:Cs:=cs [I,I,.s]
abbrev Zc2:Cs:=cs [I,.l Zc4]
abbrev Zt3:Type:=List (Int×Zt0)
abbrev Zt5:Type:=List (Int×ByteArray×Zt0)
abbrev Zt6:Type:=List (Int×ByteArray×Bool)
abbrev Zp7:Type:=(List Int)×Zt3×Int×Int×Zt3×Int×Int×ByteArray×Zt1×Zt3×ByteArray×Zt1×Zt3×ByteArray×Int×Zt5×Bool×Int×Zt0×Zt1×Zt3
abbrev Zp8:Type:=Zt1×Int×Int×ByteArray×Zt1×Zt3×ByteArray×Zt1×Zt3×ByteArray×Zt1×Zt3×ByteArray× (List Int)×Zt1×Zt3
abbrev Zp9:Type:=(List Int)×Zt3×Int×Int×ByteArray×Zt1×Zt3×ByteArray×Zt1×Zt3×ByteArray×Int×Zt5×Bool×Zt1×Zt3
abbrev Zp10:Type:=Int×Zt3×Int×Int×Zt0×Int×Int×ByteArray×Zt1×Zt3×ByteArray×Int×Zt6×Bool×Int×Zt1×Zt3×Zt0
abbrev Zp11:Type:=(ByteArray×Zt1×Zt3×ByteArray×Int×Zt5×Bool×Zt1×Int×Int× (List Int)×Bool×Zt1×Zt3)
abbrev Zp12:Type:=Int×Zt1×Int×Int×ByteArray×Zt1×Zt3×ByteArray×Zt1×Zt3×ByteArray×Zt1×Zt3
abbrev Zp13:Type:=Int×Zt3×Int×Int×ByteArray×Zt1×Zt3×ByteArray×Int×Zt6×Bool×Zt1×Zt3
abbrev Zp14:Type:=Int×Int×ByteArray×Zt1×Zt3×ByteArray×Int×Zt5×Bool×Zt1×Zt1×Zt3
abbrev Zp15:Type:=(ByteArray×Zt1×Zt3×ByteArray×Int×Zt5×Bool×Zt1×Zt1×Zt3)
abbrev Zp16:Type:=Zt3×Int×Int×ByteArray×Zt1×Zt3×ByteArray×Zt1×Zt3
abbrev Zp17:Type:=ByteArray×Zt1×Zt3×Int×Int×Int×Int×ByteArray
abbrev Zp18:Type:=Zt3×Int×ByteArray×Zt1×Zt3×ByteArray×Zt1×Zt3
abbrev Zp19:Type:=Int×ByteArray×Zt1×Zt3×ByteArray×Zt1×Zt3
abbrev Zp20:Type:=Int×Zt3×Int×Int×ByteArray×Zt1×Zt3
abbrev Zp21:Type:=Int×Int×Int×Int×ByteArray×ByteArray
abbrev Zp22:Type:=ByteArray×Zt1×Zt3×ByteArray×Zt1×Zt3
abbrev Zp23:Type:=Zt0×Zt0× (List Int)×Int×Int×Zt0
abbrev Zp24:Type:=Zt1×Int×Int×ByteArray×Zt1×Zt3
abbrev Zp25:Type:=Int×Int×Int×Bool×Bool×Zt1
abbrev Zp26:Type:=Int×Int×ByteArray×Zt1×Zt3
instance{n:Nat}:OfNat VOpd n:=⟨.t n⟩
abbrev Rg(l:List VI)(b:VCode):VCode:=.seq (.reg l) b
abbrev Fr(n:Nat):VCode:=.fz [n] .ret
abbrev Ce(c e:Nat):VCode:=.cond (t c) .skip (.exit e)
abbrev oM(n a:Nat):VI:=o n (.mv (t a))
abbrev oL(n a:Nat):VI:=o n (.load false 1 (t a))
abbrev oT(n s a:Nat):VI:=o n (.load true s (t a))
abbrev oF(n i a:Nat):VI:=o n (.fad i (t a))
abbrev oE(n a i:Nat):VI:=o n (.ext (t a) i)
abbrev oN(n a:Nat):VI:=o n (.len (t a))
abbrev oI(n e a i:Nat):VI:=o n (.iad e (t a) (t i))
abbrev oS(n a b:Nat):VI:=on (.store n (t a) (t b))
abbrev oP(n c:Nat)(a b:VOpd):VI:=o n (.pick (t c) a b)
abbrev oK(n:Nat)(a:Int):VI:=o n (.mv (k a))
abbrev oB(n:Nat)(a:Bool):VI:=o n (.mv (kb a))
abbrev oC(n f:Nat)(l:List VOpd):VI:=o n (.call f l)
abbrev oX(n a:Nat):VI:=o n (.not (t a))
abbrev oG(n a:Nat):VI:=o n (.box (t a))
abbrev oR(n:Nat)(p:BinOp)(a b:VOpd):VI:=o n (.bin p a b)
abbrev gT(n g:Nat)(p:VOp):VI:=og n g true p
abbrev gF(n g:Nat)(p:VOp):VI:=og n g false p
set_option maxRecDepth 100000
set_option maxHeartbeats 1000000
variable{P:Program}{fm:FM}{lo:Lo}
abbrev pf:Nat->Bool:=fun g=> !(List.any ([310,280,282,289,290,277,278,286,293,149,151,298,299,309,164,196,323,324,327,271,288,301,307,311,312,313,315,316,318,319,321,322,326,269,305,308]:List Nat) (YAe g))
abbrev GZ(P:Program)(fm:FM)(fs:Lo->List FnE)(lo:Lo):Prop:=GS P fm pf (fs lo) lo
abbrev Ti(P:Program)(fm:FM)(g:Nat)(F:VFn):Prop:=TieF P fm pf g F
def fs0(_:Lo):List FnE:=[]
def q0(lo:Lo)(n0:Int):Option (Int×Int×ByteArray):=
  some ((1:Int),n0,(YAL #[]))
def Yre:VFn:=⟨true,5,[.c 2 true 3],
 (Rg [o 2 (.alloc [.i .i64 0,.i .i64 0,.s (⟨#[]⟩)])]
 (Rg [oM 3 0,o 4 (.build [.i .i64 0,.i .i64 0,.s (⟨#[]⟩)] [(0,1,(k 1)),(1,1,3)]),oS 3 2 4]
 (Fr 2)))⟩
def Ykh(lo:Lo):FnE:=Zfe 291 true (Zsg [0] [.j] []) (.ag [.j,.j,.s]) [] (fun x=>q0 lo x:Int->Option (Int×Int×ByteArray))
def fs1(lo:Lo):List FnE:=Ykh lo::fs0 lo
theorem Yrf(h:GZ P fm fs0 lo)(t:Ti P fm 291 Yre):GZ P fm fs1 lo:=
  h.p (Ykh lo) .n t
def q1(lo:Lo)(s0:ByteArray):Option (Int×Int×ByteArray):=
  some ((2:Int),(0:Int),s0)
def Yrg:VFn:=⟨true,5,[.c 2 true 3],
 (Rg [o 2 (.alloc [.i .i64 0,.i .i64 0,.s (⟨#[]⟩)])]
 (Rg [oM 3 0,o 4 (.build [.i .i64 0,.i .i64 0,.s (⟨#[]⟩)] [(0,1,(k 2)),(2,1,3)]),oS 3 2 4]
 (Fr 2)))⟩
def Yki(lo:Lo):FnE:=Zfe 292 true (Zsg [0] [.s] []) (.ag [.j,.j,.s]) [] (fun x=>q1 lo x:ByteArray->Option (Int×Int×ByteArray))
def fs2(lo:Lo):List FnE:=Yki lo::fs1 lo
theorem Yrh(h:GZ P fm fs1 lo)(t:Ti P fm 292 Yrg):GZ P fm fs2 lo:=
  h.p (Yki lo) .n t
def q2(lo:Lo):Option (ByteArray×Zt1×Zt3):=
  YAr (q0 lo (5:Int)) fun y0=>YAr (q1 lo (YAL #[120])) fun y1=>YAr (q0 lo (5:Int)) fun y2=>YAr (q1 lo (YAL #[121])) fun y3=>YAr (q0 lo (7:Int)) fun y4=>YAr (q1 lo (YAL #[120])) fun y5=>some ((YAL #[114]),[(YAL #[97]),(YAL #[98])],[((1:Int),[y0,y1]),((2:Int),[y2,y3]),((4:Int),[y4,y5])])
def Yri:VFn:=⟨true,24,[.c 0 true 3],
 (Rg [o 0 (.alloc [.s (⟨#[]⟩),.e (cs [.s]),.e Zc2])]
 (Rg [o 1 (.mv (.c (.f 291)))]
 (Rg [o 2 (.mv (.c (.f 292)))]
 (Rg [o 3 (.bsl (cs [.s]) 2 [(0,(ks (⟨#[97]⟩))),(1,(ks (⟨#[98]⟩)))]),oM 4 1,o 5 (.dyn 4 [(k 5)]),oM 6 2,o 7 (.dyn 6 [(ks (⟨#[120]⟩))]),o 8 (.bsl Zc4 2 [(0,5),(1,7)]),o 9 (.build [.i .i64 0,.e Zc4] [(0,1,(k 1)),(1,1,8)]),oM 10 1,o 11 (.dyn 10 [(k 5)]),oM 12 2,o 13 (.dyn 12 [(ks (⟨#[121]⟩))]),o 14 (.bsl Zc4 2 [(0,11),(1,13)]),o 15 (.build [.i .i64 0,.e Zc4] [(0,1,(k 2)),(1,1,14)]),oM 16 1,o 17 (.dyn 16 [(k 7)]),oM 18 2,o 19 (.dyn 18 [(ks (⟨#[120]⟩))]),o 20 (.bsl Zc4 2 [(0,17),(1,19)]),o 21 (.build [.i .i64 0,.e Zc4] [(0,1,(k 4)),(1,1,20)]),o 22 (.bsl Zc2 3 [(0,9),(1,15),(2,21)]),o 23 (.build [.s (⟨#[]⟩),.e (cs [.s]),.e Zc2] [(0,1,(ks (⟨#[114]⟩))),(1,1,3),(2,1,22)]),oS 3 0 23]
 (Fr 0)))))⟩
def Ykj(lo:Lo):FnE:=Zfe 254 true (Zsg [] [] []) (.ag [.s,.l (cs [.s]),.l Zc2]) [] (fun x=>q2 lo:Unit->Option (ByteArray×Zt1×Zt3))
def fs3(lo:Lo):List FnE:=Ykj lo::fs2 lo
theorem Yrj(h:GZ P fm fs2 lo)(t:Ti P fm 254 Yri):GZ P fm fs3 lo:=
  h.p (Ykj lo) .n t
def q3_L3_b:VCode:=
 (Rg [oR 20 .lss 19 18]
 (.seq (Ce 20 0)
 (.seq (.blk 1 (Rg [oM 21 19,oM 3 21]
 (Rg [oM 22 0,oM 23 3,o 24 (.idx 22 23),oM 4 24]
 (Rg [oM 25 4,oR 26 .geq 25 (ki .u8 97),oM 27 26,gT 28 27 (.mv 4),gT 29 27 (.bin .leq 28 (ki .u8 122)),oP 30 27 29 (kb false),oM 31 30,gF 32 31 (.mv 4),gF 33 31 (.bin .geq 32 (ki .u8 65)),gF 34 31 (.mv 33),gT 35 34 (.mv 4),gT 36 34 (.bin .leq 35 (ki .u8 90)),gF 37 31 (.pick 34 36 (kb false)),oP 38 31 (kb true) 37,oM 39 38,gF 40 39 (.mv 4),gF 41 39 (.bin .eql 40 (ki .u8 95)),oP 42 39 (kb true) 41,oM 5 42]
 (Rg [oM 43 5,oX 44 43,oM 45 44,gT 46 45 (.mv 3),gT 47 45 (.bin .eql 46 (k 0)),gT 48 45 (.mv 47),gF 49 48 (.mv 4),gF 50 48 (.bin .lss 49 (ki .u8 48)),gT 51 45 (.pick 48 (kb true) 50),gT 52 45 (.mv 51),gF 53 52 (.mv 4),gF 54 52 (.bin .gtr 53 (ki .u8 57)),gT 55 45 (.pick 52 (kb true) 54),oP 56 45 55 (kb false)]
 (.cond 56 (Rg [oB 2 false]
 (Fr 2))
 .skip))))))
 (.reg [oR 57 .add 19 (k 1),oM 19 57]))))
def Yec(lo:Lo):ByteArray×Int×Int->Option ((ByteArray×Int×Int)⊕ (Bool⊕Unit)):=fun x=>match x with
  | (s0,v18,v19)=>bif(decide (v19<v18))then(chk (0<=v19/\v19< (s0.size:Int)) (bif(decide ((97:Int)<=(Ywc s0 v19)))then(bif(decide ((Ywc s0 v19)<=(122:Int)))then(bif(!true)then(bif(decide (v19=0))then(some (.inr (.inl false)))else(bif(decide ((Ywc s0 v19)< (48:Int)))then(some (.inr (.inl false)))else(bif(decide ((57:Int)< (Ywc s0 v19)))then(some (.inr (.inl false)))else(some (.inl (s0,v18,(YAM .i64 (v19+1))))))))else(some (.inl (s0,v18,(YAM .i64 (v19+1))))))else(bif(decide ((65:Int)<=(Ywc s0 v19)))then(bif(decide ((Ywc s0 v19)<=(90:Int)))then(bif(!true)then(bif(decide (v19=0))then(some (.inr (.inl false)))else(bif(decide ((Ywc s0 v19)< (48:Int)))then(some (.inr (.inl false)))else(bif(decide ((57:Int)< (Ywc s0 v19)))then(some (.inr (.inl false)))else(some (.inl (s0,v18,(YAM .i64 (v19+1))))))))else(some (.inl (s0,v18,(YAM .i64 (v19+1))))))else(bif(!(decide ((Ywc s0 v19)=(95:Int))))then(bif(decide (v19=0))then(some (.inr (.inl false)))else(bif(decide ((Ywc s0 v19)< (48:Int)))then(some (.inr (.inl false)))else(bif(decide ((57:Int)< (Ywc s0 v19)))then(some (.inr (.inl false)))else(some (.inl (s0,v18,(YAM .i64 (v19+1))))))))else(some (.inl (s0,v18,(YAM .i64 (v19+1)))))))else(bif(!(decide ((Ywc s0 v19)=(95:Int))))then(bif(decide (v19=0))then(some (.inr (.inl false)))else(bif(decide ((Ywc s0 v19)< (48:Int)))then(some (.inr (.inl false)))else(bif(decide ((57:Int)< (Ywc s0 v19)))then(some (.inr (.inl false)))else(some (.inl (s0,v18,(YAM .i64 (v19+1))))))))else(some (.inl (s0,v18,(YAM .i64 (v19+1))))))))else(bif(decide ((65:Int)<=(Ywc s0 v19)))then(bif(decide ((Ywc s0 v19)<=(90:Int)))then(bif(!true)then(bif(decide (v19=0))then(some (.inr (.inl false)))else(bif(decide ((Ywc s0 v19)< (48:Int)))then(some (.inr (.inl false)))else(bif(decide ((57:Int)< (Ywc s0 v19)))then(some (.inr (.inl false)))else(some (.inl (s0,v18,(YAM .i64 (v19+1))))))))else(some (.inl (s0,v18,(YAM .i64 (v19+1))))))else(bif(!(decide ((Ywc s0 v19)=(95:Int))))then(bif(decide (v19=0))then(some (.inr (.inl false)))else(bif(decide ((Ywc s0 v19)< (48:Int)))then(some (.inr (.inl false)))else(bif(decide ((57:Int)< (Ywc s0 v19)))then(some (.inr (.inl false)))else(some (.inl (s0,v18,(YAM .i64 (v19+1))))))))else(some (.inl (s0,v18,(YAM .i64 (v19+1)))))))else(bif(!(decide ((Ywc s0 v19)=(95:Int))))then(bif(decide (v19=0))then(some (.inr (.inl false)))else(bif(decide ((Ywc s0 v19)< (48:Int)))then(some (.inr (.inl false)))else(bif(decide ((57:Int)< (Ywc s0 v19)))then(some (.inr (.inl false)))else(some (.inl (s0,v18,(YAM .i64 (v19+1))))))))else(some (.inl (s0,v18,(YAM .i64 (v19+1)))))))))else(some (.inr (.inr ())))
def YfY(lo:Lo):ByteArray×Int×Int->Option (Bool⊕Unit):=lo.run (Yec lo)
def Yrk(lo:Lo):LpE:=⟨3,[],(Zsg [0,18,19] [.s,.j,.j] []),[⟨.ret,(Zsg [2] [.b] [])⟩,⟨.exit 0,(Zsg [] [] [])⟩],YfY lo⟩
def Yrl(lo:Lo):LL:=(Yrk lo,.loop q3_L3_b.er)::[]
theorem Yrm(lo:Lo):Lk lo pf (fs3 lo) 0 (Yrl lo):=.l .n (Yec lo)
def q3(lo:Lo)(s0:ByteArray):Option Bool:=
  bif(decide (s0=(YAL #[])))then(some false)else(bif(decide ((24:Int)< (s0.size:Int)))then(some false)else(bif(decide (s0=(YAL #[110,117,108,108])))then(some false)else(YAr (YfY lo (s0,(s0.size:Int),(0:Int))) fun y7=>alt2 y7 (fun y8=>some y8) (fun y9=>some true))))
def Yrn:VFn:=⟨true,58,[.t 2],
 (Rg [oB 2 false]
 (.seq (Rg [oM 6 0,oR 7 .eql 6 (ks (⟨#[]⟩)),oM 8 7,gF 9 8 (.mv 0),gF 10 8 (.lenS 9),gF 11 8 (.bin .gtr 10 (k 24)),oP 12 8 (kb true) 11,oM 13 12,gF 14 13 (.mv 0),gF 15 13 (.bin .eql 14 (ks (⟨#[110,117,108,108]⟩))),oP 16 13 (kb true) 15]
 (.cond 16 (Rg [oB 2 false]
 (Fr 2))
 .skip))
 (.seq (Rg [oM 17 0,o 18 (.lenS 17),oK 19 0]
 (.blk 0 (.loop 3 q3_L3_b)))
 (Rg [oB 2 true]
 (Fr 2)))))⟩
def Ykk(lo:Lo):FnE:=Zfe 255 true (Zsg [0] [.s] []) .b [] (fun x=>q3 lo x:ByteArray->Option Bool)
def fs4(lo:Lo):List FnE:=Ykk lo::fs3 lo
theorem Yro(h:GZ P fm fs3 lo)(t:Ti P fm 255 Yrn):GZ P fm fs4 lo:=
  h.p (Ykk lo) (Yrm lo) t
def q4_L3_b:VCode:=
 (Rg [oR 9 .lss 8 7]
 (.seq (Ce 9 0)
 (.seq (.blk 1 (Rg [oM 10 8,oM 5 10]
 (Rg [oM 11 1,oM 12 0,oM 13 5,oI 14 1 12 13,oL 15 14,oR 16 .eql 11 15]
 (.cond 16 (Rg [oM 17 5,oM 4 17]
 (Fr 4))
 .skip))))
 (.reg [oR 18 .add 8 (k 1),oM 8 18]))))
def Yed(lo:Lo):Zt1×ByteArray×Int×Int->Option ((Zt1×ByteArray×Int×Int)⊕ (Int⊕Unit)):=fun x=>match x with
  | (s0,v1,v7,v8)=>bif(decide (v8<v7))then(chk (0<=v8/\v8< (s0.length:Int)) (bif(decide (v1=(s0.getD v8.toNat (YAL #[]))))then(some (.inr (.inl v8)))else(some (.inl (s0,v1,v7,(YAM .i64 (v8+1)))))))else(some (.inr (.inr ())))
def YfZ(lo:Lo):Zt1×ByteArray×Int×Int->Option (Int⊕Unit):=lo.run (Yed lo)
def Yrp(lo:Lo):LpE:=⟨3,[],(Zsg [0,1,7,8] [.l (cs [.s]),.s,.j,.j] []),[⟨.ret,(Zsg [4] [.j] [])⟩,⟨.exit 0,(Zsg [] [] [])⟩],YfZ lo⟩
def Yrq(lo:Lo):LL:=(Yrp lo,.loop q4_L3_b.er)::[]
theorem Yrr(lo:Lo):Lk lo pf (fs4 lo) 0 (Yrq lo):=.l .n (Yed lo)
def q4(lo:Lo)(s0:List ByteArray)(v1:ByteArray):Option Int:=
  YAr (YfZ lo (s0,v1,(s0.length:Int),(0:Int))) fun y12=>alt2 y12 (fun y13=>some y13) (fun y14=>some (-1:Int))
def Yrs:VFn:=⟨true,19,[.t 4],
 (Rg [oK 4 0]
 (.seq (Rg [oM 6 0,oN 7 6,oK 8 0]
 (.blk 0 (.loop 3 q4_L3_b)))
 (Rg [oK 4 (-1)]
 (Fr 4))))⟩
def Ykl(lo:Lo):FnE:=Zfe 173 true (Zsg [0,1] [.l (cs [.s]),.s] []) (.i .i64) [] (fun x=>q4 lo x.1 x.2:Zt1×ByteArray->Option Int)
def fs5(lo:Lo):List FnE:=Ykl lo::fs4 lo
theorem Yrt(h:GZ P fm fs4 lo)(t:Ti P fm 173 Yrs):GZ P fm fs5 lo:=
  h.p (Ykl lo) (Yrr lo) t
def q5(lo:Lo)(s0:List ByteArray)(v1:ByteArray):Option Bool:=
  YAr (q4 lo s0 v1) fun y15=>some (decide (0<=y15))
def Yru:VFn:=⟨true,9,[.t 4],
 (Rg [oB 4 false]
 (Rg [oM 5 0,oM 6 1,oC 7 173 [5,6],oR 8 .geq 7 (k 0),oM 4 8]
 (Fr 4)))⟩
def Ykm(lo:Lo):FnE:=Zfe 256 true (Zsg [0,1] [.l (cs [.s]),.s] []) .b [] (fun x=>q5 lo x.1 x.2:Zt1×ByteArray->Option Bool)
def fs6(lo:Lo):List FnE:=Ykm lo::fs5 lo
theorem Yrv(h:GZ P fm fs5 lo)(t:Ti P fm 256 Yru):GZ P fm fs6 lo:=
  h.p (Ykm lo) .n t
def q6(lo:Lo)(v0_0:Int)(v0_1:Int)(v0_2:ByteArray):Option Bool:=
  bif(decide (v0_0=0))then(bif(decide (v0_1=0))then(some (decide (v0_2=(YAL #[]))))else(some false))else(bif(decide (v0_0=1))then(some (decide (v0_2=(YAL #[]))))else(bif(decide (v0_0=2))then(bif(decide (v0_1=0))then(some (decide ((v0_2.size:Int)<=200)))else(some false))else(bif(decide (v0_0=3))then(bif(decide (1<=v0_1))then(some (decide (v0_2=(YAL #[]))))else(some false))else(some false))))
def Yrw:VFn:=⟨true,41,[.t 2],
 (Rg [oG 1 0,oB 2 false]
 (.seq (Rg [oF 3 0 1,oL 4 3]
 (.blk 0 (Rg [oR 6 .eql 4 (k 0),oM 5 6]
 (.cond 5 (Rg [oF 7 1 1,oL 8 7,oR 9 .eql 8 (k 0),oM 10 9,gT 11 10 (.fad 2 1),gT 12 10 (.load false 1 11),gT 13 10 (.bin .eql 12 (ks (⟨#[]⟩))),oP 14 10 13 (kb false),oM 2 14]
 (Fr 2))
 (Rg [oR 16 .eql 4 (k 1),oM 15 16]
 (.cond 15 (Rg [oF 17 2 1,oL 18 17,oR 19 .eql 18 (ks (⟨#[]⟩)),oM 2 19]
 (Fr 2))
 (Rg [oR 21 .eql 4 (k 2),oM 20 21]
 (.cond 20 (Rg [oF 22 1 1,oL 23 22,oR 24 .eql 23 (k 0),oM 25 24,gT 26 25 (.fad 2 1),gT 27 25 (.load false 1 26),gT 28 25 (.lenS 27),gT 29 25 (.bin .leq 28 (k 200)),oP 30 25 29 (kb false),oM 2 30]
 (Fr 2))
 (Rg [oR 32 .eql 4 (k 3),oM 31 32]
 (.cond 31 (Rg [oF 33 1 1,oL 34 33,oR 35 .geq 34 (k 1),oM 36 35,gT 37 36 (.fad 2 1),gT 38 36 (.load false 1 37),gT 39 36 (.bin .eql 38 (ks (⟨#[]⟩))),oP 40 36 39 (kb false),oM 2 40]
 (Fr 2))
 .skip))))))))))
 (Rg [oB 2 false]
 (Fr 2))))⟩
def Ykn(lo:Lo):FnE:=Zfe 283 true (Zsg [0] [.ag [.j,.j,.s]] []) .b [] (fun x=>q6 lo x.1 x.2.1 x.2.2:Int×Int×ByteArray->Option Bool)
def fs7(lo:Lo):List FnE:=Ykn lo::fs6 lo
theorem Yrx(h:GZ P fm fs6 lo)(t:Ti P fm 283 Yrw):GZ P fm fs7 lo:=
  h.p (Ykn lo) .n t
def q7(lo:Lo)(v0_0:Int)(v0_1:Int)(v0_2:ByteArray):Option Bool:=
  YAr (q6 lo v0_0 v0_1 v0_2) fun y20=>some (!y20)
def Yry:VFn:=⟨true,6,[.t 2],
 (Rg [oG 1 0,oB 2 false]
 (Rg [oT 3 3 1,oC 4 283 [3],oX 5 4,oM 2 5]
 (Fr 2)))⟩
def Yko(lo:Lo):FnE:=Zfe 294 true (Zsg [0] [.ag [.j,.j,.s]] []) .b [] (fun x=>q7 lo x.1 x.2.1 x.2.2:Int×Int×ByteArray->Option Bool)
def fs8(lo:Lo):List FnE:=Yko lo::fs7 lo
theorem Yrz(h:GZ P fm fs7 lo)(t:Ti P fm 294 Yry):GZ P fm fs8 lo:=
  h.p (Yko lo) .n t
def q8_L3_b:VCode:=
 (Rg [oR 9 .lss 8 7]
 (.seq (Ce 9 0)
 (.seq (.blk 1 (Rg [oM 10 8,oM 5 10]
 (Rg [oM 11 1,oM 12 0,oM 13 5,oI 14 3 12 13,oT 15 3 14,o 16 (.dyn 11 [15])]
 (.cond 16 (Rg [oM 17 5,oM 4 17]
 .ret)
 .skip))))
 (.reg [oR 18 .add 8 (k 1),oM 8 18]))))
def Yee(lo:Lo):Zt0×Int×Int->Option ((Zt0×Int×Int)⊕ (Int⊕Unit)):=fun x=>match x with
  | (s0,v7,v8)=>bif(decide (v8<v7))then(chk (0<=v8/\v8< (s0.length:Int)) (YAr (q7 lo ((s0.getD v8.toNat Zd1).1) ((s0.getD v8.toNat Zd1).2.1) ((s0.getD v8.toNat Zd1).2.2)) fun y21=>bif y21 then(some (.inr (.inl v8)))else(some (.inl (s0,v7,(YAM .i64 (v8+1)))))))else(some (.inr (.inr ())))
def Yf0(lo:Lo):Zt0×Int×Int->Option (Int⊕Unit):=lo.run (Yee lo)
def YrA(lo:Lo):LpE:=⟨3,[],(Zsg [0,1,7,8] [.l Zc4,.clo 294 [],.j,.j] []),[⟨.ret,(Zsg [4] [.j] [])⟩,⟨.exit 0,(Zsg [] [] [])⟩],Yf0 lo⟩
def YrB(lo:Lo):LL:=(YrA lo,.loop q8_L3_b.er)::[]
theorem YrC(lo:Lo):Lk lo pf (fs8 lo) 0 (YrB lo):=.l .n (Yee lo)
def q8(lo:Lo)(s0:List (Int×Int×ByteArray)):Option Int:=
  YAr (Yf0 lo (s0,(s0.length:Int),(0:Int))) fun y22=>alt2 y22 (fun y23=>some y23) (fun y24=>some (-1:Int))
def YrD:VFn:=⟨true,19,[.t 4],
 (Rg [oK 4 0]
 (.seq (Rg [oM 6 0,oN 7 6,oK 8 0]
 (.blk 0 (.loop 3 q8_L3_b)))
 (Rg [oK 4 (-1)]
 .ret)))⟩
def Ykp(lo:Lo):FnE:=Zfe 309 false (Zsg [0,1] [.l Zc4,.clo 294 []] []) (.i .i64) [] (fun x=>q8 lo x:Zt0->Option Int)
def fs9(lo:Lo):List FnE:=Ykp lo::fs8 lo
theorem YrE(h:GZ P fm fs8 lo)(t:Ti P fm 309 YrD):GZ P fm fs9 lo:=
  h.i (Ykp lo) (YrC lo) t
def q9(lo:Lo)(s0:List (Int×Int×ByteArray)):Option Bool:=
  YAr (q8 lo s0) fun y25=>some (decide (0<=y25))
def YrF:VFn:=⟨true,9,[.t 4],
 (Rg [oB 4 false]
 (Rg [oM 5 0,oM 6 1,oC 7 309 [5,6],oR 8 .geq 7 (k 0),oM 4 8]
 .ret))⟩
def Ykq(lo:Lo):FnE:=Zfe 293 false (Zsg [0,1] [.l Zc4,.clo 294 []] []) .b [] (fun x=>q9 lo x:Zt0->Option Bool)
def fs10(lo:Lo):List FnE:=Ykq lo::fs9 lo
theorem YrG(h:GZ P fm fs9 lo)(t:Ti P fm 293 YrF):GZ P fm fs10 lo:=
  h.i (Ykq lo) .n t
def q10(lo:Lo)(l0:List (Int×Int×ByteArray)):Option Bool:=
  YAr (q9 lo l0) fun y26=>some (!y26)
def YrH:VFn:=⟨true,6,[.t 2],
 (Rg [oB 2 false]
 (Rg [oM 3 0,oC 4 293 [3,(.c (.f 294))],oX 5 4,oM 2 5]
 (Fr 2)))⟩
def Ykr(lo:Lo):FnE:=Zfe 257 true (Zsg [0] [.l Zc4] []) .b [] (fun x=>q10 lo x:Zt0->Option Bool)
def fs11(lo:Lo):List FnE:=Ykr lo::fs10 lo
theorem YrI(h:GZ P fm fs10 lo)(t:Ti P fm 257 YrH):GZ P fm fs11 lo:=
  h.p (Ykr lo) .n t
def q11_L20_b:VCode:=
 (Rg [oR 26 .lss 25 24]
 (.seq (Ce 26 0)
 (.seq (.blk 1 (Rg [oM 27 25,oI 28 1 23 25,oL 29 28,oM 3 27,oM 4 29]
 (Rg [oM 30 4,oC 31 255 [30],oX 32 31,oM 33 32,gF 34 33 (.fad 1 1),gF 35 33 (.load false 1 34),gF 36 33 (.mv 3),gF 37 33 (.slcR 1 35 none (some 36)),gF 38 33 (.mv 4),gF 39 33 (.call 256 [37,38]),oP 40 33 (kb true) 39]
 (.cond 40 (Rg [oK 2 1]
 (Fr 2))
 .skip))))
 (.reg [oR 41 .add 25 (k 1),oM 25 41]))))
def Yef(lo:Lo):Zp24->Option (Zp24⊕ (Int⊕ (ByteArray×Zt1×Zt3))):=fun x=>match x with
  | (v23,v24,v25,t1_0,t1_1,t1_2)=>bif(decide (v25<v24))then(chk (0<=v25/\v25< (v23.length:Int)) (YAr (q3 lo (v23.getD v25.toNat (YAL #[]))) fun y11=>bif(!y11)then(some (.inr (.inl (1:Int))))else(chk (0<=(0:Int)/\0<=v25/\v25<=(t1_1.length:Int)) (YAr (q5 lo ((t1_1.take v25.toNat).drop 0) (v23.getD v25.toNat (YAL #[]))) fun y16=>bif y16 then(some (.inr (.inl (1:Int))))else(some (.inl (v23,v24,(YAM .i64 (v25+1)),t1_0,t1_1,t1_2)))))))else(some (.inr (.inr (t1_0,t1_1,t1_2))))
def Yf1(lo:Lo):Zp24->Option (Int⊕ (ByteArray×Zt1×Zt3)):=lo.run (Yef lo)
def YrJ(lo:Lo):LpE:=⟨20,[],(Zsg [1,23,24,25] [.ptr 0 0 0,.l (cs [.s]),.j,.j] [.st [.s,.l (cs [.s]),.l Zc2]]),[⟨.ret,(Zsg [2] [.j] [])⟩,⟨.exit 0,(Zsg [1] [.ptr 0 0 0] [.st [.s,.l (cs [.s]),.l Zc2]])⟩],Yf1 lo⟩
def Yks(lo:Lo):LL:=(YrJ lo,.loop q11_L20_b.er)::[]
theorem YrK(lo:Lo):Lk lo pf (fs11 lo) 0 (Yks lo):=.l .n (Yef lo)
def q11_L3_b:VCode:=
 (Rg [oR 46 .lss 45 44]
 (.seq (Ce 46 2)
 (.seq (.blk 3 (Rg [oI 47 2 43 45,oT 48 2 47,o 7 (.alloc [.i .i64 0,.e Zc4]),oS 2 7 48]
 (.seq (.blk 4 (Rg [oF 50 0 7,oL 51 50,oM 52 5,oR 53 .leq 51 52,oM 49 53]
 (.cond 49 (Rg [oK 2 1]
 (Fr 2))
 (Rg [oF 55 1 7,oL 56 55,oN 57 56,oF 58 1 1,oL 59 58,oN 60 59,oR 61 .neq 57 60,oM 54 61]
 (.cond 54 (Rg [oK 2 6]
 (Fr 2))
 (Rg [oF 63 1 7,oL 64 63,oC 65 257 [64],oX 66 65,oM 62 66]
 (.cond 62 (Rg [oK 2 1]
 (Fr 2))
 .skip)))))))
 (.reg [oF 67 0 7,oL 68 67,oM 5 68]))))
 (.reg [oR 69 .add 45 (k 1),oM 45 69]))))
def Yeg(lo:Lo):Zp20->Option (Zp20⊕ (Int⊕Unit)):=fun x=>match x with
  | (last5,v43,v44,v45,t1_0,t1_1,t1_2)=>bif(decide (v45<v44))then(chk (0<=v45/\v45< (v43.length:Int)) (bif(decide ((v43.getD v45.toNat ((0:Int),[])).1<=last5))then(some (.inr (.inl (1:Int))))else(bif(!decide ((((v43.getD v45.toNat ((0:Int),[])).2).length:Int)=(t1_1.length:Int)))then(some (.inr (.inl (6:Int))))else(YAr (q10 lo ((v43.getD v45.toNat ((0:Int),[])).2)) fun y27=>bif(!y27)then(some (.inr (.inl (1:Int))))else(some (.inl ((v43.getD v45.toNat ((0:Int),[])).1,v43,v44,(YAM .i64 (v45+1)),t1_0,t1_1,t1_2)))))))else(some (.inr (.inr ())))
def Yf2(lo:Lo):Zp20->Option (Int⊕Unit):=lo.run (Yeg lo)
def YrL(lo:Lo):LpE:=⟨3,[],(Zsg [1,5,43,44,45] [.ptr 0 0 0,.j,.l Zc2,.j,.j] [.st [.s,.l (cs [.s]),.l Zc2]]),[⟨.ret,(Zsg [2] [.j] [])⟩,⟨.exit 2,(Zsg [] [] [])⟩],Yf2 lo⟩
def YrM(lo:Lo):LL:=(YrL lo,.loop q11_L3_b.er)::Yks lo
theorem YrN(lo:Lo):Lk lo pf (fs11 lo) 0 (YrM lo):=.l (YrK lo) (Yeg lo)
def q11(lo:Lo)(t0_0:ByteArray)(t0_1:List ByteArray)(t0_2:List (Int×Zt0)):Option Int:=
  YAr (q3 lo t0_0) fun y10=>bif(!y10)then(some (1:Int))else(bif(decide ((16:Int)< (t0_1.length:Int)))then(some (3:Int))else(bif(decide ((1000:Int)< (t0_2.length:Int)))then(some (3:Int))else(YAr (Yf1 lo (t0_1,(t0_1.length:Int),(0:Int),t0_0,t0_1,t0_2)) fun y17=>alt2 y17 (fun y18=>some y18) (fun y19=>YAr (Yf2 lo ((0:Int),y19.2.2,(y19.2.2.length:Int),(0:Int),y19.1,y19.2.1,y19.2.2)) fun y28=>alt2 y28 (fun y29=>some y29) (fun y30=>some (0:Int))))))
def YrO:VFn:=⟨true,70,[.t 2],
 (Rg [oG 1 0,oK 2 0]
 (.seq (Rg [oF 8 0 1,oL 9 8,oC 10 255 [9],oX 11 10]
 (.cond 11 (Rg [oK 2 1]
 (Fr 2))
 .skip))
 (.seq (Rg [oF 12 1 1,oL 13 12,oN 14 13,oR 15 .gtr 14 (k 16),oM 16 15,gF 17 16 (.fad 2 1),gF 18 16 (.load false 1 17),gF 19 16 (.len 18),gF 20 16 (.bin .gtr 19 (k 1000)),oP 21 16 (kb true) 20]
 (.cond 21 (Rg [oK 2 3]
 (Fr 2))
 .skip))
 (.seq (Rg [oF 22 1 1,oL 23 22,oN 24 23,oK 25 0]
 (.blk 0 (.loop 20 q11_L20_b)))
 (Rg [oK 5 0]
 (.seq (Rg [oF 42 2 1,oL 43 42,oN 44 43,oK 45 0]
 (.blk 2 (.loop 3 q11_L3_b)))
 (Rg [oK 2 0]
 (Fr 2))))))))⟩
def Ykt(lo:Lo):FnE:=Zfe 230 true (Zsg [0] [.ag [.s,.l (cs [.s]),.l Zc2]] []) (.i .i64) [] (fun x=>q11 lo x.1 x.2.1 x.2.2:ByteArray×Zt1×Zt3->Option Int)
def fs12(lo:Lo):List FnE:=Ykt lo::fs11 lo
theorem YrP(h:GZ P fm fs11 lo)(t:Ti P fm 230 YrO):GZ P fm fs12 lo:=
  h.p (Ykt lo) (YrN lo) t
def q12_L3_b:VCode:=
 (.seq (Rg [oM 10 6,oR 11 .geq 10 (k 0)]
 (Ce 11 0))
 (.seq (.blk 1 (.reg [oM 14 0,oM 15 5,oM 16 6,oR 17 .shr 15 16,o 18 (.conv .u8 17),o 19 (.bsl (cs [.i .u8]) 1 [(0,18)]),o 20 (.appb 14 19),oM 0 20]))
 (.reg [oM 12 6,oR 13 .sub 12 (k 8),oM 6 13])))
def Yku(lo:Lo):Int×Int×ByteArray->Option ((Int×Int×ByteArray)⊕ByteArray):=fun x=>match x with
  | (u5,shift6,out0)=>bif(decide (0<=shift6))then(chk (0<=shift6) (bif inB ([(YAM .u8 (u5.fdiv (2^(min shift6.toNat (IntKind.bits .u64)))))])then(chk (out0.size+([(YAM .u8 (u5.fdiv (2^(min shift6.toNat (IntKind.bits .u64)))))]).length<=maxEl) (some (.inl (u5,(YAM .i64 (shift6-8)),(out0++Ywq ([(YAM .u8 (u5.fdiv (2^(min shift6.toNat (IntKind.bits .u64)))))]))))))else none))else(some (.inr out0))
def Ykv(lo:Lo):Int×Int×ByteArray->Option ByteArray:=lo.run (Yku lo)
def YrQ(lo:Lo):LpE:=⟨3,[(0,some 0,false)],(Zsg [0,5,6] [.ref 1,.i .u64,.j] [.dd,.sb]),[⟨.exit 0,(Zsg [0] [.ref 1] [.dd,.sb])⟩],Ykv lo⟩
def YrR(lo:Lo):LL:=(YrQ lo,.loop q12_L3_b.er)::[]
theorem YrS(lo:Lo):Lk lo pf (fs12 lo) 1 (YrR lo):=.l .n (Yku lo)
def q12(lo:Lo)(n1:Int)(out0:ByteArray):Option ByteArray:=
  YAr (Ykv lo ((bits .xor .u64 (YAM .u64 n1) (9223372036854775808:Int)),(56:Int),out0)) fun y35=>some y35
def YrT:VFn:=⟨true,22,[.t 4],
 (Rg [o 4 (.mv (ke (cs [.i .u8])))]
 (Rg [oM 7 1,o 8 (.conv .u64 7),oR 9 .xor 8 (ki .u64 9223372036854775808),oM 5 9]
 (.seq (Rg [oK 6 56]
 (.blk 0 (.loop 3 q12_L3_b)))
 (Rg [oM 21 0,oM 4 21]
 .ret))))⟩
def Ykw(lo:Lo):FnE:=Zfe 310 false (Zsg [0,1] [.ref 0,.j] [.sb]) (.ref 1) [.dd,.sb] (fun x=>q12 lo x.1 x.2:Int×ByteArray->Option ByteArray)
def fs13(lo:Lo):List FnE:=Ykw lo::fs12 lo
theorem YrU(h:GZ P fm fs12 lo)(t:Ti P fm 310 YrT):GZ P fm fs13 lo:=
  h.i (Ykw lo) (YrS lo) t
def q13_L5_b:VCode:=
 (Rg [oR 28 .lss 27 26]
 (.seq (Ce 28 1)
 (.seq (.blk 2 (Rg [oM 29 27,oM 5 29]
 (Rg [oM 30 4,oF 31 2 1,oL 32 31,oM 33 5,o 34 (.idx 32 33),o 35 (.bsl (cs [.i .u8]) 1 [(0,34)]),o 36 (.appb 30 35),oM 4 36]
 (Rg [oF 37 2 1,oL 38 37,oM 39 5,o 40 (.idx 38 39),oR 41 .eql 40 (ki .u8 0)]
 (.cond 41 (.reg [oM 42 4,o 43 (.bsl (cs [.i .u8]) 1 [(0,(ki .u8 255))]),o 44 (.appb 42 43),oM 4 44])
 .skip)))))
 (.reg [oR 45 .add 27 (k 1),oM 27 45]))))
def Ykx(lo:Lo):Zp21->Option (Zp21⊕ByteArray):=fun x=>match x with
  | (v26,v27,v1_0,v1_1,v1_2,out4)=>bif(decide (v27<v26))then(chk (0<=v27/\v27< (v1_2.size:Int)) (bif inB ([(Ywc v1_2 v27)])then(chk (out4.size+([(Ywc v1_2 v27)]).length<=maxEl) (chk (0<=v27/\v27< (v1_2.size:Int)) (bif(decide ((Ywc v1_2 v27)=(0:Int)))then(bif inB ([(255:Int)])then(chk ((out4++Ywq ([(Ywc v1_2 v27)])).size+([(255:Int)]).length<=maxEl) (some (.inl (v26,(YAM .i64 (v27+1)),v1_0,v1_1,v1_2,((out4++Ywq ([(Ywc v1_2 v27)]))++Ywq ([(255:Int)]))))))else none)else(some (.inl (v26,(YAM .i64 (v27+1)),v1_0,v1_1,v1_2,(out4++Ywq ([(Ywc v1_2 v27)]))))))))else none))else(some (.inr out4))
def Yky(lo:Lo):Zp21->Option ByteArray:=lo.run (Ykx lo)
def YrV(lo:Lo):LpE:=⟨5,[],(Zsg [1,4,26,27] [.ptr 0 0 0,.ref 1,.j,.j] [.st [.j,.j,.s],.sb]),[⟨.exit 1,(Zsg [4] [.ref 0] [.sb])⟩],Yky lo⟩
def Ykz(lo:Lo):LL:=(YrV lo,.loop q13_L5_b.er)::[]
theorem YrW(lo:Lo):Lk lo pf (fs13 lo) 0 (Ykz lo):=.l .n (Ykx lo)
def q13_J17_b:VCode:=
 (.cond 15 (.reg [oM 18 4,oF 19 1 1,oL 20 19,oC 21 310 [18,20],oM 4 21])
 (Rg [oR 23 .eql 14 (k 2),oM 22 23]
 (.cond 22 (.seq (Rg [oF 24 2 1,oL 25 24,o 26 (.lenS 25),oK 27 0]
 (.blk 1 (.loop 5 q13_L5_b)))
 (.reg [oM 46 4,o 47 (.bsl (cs [.i .u8]) 2 [(0,(ki .u8 0)),(1,(ki .u8 1))]),o 48 (.appb 46 47),oM 4 48]))
 .skip)))
def Yf3(lo:Lo):Int×Bool×Int×Int×ByteArray×ByteArray->Option ByteArray:=fun x=>match x with
  | (v14,v15,v1_0,v1_1,v1_2,out4)=>bif v15 then(YAr (q12 lo v1_1 out4) fun y36=>some y36)else(bif(decide (v14=2))then(YAr (Yky lo ((v1_2.size:Int),(0:Int),v1_0,v1_1,v1_2,out4)) fun y37=>bif inB ([(0:Int),(1:Int)])then(chk (y37.size+([(0:Int),(1:Int)]).length<=maxEl) (some (y37++Ywq ([(0:Int),(1:Int)]))))else none)else(some out4))
def YrX(lo:Lo):LpE:=⟨17,[],(Zsg [1,4,14,15] [.ptr 0 0 0,.ref 1,.j,.b] [.st [.j,.j,.s],.sb]),[⟨.nor,(Zsg [4] [.ref 0] [.sb])⟩],Yf3 lo⟩
def YrY(lo:Lo):LL:=(YrX lo,q13_J17_b.er)::Ykz lo
theorem YrZ(lo:Lo):Lk lo pf (fs13 lo) 0 (YrY lo):=.j (YrW lo)
def q13(lo:Lo)(v0_0:Int)(v0_1:Int)(v0_2:ByteArray):Option (ByteArray×Int):=
  YAr (q6 lo v0_0 v0_1 v0_2) fun y34=>bif(!y34)then(some ((YAL #[]),(1:Int)))else(bif inB [(YAM .u8 v0_0)]then(bif(decide (v0_0=1))then(YAr (Yf3 lo (v0_0,true,v0_0,v0_1,v0_2,(Ywq [(YAM .u8 v0_0)]))) fun y38=>some (y38,(0:Int)))else(YAr (Yf3 lo (v0_0,(decide (v0_0=3)),v0_0,v0_1,v0_2,(Ywq [(YAM .u8 v0_0)]))) fun y39=>some (y39,(0:Int))))else none)
def Yr0:VFn:=⟨true,51,[.t 2,.t 3],
 (Rg [oG 1 0,o 2 (.mv (ks (⟨#[]⟩))),oK 3 0]
 (.seq (Rg [oT 6 3 1,oC 7 283 [6],oX 8 7]
 (.cond 8 (Rg [o 2 (.mv (ks (⟨#[]⟩))),oK 3 1]
 (.fz [2,3] .ret))
 .skip))
 (Rg [oF 9 0 1,oL 10 9,o 11 (.conv .u8 10),o 12 (.litb [11]),oM 4 12]
 (.seq (Rg [oF 13 0 1,oL 14 13]
 (.blk 0 (.seq (Rg [oR 16 .eql 14 (k 1),oM 15 16]
 (.cond 15 .skip
 (.reg [oR 17 .eql 14 (k 3),oM 15 17])))
 (.jn 17 q13_J17_b))))
 (Rg [oM 49 4,o 50 (.bstr 49),oM 2 50,oK 3 0]
 (.fz [2,3] .ret))))))⟩
def YkA(lo:Lo):FnE:=Zfe 296 true (Zsg [0] [.ag [.j,.j,.s]] []) (.tp [.s,.j]) [] (fun x=>q13 lo x.1 x.2.1 x.2.2:Int×Int×ByteArray->Option (ByteArray×Int))
def fs14(lo:Lo):List FnE:=YkA lo::fs13 lo
theorem Yr1(h:GZ P fm fs13 lo)(t:Ti P fm 296 Yr0):GZ P fm fs14 lo:=
  h.p (YkA lo) (YrZ lo) t
def q14(lo:Lo)(s:ByteArray):Option ByteArray:=some s
def Yr2(lo:Lo):FnE:=vchkE2 164
def fs15(lo:Lo):List FnE:=Yr2 lo::fs14 lo
theorem Yr3(h:GZ P fm fs14 lo)(hG: ∀f,fm f=164->Ywa P f=true/\ ∃ρ:Go.Shelf.Ren,Go.Proofs.Lays.n240 P ρ/\BldOK P fm ρ/\ρ.f 240=f):GZ P fm fs15 lo:=
  ⟨h.1,h.2,Yqw h.S rfl hG⟩
def q15(lo:Lo)(s1:ByteArray)(h1:ByteArray):Option (Int×ByteArray):=
  YAr (q14 lo h1) fun y41=>chk (y41.size=h1.size) (chk (y41.size+s1.size<=maxEl) (some ((s1.size:Int),(y41++s1))))
def Yr4:VFn:=⟨true,19,[.t 4,.t 5],
 (Rg [oK 4 0,o 5 (.mv (.c (.v .nilIface)))]
 (Rg [oM 6 0,oC 7 164 [6]]
 (Rg [oM 8 0,oM 9 0,o 10 (.nilc 9),oF 11 1 10,oL 12 11,oM 13 1,o 14 (.apps 12 13),o 15 (.nilc 8),oF 16 1 15,oS 1 16 14]
 (Rg [oM 17 1,o 18 (.lenS 17),oM 4 18,o 5 (.mv (.c (.v .nilIface)))]
 .ret))))⟩
def YkB(lo:Lo):FnE:=Zfe 149 false (Zsg [0,1] [.ptr 0 0 0,.s] [.st [.np 0,.ref 1],.sb]) (.tp [.j,.u]) [.st [.np 0,.ref 2],.dd,.sb] (fun x=>q15 lo x.1 x.2:ByteArray×ByteArray->Option (Int×ByteArray))
def fs16(lo:Lo):List FnE:=YkB lo::fs15 lo
theorem Yr5(h:GZ P fm fs15 lo)(t:Ti P fm 149 Yr4):GZ P fm fs16 lo:=
  h.i (YkB lo) .n t
def q16(lo:Lo)(s:ByteArray):Option ByteArray:=some s
def Yr6(lo:Lo):FnE:=vstrE 151
def fs17(lo:Lo):List FnE:=Yr6 lo::fs16 lo
theorem Yr7(h:GZ P fm fs16 lo)(hG: ∀f,fm f=151->Ywa P f=true/\ ∃ρ:Go.Shelf.Ren,Go.Proofs.Lays.n169 P ρ/\BldOK P fm ρ/\fm.bu=ρ.t 5/\ρ.f 169=f):GZ P fm fs17 lo:=
  ⟨h.1,h.2,YqD h.S rfl hG⟩
def q17_L3_b:VCode:=
 (Rg [oR 11 .lss 10 9]
 (.seq (Ce 11 0)
 (.seq (.blk 1 (Rg [oI 12 3 8 10,oT 13 3 12,o 5 (.alloc [.i .i64 0,.i .i64 0,.s (⟨#[]⟩)]),oS 3 5 13]
 (Rg [oT 15 3 5,oC 16 296 [15],oM 14 16,oE 17 14 0,oE 18 14 1,oM 6 17,oM 7 18]
 (.reg [oM 19 6,oC 20 149 [3,19]]))))
 (.reg [oR 21 .add 10 (k 1),oM 10 21]))))
def YkC(lo:Lo):Zt0×Int×Int×ByteArray->Option ((Zt0×Int×Int×ByteArray)⊕ByteArray):=fun x=>match x with
  | (v8,v9,v10,h1)=>bif(decide (v10<v9))then(chk (0<=v10/\v10< (v8.length:Int)) (YAr (q13 lo ((v8.getD v10.toNat Zd1).1) ((v8.getD v10.toNat Zd1).2.1) ((v8.getD v10.toNat Zd1).2.2)) fun y40=>YAr (q15 lo y40.1 h1) fun y42=>some (.inl (v8,v9,(YAM .i64 (v10+1)),y42.2))))else(some (.inr h1))
def YkD(lo:Lo):Zt0×Int×Int×ByteArray->Option ByteArray:=lo.run (YkC lo)
def Yr8(lo:Lo):LpE:=⟨3,[],(Zsg [3,8,9,10] [.ptr 0 0 0,.l Zc4,.j,.j] [.st [.np 0,.ref 1],.sb]),[⟨.exit 0,(Zsg [3] [.ptr 0 0 0] [.st [.np 0,.ref 1],.sb])⟩],YkD lo⟩
def Yr9(lo:Lo):LL:=(Yr8 lo,.loop q17_L3_b.er)::[]
theorem Ysa(lo:Lo):Lk lo pf (fs17 lo) 0 (Yr9 lo):=.l .n (YkC lo)
def q17(lo:Lo)(l0:List (Int×Int×ByteArray)):Option ByteArray:=
  YAr (YkD lo (l0,(l0.length:Int),(0:Int),(YAL #[]))) fun y43=>YAr (q16 lo y43) fun y44=>some y44
def Ysb:VFn:=⟨true,23,[.t 2],
 (Rg [o 2 (.mv (ks (⟨#[]⟩)))]
 (Rg [o 3 (.bld)]
 (.ow [(3,some 1,false)] (.seq (Rg [oM 8 0,oN 9 8,oK 10 0]
 (.blk 0 (.loop 3 q17_L3_b)))
 (Rg [oC 22 151 [3],oM 2 22]
 (Fr 2))))))⟩
def YkE(lo:Lo):FnE:=Zfe 261 true (Zsg [0] [.l Zc4] []) .s [] (fun x=>q17 lo x:Zt0->Option ByteArray)
def fs18(lo:Lo):List FnE:=YkE lo::fs17 lo
theorem Ysc(h:GZ P fm fs17 lo)(t:Ti P fm 261 Ysb):GZ P fm fs18 lo:=
  h.p (YkE lo) (Ysa lo) t
end Go.Abs.G3c
namespace Go.Abs.G3c
open Go Go.Abs
set_option maxRecDepth 100000
set_option maxHeartbeats 1000000
variable{P:Program}{fm:FM}{lo:Lo}
def q18_L23_b:VCode:=
 (Rg [oR 37 .lss 36 35]
 (.seq (Ce 37 0)
 (.seq (.blk 1 (Rg [oM 38 36,oI 39 1 34 36,oL 40 39,oM 8 38,oM 9 40]
 (Rg [oM 41 1,oM 42 8,oR 43 .shr 41 42,oR 44 .and 43 (ki .u32 1),oR 45 .eql 44 (ki .u32 1)]
 (.cond 45 (.reg [oF 46 1 7,oL 47 46,oM 48 9,o 49 (.bsl (cs [.s]) 1 [(0,48)]),o 50 (.app (cs [.s]) 0 47 49),oF 51 1 7,oS 1 51 50])
 .skip))))
 (.reg [oR 52 .add 36 (k 1),oM 36 52]))))
def YkF(lo:Lo):Zp12->Option (Zp12⊕ ((Int×ByteArray×Zt1×Zt3×ByteArray×Zt1×Zt3×ByteArray×Zt1×Zt3))):=fun x=>match x with
  | (s1,v34,v35,v36,t2_0,t2_1,t2_2,v4_0,v4_1,v4_2,out7,h3,h4)=>bif(decide (v36<v35))then(chk (0<=v36/\v36< (v34.length:Int)) (chk (0<=v36) (bif(decide ((bits .and .u32 (s1.fdiv (2^(min v36.toNat (IntKind.bits .u32)))) (1:Int))=(1:Int)))then(chk (h3.length+([(v34.getD v36.toNat (YAL #[]))]).length<=maxEl) (some (.inl (s1,v34,v35,(YAM .i64 (v36+1)),t2_0,t2_1,t2_2,v4_0,v4_1,v4_2,out7,(h3++([(v34.getD v36.toNat (YAL #[]))])),h4))))else(some (.inl (s1,v34,v35,(YAM .i64 (v36+1)),t2_0,t2_1,t2_2,v4_0,v4_1,v4_2,out7,h3,h4))))))else(some (.inr (s1,t2_0,t2_1,t2_2,v4_0,v4_1,v4_2,out7,h3,h4)))
def YkG(lo:Lo):Zp12->Option ((Int×ByteArray×Zt1×Zt3×ByteArray×Zt1×Zt3×ByteArray×Zt1×Zt3)):=lo.run (YkF lo)
def Ysd(lo:Lo):LpE:=⟨23,[(7,some 1,false),(7,some 2,false)],(Zsg [1,2,4,7,34,35,36] [.i .u32,.ptr 0 0 0,.ptr 1 0 0,.ptr 2 0 0,.l (cs [.s]),.j,.j] [.st [.s,.l (cs [.s]),.l Zc2],.st [.s,.l (cs [.s]),.l Zc2],.st [.s,.ref 3,.ref 4],.sq (cs [.s]),.sq Zc2]),[⟨.exit 0,(Zsg [1,2,4,7] [.i .u32,.ptr 0 0 0,.ptr 1 0 0,.ptr 2 0 0] [.st [.s,.l (cs [.s]),.l Zc2],.st [.s,.l (cs [.s]),.l Zc2],.st [.s,.ref 3,.ref 4],.sq (cs [.s]),.sq Zc2])⟩],YkG lo⟩
def YkH(lo:Lo):LL:=(Ysd lo,.loop q18_L23_b.er)::[]
theorem Yse(lo:Lo):Lk lo pf (fs18 lo) 0 (YkH lo):=.l .n (YkF lo)
def q18_L9_b:VCode:=
 (Rg [oR 68 .lss 67 66]
 (.seq (Ce 68 4)
 (.seq (.blk 5 (Rg [oM 69 67,oI 70 3 65 67,oT 71 3 70,o 15 (.alloc [.i .i64 0,.i .i64 0,.s (⟨#[]⟩)]),oM 14 69,oS 3 15 71]
 (Rg [oM 72 1,oM 73 14,oR 74 .shr 72 73,oR 75 .and 74 (ki .u32 1),oR 76 .eql 75 (ki .u32 1)]
 (.cond 76 (.reg [oF 77 1 13,oL 78 77,oT 79 3 15,o 80 (.bsl Zc4 1 [(0,79)]),o 81 (.app Zc4 0 78 80),oF 82 1 13,oS 1 82 81])
 .skip))))
 (.reg [oR 83 .add 67 (k 1),oM 67 83]))))
def YkI(lo:Lo):Zp10->Option (Zp10⊕ ((Int×Zt3×Int×Int×ByteArray×Zt1×Zt3×ByteArray×Int×Zt6×Bool×Int×Zt1×Zt3×Zt0))):=fun x=>match x with
  | (s1,v55,v56,v57,v65,v66,v67,v4_0,v4_1,v4_2,out7,h2_0,h2_1,h2_2,p13,h4,h5,h6)=>bif(decide (v67<v66))then(chk (0<=v67/\v67< (v65.length:Int)) (chk (0<=v67) (bif(decide ((bits .and .u32 (s1.fdiv (2^(min v67.toNat (IntKind.bits .u32)))) (1:Int))=(1:Int)))then(chk (h6.length+([(v65.getD v67.toNat Zd1)]).length<=maxEl) (some (.inl (s1,v55,v56,v57,v65,v66,(YAM .i64 (v67+1)),v4_0,v4_1,v4_2,out7,h2_0,h2_1,h2_2,p13,h4,h5,(h6++([(v65.getD v67.toNat Zd1)]))))))else(some (.inl (s1,v55,v56,v57,v65,v66,(YAM .i64 (v67+1)),v4_0,v4_1,v4_2,out7,h2_0,h2_1,h2_2,p13,h4,h5,h6))))))else(some (.inr (s1,v55,v56,v57,v4_0,v4_1,v4_2,out7,h2_0,h2_1,h2_2,p13,h4,h5,h6)))
def YkJ(lo:Lo):Zp10->Option ((Int×Zt3×Int×Int×ByteArray×Zt1×Zt3×ByteArray×Int×Zt6×Bool×Int×Zt1×Zt3×Zt0)):=lo.run (YkI lo)
def Ysf(lo:Lo):LpE:=⟨9,[(7,some 1,false),(7,some 2,false),(13,some 1,false)],(Zsg [1,4,7,10,13,55,56,57,65,66,67] [.i .u32,.ptr 0 0 0,.ptr 1 0 0,.np 2,.ptr 3 0 0,.l Zc2,.j,.j,.l Zc4,.j,.j] [.st [.s,.l (cs [.s]),.l Zc2],.st [.s,.ref 4,.ref 5],.st [.j,.l (cs [I,.s,.b]),.b],.st [.j,.ref 6],.sq (cs [.s]),.sq Zc2,.sq Zc4]),[⟨.exit 4,(Zsg [1,4,7,10,13,55,56,57] [.i .u32,.ptr 0 0 0,.ptr 1 0 0,.np 2,.ptr 3 0 0,.l Zc2,.j,.j] [.st [.s,.l (cs [.s]),.l Zc2],.st [.s,.ref 4,.ref 5],.st [.j,.l (cs [I,.s,.b]),.b],.st [.j,.ref 6],.sq (cs [.s]),.sq Zc2,.sq Zc4])⟩],YkJ lo⟩
def YkK(lo:Lo):LL:=(Ysf lo,.loop q18_L9_b.er)::YkH lo
theorem Ysg(lo:Lo):Lk lo pf (fs18 lo) 0 (YkK lo):=.l (Yse lo) (YkI lo)
def q18_L3_b:VCode:=
 (Rg [oR 58 .lss 57 56]
 (.seq (Ce 58 2)
 (.seq (.blk 3 (Rg [oI 59 2 55 57,oT 60 2 59,o 12 (.alloc [.i .i64 0,.e Zc4]),oS 2 12 60]
 (Rg [oF 61 0 12,oL 62 61,o 63 (.build [.i .i64 0,.e Zc4] [(0,1,62)]),o 13 (.alloc [.i .i64 0,.e Zc4]),oS 2 13 63]
 (.seq (Rg [oF 64 1 12,oL 65 64,oN 66 65,oK 67 0]
 (.blk 4 (.loop 9 q18_L9_b)))
 (Rg [oF 84 1 13,oL 85 84,oC 86 261 [85],oM 16 86]
 (Rg [oM 87 10,oM 88 16,o 89 (.mget none .b (cs []) false false 87 88),oX 90 89]
 (.cond 90 (Rg [oM 91 10,oM 92 16,on (.mput none .b (cs []) false 91 92 (kb true))]
 (.fz [85] (.reg [oF 93 2 7,oL 94 93,oT 95 2 13,o 96 (.bsl Zc2 1 [(0,95)]),o 97 (.app Zc2 0 94 96),oF 98 2 7,oS 1 98 97])))
 .skip)))))))
 (.reg [oR 99 .add 57 (k 1),oM 57 99]))))
def YkL(lo:Lo):Zp13->Option (Zp13⊕ (Zp22)):=fun x=>match x with
  | (s1,v55,v56,v57,v4_0,v4_1,v4_2,out7,h2_0,h2_1,h2_2,h3,h4)=>bif(decide (v57<v56))then(chk (0<=v57/\v57< (v55.length:Int)) (YAr (YkJ lo (s1,v55,v56,v57,(v55.getD v57.toNat ((0:Int),[])).2,(((v55.getD v57.toNat ((0:Int),[])).2).length:Int),(0:Int),v4_0,v4_1,v4_2,out7,h2_0,h2_1,h2_2,(v55.getD v57.toNat ((0:Int),[])).1,h3,h4,[])) fun y48=>YAr (q17 lo y48.2.2.2.2.2.2.2.2.2.2.2.2.2.2) fun y49=>bif(!(mgt eqS y49 y48.2.2.2.2.2.2.2.2.2.1 false))then(chk (y48.2.2.2.2.2.2.2.2.2.2.2.2.2.1.length+([(y48.2.2.2.2.2.2.2.2.2.2.2.1,y48.2.2.2.2.2.2.2.2.2.2.2.2.2.2)]).length<=maxEl) (some (.inl (y48.1,y48.2.1,y48.2.2.1,(YAM .i64 (y48.2.2.2.1+(1:Int))),y48.2.2.2.2.1,y48.2.2.2.2.2.1,y48.2.2.2.2.2.2.1,y48.2.2.2.2.2.2.2.1,(mck eqS y48.2.2.2.2.2.2.2.2.1 y49 y48.2.2.2.2.2.2.2.2.2.1),(mpt eqS y48.2.2.2.2.2.2.2.2.1 y49 true y48.2.2.2.2.2.2.2.2.2.1),y48.2.2.2.2.2.2.2.2.2.2.1,y48.2.2.2.2.2.2.2.2.2.2.2.2.1,(y48.2.2.2.2.2.2.2.2.2.2.2.2.2.1++([(y48.2.2.2.2.2.2.2.2.2.2.2.1,y48.2.2.2.2.2.2.2.2.2.2.2.2.2.2)]))))))else(some (.inl (y48.1,y48.2.1,y48.2.2.1,(YAM .i64 (y48.2.2.2.1+(1:Int))),y48.2.2.2.2.1,y48.2.2.2.2.2.1,y48.2.2.2.2.2.2.1,y48.2.2.2.2.2.2.2.1,y48.2.2.2.2.2.2.2.2.1,y48.2.2.2.2.2.2.2.2.2.1,y48.2.2.2.2.2.2.2.2.2.2.1,y48.2.2.2.2.2.2.2.2.2.2.2.2.1,y48.2.2.2.2.2.2.2.2.2.2.2.2.2.1)))))else(some (.inr (v4_0,v4_1,v4_2,out7,h3,h4)))
def YkM(lo:Lo):Zp13->Option (Zp22):=lo.run (YkL lo)
def Ysh(lo:Lo):LpE:=⟨3,[(7,some 1,false),(7,some 2,false)],(Zsg [1,4,7,10,55,56,57] [.i .u32,.ptr 0 0 0,.ptr 1 0 0,.np 2,.l Zc2,.j,.j] [.st [.s,.l (cs [.s]),.l Zc2],.st [.s,.ref 3,.ref 4],.st [.j,.l (cs [I,.s,.b]),.b],.sq (cs [.s]),.sq Zc2]),[⟨.exit 2,(Zsg [4,7] [.ptr 0 0 0,.ptr 1 0 0] [.st [.s,.l (cs [.s]),.l Zc2],.st [.s,.ref 2,.ref 3],.sq (cs [.s]),.sq Zc2])⟩],YkM lo⟩
def Ysi(lo:Lo):LL:=(Ysh lo,.loop q18_L3_b.er)::YkK lo
theorem Ysj(lo:Lo):Lk lo pf (fs18 lo) 0 (Ysi lo):=.l (Ysg lo) (YkL lo)
def q18(lo:Lo)(t0_0:ByteArray)(t0_1:List ByteArray)(t0_2:List (Int×Zt0))(s1:Int):Option (ByteArray×Zt1×Zt3×Int):=
  YAr (q11 lo t0_0 t0_1 t0_2) fun y46=>bif(!decide (y46=0))then(some ((YAL #[]),([]:List ByteArray),([]:List (Int×Zt0)),y46))else(chk (0<=(t0_1.length:Int)) (bif(!decide ((s1.fdiv (2^(min (t0_1.length:Int).toNat (IntKind.bits .u32))))=(0:Int)))then(some ((YAL #[]),([]:List ByteArray),([]:List (Int×Zt0)),(6:Int)))else(YAr (YkG lo (s1,t0_1,(t0_1.length:Int),(0:Int),t0_0,t0_1,t0_2,(YAL #[]),([]:List ByteArray),([]:List (Int×Zt0)),t0_0,[],[])) fun y47=>YAr (YkM lo (y47.1,y47.2.2.2.1,(y47.2.2.2.1.length:Int),(0:Int),y47.2.2.2.2.1,y47.2.2.2.2.2.1,y47.2.2.2.2.2.2.1,y47.2.2.2.2.2.2.2.1,(0:Int),([]:List (Int×ByteArray×Bool)),false,y47.2.2.2.2.2.2.2.2.1,y47.2.2.2.2.2.2.2.2.2)) fun y50=>some (y50.2.2.2.1,y50.2.2.2.2.1,y50.2.2.2.2.2,(0:Int)))))
def Ysk:VFn:=⟨true,101,[.c 4 true 3,.t 5],
 (Rg [oG 2 0,o 4 (.alloc [.s (⟨#[]⟩),.e (cs [.s]),.e Zc2]),oK 5 0]
 (.seq (Rg [oT 17 3 2,oC 18 230 [17],oM 6 18]
 (Rg [oM 19 6,oR 20 .neq 19 (k 0)]
 (.cond 20 (Rg [o 21 (.build [.s (⟨#[]⟩),.e (cs [.s]),.e Zc2] []),oM 22 6,oS 3 4 21,oM 5 22]
 (.fz [4,5] .ret))
 .skip)))
 (.seq (Rg [oM 23 1,oF 24 1 2,oL 25 24,oN 26 25,oR 27 .shr 23 26,oR 28 .neq 27 (ki .u32 0)]
 (.cond 28 (Rg [o 29 (.build [.s (⟨#[]⟩),.e (cs [.s]),.e Zc2] []),oS 3 4 29,oK 5 6]
 (.fz [4,5] .ret))
 .skip))
 (Rg [oF 30 0 2,oL 31 30,o 32 (.build [.s (⟨#[]⟩),.e (cs [.s]),.e Zc2] [(0,1,31)]),o 7 (.alloc [.s (⟨#[]⟩),.e (cs [.s]),.e Zc2]),oS 3 7 32]
 (.seq (Rg [oF 33 1 2,oL 34 33,oN 35 34,oK 36 0]
 (.blk 0 (.loop 23 q18_L23_b)))
 (Rg [o 53 (.mkm none .b (cs []) false),oM 10 53]
 (.seq (Rg [oF 54 2 2,oL 55 54,oN 56 55,oK 57 0]
 (.blk 2 (.loop 3 q18_L3_b)))
 (Rg [oT 100 3 7,oS 3 4 100,oK 5 0]
 (.fz [4,5] .ret)))))))))⟩
def YkN(lo:Lo):FnE:=Zfe 233 true (Zsg [0,1] [.ag [.s,.l (cs [.s]),.l Zc2],.i .u32] []) (.tp [.ag [.s,.l (cs [.s]),.l Zc2],.j]) [] (fun x=>q18 lo x.1 x.2.1 x.2.2.1 x.2.2.2:ByteArray×Zt1×Zt3×Int->Option (ByteArray×Zt1×Zt3×Int))
def fs19(lo:Lo):List FnE:=YkN lo::fs18 lo
theorem Ysl(h:GZ P fm fs18 lo)(t:Ti P fm 233 Ysk):GZ P fm fs19 lo:=
  h.p (YkN lo) (Ysj lo) t
def q19(lo:Lo)(l:List ByteArray):Option Zt1:=bif YAi l.length maxEl&&YAi 1 1 then some l else none
def Ysm(lo:Lo):FnE:=vcloneE 269 (cs [.s])
def fs20(lo:Lo):List FnE:=Ysm lo::fs19 lo
theorem Ysn(h:GZ P fm fs19 lo)(htie: ∀f,fm f=269->fnTr P fm pf f=some (8,[.t 2],YwU 1 [(.string (⟨#[]⟩))])):GZ P fm fs20 lo:=
  ⟨h.1,h.2,YjF h.S h.mx (cs [.s]) rfl [(.string (⟨#[]⟩))] 8 (by decide) htie⟩
def q20_L3_b:VCode:=
 (Rg [oR 21 .lss 20 19]
 (.seq (Ce 21 0)
 (.seq (.blk 1 (Rg [oM 22 20,oI 23 1 18 20,oL 24 23,oM 11 22,oM 12 24]
 (.seq (Rg [oM 25 12,oM 26 0,oN 27 26,oR 28 .lss 25 27,oM 29 28,gT 30 29 (.mv 0),gT 31 29 (.mv 12),gT 32 29 (.iad 3 30 31),gT 33 29 (.load true 3 32),gT 34 29 (.mv 1),gT 35 29 (.mv 11),gT 36 29 (.iad 3 34 35),gT 37 29 (.load true 3 36),gT 38 29 (.eqa true [1,1,2] 33 37),oP 39 29 38 (kb false)]
 (.cond 39 (Rg [o 8 (.mv (ke Zc4)),oB 9 false]
 (.fz [8,9] .ret))
 .skip))
 (.reg [oM 40 10,oM 41 12,oM 42 1,oM 43 11,oI 44 3 42 43,oT 45 3 44,oI 46 3 40 41,oS 3 46 45]))))
 (.reg [oR 47 .add 20 (k 1),oM 20 47]))))
def YkO(lo:Lo):Zp23->Option (Zp23⊕ ((Zt0×Bool)⊕ (Zt0))):=fun x=>match x with
  | (a0,b1,v18,v19,v20,out10)=>bif(decide (v20<v19))then(chk (0<=v20/\v20< (v18.length:Int)) (bif(decide ((v18.getD v20.toNat (0:Int))< (a0.length:Int)))then(chk (0<=(v18.getD v20.toNat (0:Int))/\ (v18.getD v20.toNat (0:Int))< (a0.length:Int)) (chk (0<=v20/\v20< (b1.length:Int)) (bif(!((decide ((a0.getD ((v18.getD v20.toNat (0:Int)).toNat) Zd1).1=(b1.getD v20.toNat Zd1).1))&& ((decide ((a0.getD ((v18.getD v20.toNat (0:Int)).toNat) Zd1).2.1=(b1.getD v20.toNat Zd1).2.1))&& ((decide ((a0.getD ((v18.getD v20.toNat (0:Int)).toNat) Zd1).2.2=(b1.getD v20.toNat Zd1).2.2))&&true))))then(some (.inr (.inl (([]:List (Int×Int×ByteArray)),false))))else(chk (0<=v20/\v20< (b1.length:Int)) (chk (0<=(v18.getD v20.toNat (0:Int))/\ (v18.getD v20.toNat (0:Int))< (out10.length:Int)) (some (.inl (a0,b1,v18,v19,(YAM .i64 (v20+1)),(out10.set ((v18.getD v20.toNat (0:Int)).toNat) (b1.getD v20.toNat Zd1))))))))))else(chk (0<=v20/\v20< (b1.length:Int)) (chk (0<=(v18.getD v20.toNat (0:Int))/\ (v18.getD v20.toNat (0:Int))< (out10.length:Int)) (some (.inl (a0,b1,v18,v19,(YAM .i64 (v20+1)),(out10.set ((v18.getD v20.toNat (0:Int)).toNat) (b1.getD v20.toNat Zd1)))))))))else(some (.inr (.inr out10)))
def YkP(lo:Lo):Zp23->Option ((Zt0×Bool)⊕ (Zt0)):=lo.run (YkO lo)
def Yso(lo:Lo):LpE:=⟨3,[],(Zsg [0,1,10,18,19,20] [.l Zc4,.l Zc4,.ref 0,.l (cs [I]),.j,.j] [.sq Zc4]),[⟨.ret,(Zsg [8,9] [.l Zc4,.b] [])⟩,⟨.exit 0,(Zsg [10] [.ref 0] [.sq Zc4])⟩],YkP lo⟩
def Ysp(lo:Lo):LL:=(Yso lo,.loop q20_L3_b.er)::[]
theorem Ysq(lo:Lo):Lk lo pf (fs20 lo) 0 (Ysp lo):=.l .n (YkO lo)
def q20(lo:Lo)(a0:List (Int×Int×ByteArray))(b1:List (Int×Int×ByteArray))(place2:List Int)(n3:Int):Option (Zt0×Bool):=
  chk (0<=n3/\n3<=n3/\n3<=(maxEl:Nat)) (YAr (YkP lo (a0,b1,place2,(place2.length:Int),(0:Int),(a0.take (min a0.length (List.replicate n3.toNat Zd1).length)++(List.replicate n3.toNat Zd1).drop (min a0.length (List.replicate n3.toNat Zd1).length)))) fun y58=>alt2 y58 (fun y59=>some (y59.1,y59.2)) (fun y60=>some (y60,true)))
def Ysr:VFn:=⟨true,49,[.t 8,.t 9],
 (Rg [o 8 (.mv (ke Zc4)),oB 9 false]
 (Rg [oM 13 3,o 14 (.mksl Zc4 0 13 13),oM 10 14]
 (Rg [oM 15 10,oM 16 0,o 17 (.cpy Zc4 15 16)]
 (.seq (Rg [oM 18 2,oN 19 18,oK 20 0]
 (.blk 0 (.loop 3 q20_L3_b)))
 (Rg [oM 48 10,oM 8 48,oB 9 true]
 (.fz [8,9] .ret))))))⟩
def YkQ(lo:Lo):FnE:=Zfe 270 true (Zsg [0,1,2,3] [.l Zc4,.l Zc4,.l (cs [I]),.j] []) (.tp [.l Zc4,.b]) [] (fun x=>q20 lo x.1 x.2.1 x.2.2.1 x.2.2.2:Zt0×Zt0× (List Int)×Int->Option (Zt0×Bool))
def fs21(lo:Lo):List FnE:=YkQ lo::fs20 lo
theorem Yss(h:GZ P fm fs20 lo)(t:Ti P fm 270 Ysr):GZ P fm fs21 lo:=
  h.p (YkQ lo) (Ysq lo) t
def q21_J9_b:VCode:=
 (.seq (Rg [oM 13 0,oR 14 .geq 13 (ki .u64 256)]
 (.cond 14 (Rg [oM 15 0,oR 16 .shr 15 (ki .u64 8),oM 0 16]
 (.reg [oM 17 2,oR 18 .add 17 (k 8),oM 2 18]))
 .skip))
 (Rg [oM 19 2,oM 20 0,o 21 (.conv .u8 20),o 22 (.idx (ks (⟨#[0,1,2,2,3,3,3,3,4,4,4,4,4,4,4,4,5,5,5,5,5,5,5,5,5,5,5,5,5,5,5,5,6,6,6,6,6,6,6,6,6,6,6,6,6,6,6,6,6,6,6,6,6,6,6,6,6,6,6,6,6,6,6,6,7,7,7,7,7,7,7,7,7,7,7,7,7,7,7,7,7,7,7,7,7,7,7,7,7,7,7,7,7,7,7,7,7,7,7,7,7,7,7,7,7,7,7,7,7,7,7,7,7,7,7,7,7,7,7,7,7,7,7,7,7,7,7,7,8,8,8,8,8,8,8,8,8,8,8,8,8,8,8,8,8,8,8,8,8,8,8,8,8,8,8,8,8,8,8,8,8,8,8,8,8,8,8,8,8,8,8,8,8,8,8,8,8,8,8,8,8,8,8,8,8,8,8,8,8,8,8,8,8,8,8,8,8,8,8,8,8,8,8,8,8,8,8,8,8,8,8,8,8,8,8,8,8,8,8,8,8,8,8,8,8,8,8,8,8,8,8,8,8,8,8,8,8,8,8,8,8,8,8,8,8,8,8,8,8,8,8,8,8,8,8,8]⟩)) 21),o 23 (.conv .i64 22),oR 24 .add 19 23,oM 2 24]
 (Fr 2)))
def YcX(lo:Lo):Int×Int->Option Int:=fun x=>match x with
  | (x0,n2)=>bif(decide (256<=x0))then(chk (0<=(8:Int)) (chk (0<=(YAM .u8 (x0.fdiv (2^(min (8:Int).toNat (IntKind.bits .u64)))))/\ (YAM .u8 (x0.fdiv (2^(min (8:Int).toNat (IntKind.bits .u64)))))< ((YAL #[0,1,2,2,3,3,3,3,4,4,4,4,4,4,4,4,5,5,5,5,5,5,5,5,5,5,5,5,5,5,5,5,6,6,6,6,6,6,6,6,6,6,6,6,6,6,6,6,6,6,6,6,6,6,6,6,6,6,6,6,6,6,6,6,7,7,7,7,7,7,7,7,7,7,7,7,7,7,7,7,7,7,7,7,7,7,7,7,7,7,7,7,7,7,7,7,7,7,7,7,7,7,7,7,7,7,7,7,7,7,7,7,7,7,7,7,7,7,7,7,7,7,7,7,7,7,7,7,8,8,8,8,8,8,8,8,8,8,8,8,8,8,8,8,8,8,8,8,8,8,8,8,8,8,8,8,8,8,8,8,8,8,8,8,8,8,8,8,8,8,8,8,8,8,8,8,8,8,8,8,8,8,8,8,8,8,8,8,8,8,8,8,8,8,8,8,8,8,8,8,8,8,8,8,8,8,8,8,8,8,8,8,8,8,8,8,8,8,8,8,8,8,8,8,8,8,8,8,8,8,8,8,8,8,8,8,8,8,8,8,8,8,8,8,8,8,8,8,8,8,8,8,8,8,8,8]).size:Int)) (some (YAM .i64 ((YAM .i64 (n2+8))+(YAM .i64 (Ywc (YAL #[0,1,2,2,3,3,3,3,4,4,4,4,4,4,4,4,5,5,5,5,5,5,5,5,5,5,5,5,5,5,5,5,6,6,6,6,6,6,6,6,6,6,6,6,6,6,6,6,6,6,6,6,6,6,6,6,6,6,6,6,6,6,6,6,7,7,7,7,7,7,7,7,7,7,7,7,7,7,7,7,7,7,7,7,7,7,7,7,7,7,7,7,7,7,7,7,7,7,7,7,7,7,7,7,7,7,7,7,7,7,7,7,7,7,7,7,7,7,7,7,7,7,7,7,7,7,7,7,8,8,8,8,8,8,8,8,8,8,8,8,8,8,8,8,8,8,8,8,8,8,8,8,8,8,8,8,8,8,8,8,8,8,8,8,8,8,8,8,8,8,8,8,8,8,8,8,8,8,8,8,8,8,8,8,8,8,8,8,8,8,8,8,8,8,8,8,8,8,8,8,8,8,8,8,8,8,8,8,8,8,8,8,8,8,8,8,8,8,8,8,8,8,8,8,8,8,8,8,8,8,8,8,8,8,8,8,8,8,8,8,8,8,8,8,8,8,8,8,8,8,8,8,8,8,8,8]) (YAM .u8 (x0.fdiv (2^(min (8:Int).toNat (IntKind.bits .u64))))))))))))else(chk (0<=(YAM .u8 x0)/\ (YAM .u8 x0)< ((YAL #[0,1,2,2,3,3,3,3,4,4,4,4,4,4,4,4,5,5,5,5,5,5,5,5,5,5,5,5,5,5,5,5,6,6,6,6,6,6,6,6,6,6,6,6,6,6,6,6,6,6,6,6,6,6,6,6,6,6,6,6,6,6,6,6,7,7,7,7,7,7,7,7,7,7,7,7,7,7,7,7,7,7,7,7,7,7,7,7,7,7,7,7,7,7,7,7,7,7,7,7,7,7,7,7,7,7,7,7,7,7,7,7,7,7,7,7,7,7,7,7,7,7,7,7,7,7,7,7,8,8,8,8,8,8,8,8,8,8,8,8,8,8,8,8,8,8,8,8,8,8,8,8,8,8,8,8,8,8,8,8,8,8,8,8,8,8,8,8,8,8,8,8,8,8,8,8,8,8,8,8,8,8,8,8,8,8,8,8,8,8,8,8,8,8,8,8,8,8,8,8,8,8,8,8,8,8,8,8,8,8,8,8,8,8,8,8,8,8,8,8,8,8,8,8,8,8,8,8,8,8,8,8,8,8,8,8,8,8,8,8,8,8,8,8,8,8,8,8,8,8,8,8,8,8,8,8]).size:Int)) (some (YAM .i64 (n2+(YAM .i64 (Ywc (YAL #[0,1,2,2,3,3,3,3,4,4,4,4,4,4,4,4,5,5,5,5,5,5,5,5,5,5,5,5,5,5,5,5,6,6,6,6,6,6,6,6,6,6,6,6,6,6,6,6,6,6,6,6,6,6,6,6,6,6,6,6,6,6,6,6,7,7,7,7,7,7,7,7,7,7,7,7,7,7,7,7,7,7,7,7,7,7,7,7,7,7,7,7,7,7,7,7,7,7,7,7,7,7,7,7,7,7,7,7,7,7,7,7,7,7,7,7,7,7,7,7,7,7,7,7,7,7,7,7,8,8,8,8,8,8,8,8,8,8,8,8,8,8,8,8,8,8,8,8,8,8,8,8,8,8,8,8,8,8,8,8,8,8,8,8,8,8,8,8,8,8,8,8,8,8,8,8,8,8,8,8,8,8,8,8,8,8,8,8,8,8,8,8,8,8,8,8,8,8,8,8,8,8,8,8,8,8,8,8,8,8,8,8,8,8,8,8,8,8,8,8,8,8,8,8,8,8,8,8,8,8,8,8,8,8,8,8,8,8,8,8,8,8,8,8,8,8,8,8,8,8,8,8,8,8,8,8]) (YAM .u8 x0)))))))
def Yst(lo:Lo):LpE:=⟨9,[],(Zsg [0,2] [.i .u64,.j] []),[⟨.ret,(Zsg [2] [.j] [])⟩],YcX lo⟩
def Ysu(lo:Lo):LL:=(Yst lo,q21_J9_b.er)::[]
theorem Ysv(lo:Lo):Lk lo pf (fs21 lo) 0 (Ysu lo):=.j .n
def q21(lo:Lo)(x0:Int):Option Int:=
  bif(decide (4294967296<=x0))then(chk (0<=(32:Int)) (bif(decide ((65536:Int)<=(x0.fdiv (2^(min (32:Int).toNat (IntKind.bits .u64))))))then(chk (0<=(16:Int)) (YAr (YcX lo (((x0.fdiv (2^(min (32:Int).toNat (IntKind.bits .u64)))).fdiv (2^(min (16:Int).toNat (IntKind.bits .u64)))),(YAM .i64 ((32:Int)+(16:Int))))) fun y93=>some y93))else(YAr (YcX lo ((x0.fdiv (2^(min (32:Int).toNat (IntKind.bits .u64)))),(32:Int))) fun y94=>some y94)))else(bif(decide (65536<=x0))then(chk (0<=(16:Int)) (YAr (YcX lo ((x0.fdiv (2^(min (16:Int).toNat (IntKind.bits .u64)))),(YAM .i64 ((0:Int)+(16:Int))))) fun y95=>some y95))else(YAr (YcX lo (x0,(0:Int))) fun y96=>some y96))
def Ysw:VFn:=⟨true,25,[.t 2],
 (Rg [oK 2 0]
 (.seq (Rg [oM 3 0,oR 4 .geq 3 (ki .u64 4294967296)]
 (.cond 4 (Rg [oM 5 0,oR 6 .shr 5 (ki .u64 32),oM 0 6]
 (.reg [oK 2 32]))
 .skip))
 (.seq (Rg [oM 7 0,oR 8 .geq 7 (ki .u64 65536)]
 (.cond 8 (Rg [oM 9 0,oR 10 .shr 9 (ki .u64 16),oM 0 10]
 (.reg [oM 11 2,oR 12 .add 11 (k 16),oM 2 12]))
 .skip))
 (.jn 9 q21_J9_b))))⟩
def YkR(lo:Lo):FnE:=Zfe 187 true (Zsg [0] [.i .u64] []) (.i .i64) [] (fun x=>q21 lo x:Int->Option Int)
def fs22(lo:Lo):List FnE:=YkR lo::fs21 lo
theorem Ysx(h:GZ P fm fs21 lo)(t:Ti P fm 187 Ysw):GZ P fm fs22 lo:=
  h.p (YkR lo) (Ysv lo) t
def q22(lo:Lo)(x0:Int):Option Int:=
  YAr (q21 lo x0) fun y97=>some y97
def Ysy:VFn:=⟨true,8,[.t 2],
 (Rg [oK 2 0]
 (.seq (.cond (kb false) (Rg [oM 3 0,o 4 (.conv .u32 3),oC 5 186 [4],oM 2 5]
 (Fr 2))
 .skip)
 (Rg [oM 6 0,oC 7 187 [6],oM 2 7]
 (Fr 2))))⟩
def YkS(lo:Lo):FnE:=Zfe 163 true (Zsg [0] [.i .u64] []) (.i .i64) [] (fun x=>q22 lo x:Int->Option Int)
def fs23(lo:Lo):List FnE:=YkS lo::fs22 lo
theorem Ysz(h:GZ P fm fs22 lo)(t:Ti P fm 163 Ysy):GZ P fm fs23 lo:=
  h.p (YkS lo) .n t
def q23(lo:Lo)(x0:ByteArray):Option Bool:=
  some (!decide (x0=x0))
def YsA:VFn:=⟨true,6,[.t 2],
 (Rg [oB 2 false]
 (Rg [oM 3 0,oM 4 0,oR 5 .neq 3 4,oM 2 5]
 (Fr 2)))⟩
def YkT(lo:Lo):FnE:=Zfe 325 true (Zsg [0] [.s] []) .b [] (fun x=>q23 lo x:ByteArray->Option Bool)
def fs24(lo:Lo):List FnE:=YkT lo::fs23 lo
theorem YsB(h:GZ P fm fs23 lo)(t:Ti P fm 325 YsA):GZ P fm fs24 lo:=
  h.p (YkT lo) .n t
def q24(lo:Lo)(x0:ByteArray)(y1:ByteArray):Option Bool:=
  YAr (q23 lo x0) fun y99=>bif y99 then(YAr (q23 lo y1) fun y100=>bif(!y100)then(some true)else(some (Op.bytesLess x0.toList y1.toList)))else(some (Op.bytesLess x0.toList y1.toList))
def YsC:VFn:=⟨true,17,[.t 4],
 (Rg [oB 4 false]
 (Rg [oM 5 0,oC 6 325 [5],oM 7 6,gT 8 7 (.mv 1),gT 9 7 (.call 325 [8]),gT 10 7 (.not 9),oP 11 7 10 (kb false),oM 12 11,gF 13 12 (.mv 0),gF 14 12 (.mv 1),gF 15 12 (.bin .lss 13 14),oP 16 12 (kb true) 15,oM 4 16]
 (Fr 4)))⟩
def YkU(lo:Lo):FnE:=Zfe 317 true (Zsg [0,1] [.s,.s] []) .b [] (fun x=>q24 lo x.1 x.2:ByteArray×ByteArray->Option Bool)
def fs25(lo:Lo):List FnE:=YkU lo::fs24 lo
theorem YsD(h:GZ P fm fs24 lo)(t:Ti P fm 317 YsC):GZ P fm fs25 lo:=
  h.p (YkU lo) .n t
def q25_L3_b:VCode:=
 (.seq (Rg [oM 16 7,oM 17 1,oR 18 .gtr 16 17,oM 19 18,gT 20 19 (.mv 0),gT 21 19 (.mv 7),gT 22 19 (.iad 1 20 21),gT 23 19 (.load false 1 22),gT 24 19 (.mv 0),gT 25 19 (.mv 7),gT 26 19 (.bin .sub 25 (k 1)),gT 27 19 (.iad 1 24 26),gT 28 19 (.load false 1 27),gT 29 19 (.call 317 [23,28]),oP 30 19 29 (kb false)]
 (Ce 30 2))
 (.seq (.blk 3 (.reg [oM 33 0,oM 34 7,oM 35 0,oM 36 7,oR 37 .sub 36 (k 1),oM 38 0,oM 39 7,oR 40 .sub 39 (k 1),oI 41 1 38 40,oL 42 41,oM 43 0,oM 44 7,oI 45 1 43 44,oL 46 45,oI 47 1 33 34,oS 1 47 42,oI 48 1 35 37,oS 1 48 46]))
 (.reg [oM 31 7,oR 32 .sub 31 (k 1),oM 7 32])))
def YkV(lo:Lo):Int×Int×Int×Int×Zt1->Option ((Int×Int×Int×Int×Zt1)⊕ ((Int×Int×Int×Zt1))):=fun x=>match x with
  | (a1,b2,i6,j7,data0)=>bif(decide (a1<j7))then(chk (0<=j7/\j7< (data0.length:Int)) (chk (0<=(YAM .i64 (j7-1))/\ (YAM .i64 (j7-1))< (data0.length:Int)) (YAr (q24 lo (data0.getD j7.toNat (YAL #[])) (data0.getD ((YAM .i64 (j7-1)).toNat) (YAL #[]))) fun y101=>bif y101 then(chk (0<=(YAM .i64 (j7-1))/\ (YAM .i64 (j7-1))< (data0.length:Int)) (chk (0<=j7/\j7< (data0.length:Int)) (chk (0<=j7/\j7< (data0.length:Int)) (chk (0<=(YAM .i64 (j7-1))/\ (YAM .i64 (j7-1))< ((data0.set j7.toNat (data0.getD ((YAM .i64 (j7-1)).toNat) (YAL #[]))).length:Int)) (some (.inl (a1,b2,i6,(YAM .i64 (j7-1)),((data0.set j7.toNat (data0.getD ((YAM .i64 (j7-1)).toNat) (YAL #[]))).set ((YAM .i64 (j7-1)).toNat) (data0.getD j7.toNat (YAL #[]))))))))))else(some (.inr (a1,b2,i6,data0))))))else(some (.inr (a1,b2,i6,data0)))
def YkW(lo:Lo):Int×Int×Int×Int×Zt1->Option ((Int×Int×Int×Zt1)):=lo.run (YkV lo)
def YsE(lo:Lo):LpE:=⟨3,[],(Zsg [0,1,2,6,7] [.ref 0,.j,.j,.j,.j] [.sq (cs [.s])]),[⟨.exit 2,(Zsg [0,1,2,6] [.ref 0,.j,.j,.j] [.sq (cs [.s])])⟩],YkW lo⟩
def YkX(lo:Lo):LL:=(YsE lo,.loop q25_L3_b.er)::[]
theorem YsF(lo:Lo):Lk lo pf (fs25 lo) 1 (YkX lo):=.l .n (YkV lo)
def q25_L1_b:VCode:=
 (.seq (Rg [oM 10 6,oM 11 2,oR 12 .lss 10 11]
 (Ce 12 0))
 (.seq (.blk 1 (Rg [oM 15 6,oM 7 15]
 (.blk 2 (.loop 3 q25_L3_b))))
 (.reg [oM 13 6,oR 14 .add 13 (k 1),oM 6 14])))
def YkY(lo:Lo):Int×Int×Int×Zt1->Option ((Int×Int×Int×Zt1)⊕ ((Zt1))):=fun x=>match x with
  | (a1,b2,i6,data0)=>bif(decide (i6<b2))then(YAr (YkW lo (a1,b2,i6,i6,data0)) fun y102=>some (.inl (y102.1,y102.2.1,(YAM .i64 (y102.2.2.1+(1:Int))),y102.2.2.2)))else(some (.inr data0))
def YkZ(lo:Lo):Int×Int×Int×Zt1->Option ((Zt1)):=lo.run (YkY lo)
def YsG(lo:Lo):LpE:=⟨1,[],(Zsg [0,1,2,6] [.ref 0,.j,.j,.j] [.sq (cs [.s])]),[⟨.exit 0,(Zsg [] [] [.sq (cs [.s])])⟩],YkZ lo⟩
def YsH(lo:Lo):LL:=(YsG lo,.loop q25_L1_b.er)::YkX lo
theorem YsI(lo:Lo):Lk lo pf (fs25 lo) 1 (YsH lo):=.l (YsF lo) (YkY lo)
def q25(lo:Lo)(a1:Int)(b2:Int)(data0:List ByteArray):Option (Zt1):=
  YAr (YkZ lo (a1,b2,(YAM .i64 (a1+1)),data0)) fun y103=>some y103
def YsJ:VFn:=⟨true,49,[],
 (Rg [oM 8 1,oR 9 .add 8 (k 1),oM 6 9]
 (.blk 0 (.loop 1 q25_L1_b)))⟩
def Yk0(lo:Lo):FnE:=Zfe 311 false (Zsg [0,1,2] [.ref 0,.j,.j] [.sq (cs [.s])]) (.tp []) [.sq (cs [.s])] (fun x=>q25 lo x.1 x.2.1 x.2.2:Int×Int×Zt1->Option (Zt1))
def fs26(lo:Lo):List FnE:=Yk0 lo::fs25 lo
theorem YsK(h:GZ P fm fs25 lo)(t:Ti P fm 311 YsJ):GZ P fm fs26 lo:=
  h.i (Yk0 lo) (YsI lo) t
def q26(lo:Lo)(x0:Int)(x1:Int)(x2:List ByteArray):Option (Zt1):=none
def Yk1(lo:Lo):FnE:=Zfe 312 false (Zsg [0,1,2] [.ref 0,.j,.j] [.sq (cs [.s])]) (.tp []) [.sq (cs [.s])] (fun x=>q26 lo x.1 x.2.1 x.2.2:Int×Int×Zt1->Option (Zt1))
def fs27(lo:Lo):List FnE:=Yk1 lo::fs26 lo
theorem YsL(h:GZ P fm fs26 lo)(hN:True):GZ P fm fs27 lo:=
  ⟨h.1,h.2,YbT h.S (Yk1 lo) (fun _=>rfl)⟩
def q27(lo:Lo)(x0:Int)(x1:Int)(x2:List ByteArray):Option (Zt1):=none
def Yk2(lo:Lo):FnE:=Zfe 313 false (Zsg [0,1,2] [.ref 0,.j,.j] [.sq (cs [.s])]) (.tp []) [.sq (cs [.s])] (fun x=>q27 lo x.1 x.2.1 x.2.2:Int×Int×Zt1->Option (Zt1))
def fs28(lo:Lo):List FnE:=Yk2 lo::fs27 lo
theorem YsM(h:GZ P fm fs27 lo)(hN:True):GZ P fm fs28 lo:=
  ⟨h.1,h.2,YbT h.S (Yk2 lo) (fun _=>rfl)⟩
def q28(lo:Lo)(x0:List ByteArray)(x1:Int)(x2:Int):Option (Int×Int):=none
def Yk3(lo:Lo):FnE:=Zfe 314 true (Zsg [0,1,2] [.l (cs [.s]),.j,.j] []) (.tp [.j,.j]) [] (fun x=>q28 lo x.1 x.2.1 x.2.2:Zt1×Int×Int->Option (Int×Int))
def fs29(lo:Lo):List FnE:=Yk3 lo::fs28 lo
theorem YsN(h:GZ P fm fs28 lo)(hN:True):GZ P fm fs29 lo:=
  ⟨h.1,h.2,YbT h.S (Yk3 lo) (fun _=>rfl)⟩
def q29(lo:Lo)(x0:Int)(x1:Int)(x2:List ByteArray):Option (Zt1):=none
def Yk4(lo:Lo):FnE:=Zfe 315 false (Zsg [0,1,2] [.ref 0,.j,.j] [.sq (cs [.s])]) (.tp []) [.sq (cs [.s])] (fun x=>q29 lo x.1 x.2.1 x.2.2:Int×Int×Zt1->Option (Zt1))
def fs30(lo:Lo):List FnE:=Yk4 lo::fs29 lo
theorem YsO(h:GZ P fm fs29 lo)(hN:True):GZ P fm fs30 lo:=
  ⟨h.1,h.2,YbT h.S (Yk4 lo) (fun _=>rfl)⟩
def q30(lo:Lo)(x0:Int)(x1:Int)(x2:List ByteArray):Option (Bool×Zt1):=none
def Yk5(lo:Lo):FnE:=Zfe 316 false (Zsg [0,1,2] [.ref 0,.j,.j] [.sq (cs [.s])]) .b [.sq (cs [.s])] (fun x=>q30 lo x.1 x.2.1 x.2.2:Int×Int×Zt1->Option (Bool×Zt1))
def fs31(lo:Lo):List FnE:=Yk5 lo::fs30 lo
theorem YsP(h:GZ P fm fs30 lo)(hN:True):GZ P fm fs31 lo:=
  ⟨h.1,h.2,YbT h.S (Yk5 lo) (fun _=>rfl)⟩
def q31(lo:Lo)(x0:Int)(x1:Int)(x2:Int)(x3:List ByteArray):Option (Int×Zt1):=none
def Yk6(lo:Lo):FnE:=Zfe 318 false (Zsg [0,1,2,3] [.ref 0,.j,.j,.j] [.sq (cs [.s])]) (.i .i64) [.sq (cs [.s])] (fun x=>q31 lo x.1 x.2.1 x.2.2.1 x.2.2.2:Int×Int×Int×Zt1->Option (Int×Zt1))
def fs32(lo:Lo):List FnE:=Yk6 lo::fs31 lo
theorem YsQ(h:GZ P fm fs31 lo)(hN:True):GZ P fm fs32 lo:=
  ⟨h.1,h.2,YbT h.S (Yk6 lo) (fun _=>rfl)⟩
def q32(lo:Lo)(x0:Int)(x1:Int)(x2:Int)(x3:List ByteArray):Option (Int×Bool×Zt1):=none
def Yk7(lo:Lo):FnE:=Zfe 319 false (Zsg [0,1,2,3] [.ref 0,.j,.j,.j] [.sq (cs [.s])]) (.tp [.j,.b]) [.sq (cs [.s])] (fun x=>q32 lo x.1 x.2.1 x.2.2.1 x.2.2.2:Int×Int×Int×Zt1->Option (Int×Bool×Zt1))
def fs33(lo:Lo):List FnE:=Yk7 lo::fs32 lo
theorem YsR(h:GZ P fm fs32 lo)(hN:True):GZ P fm fs33 lo:=
  ⟨h.1,h.2,YbT h.S (Yk7 lo) (fun _=>rfl)⟩
end Go.Abs.G3c
namespace Go.Abs.G3c
open Go Go.Abs
set_option maxRecDepth 100000
set_option maxHeartbeats 1000000
variable{P:Program}{fm:FM}{lo:Lo}
def YcY(F:Int×Int×Int×Zt1->Option (Zt1)):FnE:=⟨301,false,(Zsg [0,1,2,3] [.ref 0,.j,.j,.j] [.sq (cs [.s])]),.tp [],[.sq (cs [.s])],(cs [.l (cs [.s])]),F⟩
def q33_J20_b:VCode:=
 (.seq (Rg [oM 73 1,oR 74 .gtr 73 (k 0),oM 75 74,gT 76 75 (.mv 0),gT 77 75 (.mv 1),gT 78 75 (.bin .sub 77 (k 1)),gT 79 75 (.iad 1 76 78),gT 80 75 (.load false 1 79),gT 81 75 (.mv 0),gT 82 75 (.mv 11),gT 83 75 (.iad 1 81 82),gT 84 75 (.load false 1 83),gT 85 75 (.call 317 [80,84]),gT 86 75 (.not 85),oP 87 75 86 (kb false)]
 (.cond 87 (Rg [oM 88 0,oM 89 1,oM 90 2,oM 91 11,oC 92 318 [88,89,90,91],oM 13 92]
 (Rg [oM 93 13,oM 1 93]
 (.exit 1)))
 .skip))
 (Rg [oM 95 0,oM 96 1,oM 97 2,oM 98 11,oC 99 319 [95,96,97,98],oM 94 99,oE 100 94 0,oE 101 94 1,oM 14 100,oM 15 101]
 (Rg [oM 102 15,oM 9 102]
 (Rg [oM 103 14,oM 104 1,oR 105 .sub 103 104,oM 106 2,oM 107 14,oR 108 .sub 106 107,oM 16 105,oM 17 108]
 (Rg [oM 109 10,oR 110 .quo 109 (k 8),oM 18 110]
 (Rg [oM 111 16,oM 112 17,oR 113 .lss 111 112]
 (.cond 113 (Rg [oM 114 16,oM 115 18,oR 116 .geq 114 115,oM 8 116]
 (Rg [oM 117 0,oM 118 1,oM 119 14,oM 120 3,oC 121 301 [117,118,119,120]]
 (.reg [oM 122 14,oR 123 .add 122 (k 1),oM 1 123])))
 (Rg [oM 124 17,oM 125 18,oR 126 .geq 124 125,oM 8 126]
 (Rg [oM 127 0,oM 128 14,oR 129 .add 128 (k 1),oM 130 2,oM 131 3,oC 132 301 [127,129,130,131]]
 (.reg [oM 133 14,oM 2 133]))))))))))
def YcZ(lo:Lo)(rec:Int×Int×Int×Zt1->Option (Zt1)):Int×Int×Int×Bool×Bool×Int×Int×Zt1->Option (Zp25⊕Zp25):=fun x=>match x with
  | (a1,b2,limit3,wasBalanced8,wasPartitioned9,length10,pivot11,data0)=>bif(decide (0<a1))then(chk (0<=(YAM .i64 (a1-1))/\ (YAM .i64 (a1-1))< (data0.length:Int)) (chk (0<=pivot11/\pivot11< (data0.length:Int)) (YAr (q24 lo (data0.getD ((YAM .i64 (a1-1)).toNat) (YAL #[])) (data0.getD pivot11.toNat (YAL #[]))) fun y110=>bif(!y110)then(YAr (q31 lo a1 b2 pivot11 data0) fun y111=>chk (y111.2.length=data0.length) (some (.inl (y111.1,b2,limit3,wasBalanced8,wasPartitioned9,y111.2))))else(YAr (q32 lo a1 b2 pivot11 data0) fun y112=>chk (y112.2.2.length=data0.length) (chk ((8:Int)≠0) (bif(decide ((YAM .i64 (y112.1-a1))< (YAM .i64 (b2-y112.1))))then(YAr (rec (a1,y112.1,limit3,y112.2.2)) fun y113=>chk (y113.length=y112.2.2.length) (some (.inr ((YAM .i64 (y112.1+(1:Int))),b2,limit3,(decide ((YAM .i64 (length10.tdiv (8:Int)))<=(YAM .i64 (y112.1-a1)))),y112.2.1,y113))))else(YAr (rec ((YAM .i64 (y112.1+(1:Int))),b2,limit3,y112.2.2)) fun y114=>chk (y114.length=y112.2.2.length) (some (.inr (a1,y112.1,limit3,(decide ((YAM .i64 (length10.tdiv (8:Int)))<=(YAM .i64 (b2-y112.1)))),y112.2.1,y114))))))))))else(YAr (q32 lo a1 b2 pivot11 data0) fun y115=>chk (y115.2.2.length=data0.length) (chk ((8:Int)≠0) (bif(decide ((YAM .i64 (y115.1-a1))< (YAM .i64 (b2-y115.1))))then(YAr (rec (a1,y115.1,limit3,y115.2.2)) fun y116=>chk (y116.length=y115.2.2.length) (some (.inr ((YAM .i64 (y115.1+(1:Int))),b2,limit3,(decide ((YAM .i64 (length10.tdiv (8:Int)))<=(YAM .i64 (y115.1-a1)))),y115.2.1,y116))))else(YAr (rec ((YAM .i64 (y115.1+(1:Int))),b2,limit3,y115.2.2)) fun y117=>chk (y117.length=y115.2.2.length) (some (.inr (a1,y115.1,limit3,(decide ((YAM .i64 (length10.tdiv (8:Int)))<=(YAM .i64 (b2-y115.1)))),y115.2.1,y117)))))))
def YsS(lo:Lo)(rec:Int×Int×Int×Zt1->Option (Zt1)):LpE:=⟨20,[],(Zsg [0,1,2,3,8,9,10,11] [.ref 0,.j,.j,.j,.b,.b,.j,.j] [.sq (cs [.s])]),[⟨.exit 1,(Zsg [0,1,2,3,8,9] [.ref 0,.j,.j,.j,.b,.b] [.sq (cs [.s])])⟩,⟨.nor,(Zsg [0,1,2,3,8,9] [.ref 0,.j,.j,.j,.b,.b] [.sq (cs [.s])])⟩],YcZ lo rec⟩
def Yk8(lo:Lo)(rec:Int×Int×Int×Zt1->Option (Zt1)):LL:=(YsS lo rec,q33_J20_b.er)::[]
theorem YsT(lo:Lo)(rec:Int×Int×Int×Zt1->Option (Zt1)):Lk lo pf (YcY rec::fs33 lo) 1 (Yk8 lo rec):=.j .n
def q33_J25_b:VCode:=
 (.seq (Rg [oM 61 8,oM 62 61,gT 63 62 (.mv 9),oP 64 62 63 (kb false),oM 65 64,gT 66 65 (.mv 12),gT 67 65 (.bin .eql 66 (k 1)),oP 68 65 67 (kb false)]
 (.cond 68 (Rg [oM 69 0,oM 70 1,oM 71 2,oC 72 316 [69,70,71]]
 (.cond 72 .ret
 .skip))
 .skip))
 (.jn 20 q33_J20_b))
def Yf4(lo:Lo)(rec:Int×Int×Int×Zt1->Option (Zt1)):Int×Int×Int×Bool×Bool×Int×Int×Int×Zt1->Option ((Zt1)⊕Zp25⊕Zp25):=fun x=>match x with
  | (a1,b2,limit3,wasBalanced8,wasPartitioned9,length10,pivot11,hint12,data0)=>bif wasBalanced8 then(bif wasPartitioned9 then(bif(decide (hint12=1))then(YAr (q30 lo a1 b2 data0) fun y109=>chk (y109.2.length=data0.length) (bif y109.1 then(some (.inl y109.2))else(YAr (YcZ lo rec (a1,b2,limit3,wasBalanced8,wasPartitioned9,length10,pivot11,y109.2)) fun y118=>alt2 y118 (fun y119=>some (.inr (.inl (y119.1,y119.2.1,y119.2.2.1,y119.2.2.2.1,y119.2.2.2.2.1,y119.2.2.2.2.2)))) (fun y120=>some (.inr (.inr (y120.1,y120.2.1,y120.2.2.1,y120.2.2.2.1,y120.2.2.2.2.1,y120.2.2.2.2.2)))))))else(YAr (YcZ lo rec (a1,b2,limit3,wasBalanced8,wasPartitioned9,length10,pivot11,data0)) fun y121=>alt2 y121 (fun y122=>some (.inr (.inl (y122.1,y122.2.1,y122.2.2.1,y122.2.2.2.1,y122.2.2.2.2.1,y122.2.2.2.2.2)))) (fun y123=>some (.inr (.inr (y123.1,y123.2.1,y123.2.2.1,y123.2.2.2.1,y123.2.2.2.2.1,y123.2.2.2.2.2))))))else(YAr (YcZ lo rec (a1,b2,limit3,wasBalanced8,wasPartitioned9,length10,pivot11,data0)) fun y124=>alt2 y124 (fun y125=>some (.inr (.inl (y125.1,y125.2.1,y125.2.2.1,y125.2.2.2.1,y125.2.2.2.2.1,y125.2.2.2.2.2)))) (fun y126=>some (.inr (.inr (y126.1,y126.2.1,y126.2.2.1,y126.2.2.2.1,y126.2.2.2.2.1,y126.2.2.2.2.2))))))else(YAr (YcZ lo rec (a1,b2,limit3,wasBalanced8,wasPartitioned9,length10,pivot11,data0)) fun y127=>alt2 y127 (fun y128=>some (.inr (.inl (y128.1,y128.2.1,y128.2.2.1,y128.2.2.2.1,y128.2.2.2.2.1,y128.2.2.2.2.2)))) (fun y129=>some (.inr (.inr (y129.1,y129.2.1,y129.2.2.1,y129.2.2.2.1,y129.2.2.2.2.1,y129.2.2.2.2.2)))))
def YsU(lo:Lo)(rec:Int×Int×Int×Zt1->Option (Zt1)):LpE:=⟨25,[],(Zsg [0,1,2,3,8,9,10,11,12] [.ref 0,.j,.j,.j,.b,.b,.j,.j,.j] [.sq (cs [.s])]),[⟨.ret,(Zsg [] [] [.sq (cs [.s])])⟩,⟨.exit 1,(Zsg [0,1,2,3,8,9] [.ref 0,.j,.j,.j,.b,.b] [.sq (cs [.s])])⟩,⟨.nor,(Zsg [0,1,2,3,8,9] [.ref 0,.j,.j,.j,.b,.b] [.sq (cs [.s])])⟩],Yf4 lo rec⟩
def Yk9(lo:Lo)(rec:Int×Int×Int×Zt1->Option (Zt1)):LL:=(YsU lo rec,q33_J25_b.er)::Yk8 lo rec
theorem YsV(lo:Lo)(rec:Int×Int×Int×Zt1->Option (Zt1)):Lk lo pf (YcY rec::fs33 lo) 1 (Yk9 lo rec):=.j (YsT lo rec)
def q33_J30_b:VCode:=
 (Rg [oM 43 0,oM 44 1,oM 45 2,oC 46 314 [43,44,45],oM 42 46,oE 47 42 0,oE 48 42 1,oM 11 47,oM 12 48]
 (.seq (Rg [oM 49 12,oR 50 .eql 49 (k 2)]
 (.cond 50 (Rg [oM 51 0,oM 52 1,oM 53 2,oC 54 315 [51,52,53]]
 (Rg [oM 55 2,oR 56 .sub 55 (k 1),oM 57 11,oM 58 1,oR 59 .sub 57 58,oR 60 .sub 56 59,oM 11 60]
 (.reg [oK 12 1])))
 .skip))
 (.jn 25 q33_J25_b)))
def Yf5(lo:Lo)(rec:Int×Int×Int×Zt1->Option (Zt1)):Int×Int×Int×Bool×Bool×Int×Zt1->Option ((Zt1)⊕Zp25⊕Zp25):=fun x=>match x with
  | (a1,b2,limit3,wasBalanced8,wasPartitioned9,length10,data0)=>YAr (q28 lo data0 a1 b2) fun y107=>bif(decide (y107.2=(2:Int)))then(YAr (q29 lo a1 b2 data0) fun y108=>chk (y108.length=data0.length) (YAr (Yf4 lo rec (a1,b2,limit3,wasBalanced8,wasPartitioned9,length10,(YAM .i64 ((YAM .i64 (b2-1))-(YAM .i64 (y107.1-a1)))),(1:Int),y108)) fun y130=>alt2 y130 (fun y131=>some (.inl y131)) (fun y132=>alt2 y132 (fun y133=>some (.inr (.inl (y133.1,y133.2.1,y133.2.2.1,y133.2.2.2.1,y133.2.2.2.2.1,y133.2.2.2.2.2)))) (fun y134=>some (.inr (.inr (y134.1,y134.2.1,y134.2.2.1,y134.2.2.2.1,y134.2.2.2.2.1,y134.2.2.2.2.2)))))))else(YAr (Yf4 lo rec (a1,b2,limit3,wasBalanced8,wasPartitioned9,length10,y107.1,y107.2,data0)) fun y135=>alt2 y135 (fun y136=>some (.inl y136)) (fun y137=>alt2 y137 (fun y138=>some (.inr (.inl (y138.1,y138.2.1,y138.2.2.1,y138.2.2.2.1,y138.2.2.2.2.1,y138.2.2.2.2.2)))) (fun y139=>some (.inr (.inr (y139.1,y139.2.1,y139.2.2.1,y139.2.2.2.1,y139.2.2.2.2.1,y139.2.2.2.2.2))))))
def YsW(lo:Lo)(rec:Int×Int×Int×Zt1->Option (Zt1)):LpE:=⟨30,[],(Zsg [0,1,2,3,8,9,10] [.ref 0,.j,.j,.j,.b,.b,.j] [.sq (cs [.s])]),[⟨.ret,(Zsg [] [] [.sq (cs [.s])])⟩,⟨.exit 1,(Zsg [0,1,2,3,8,9] [.ref 0,.j,.j,.j,.b,.b] [.sq (cs [.s])])⟩,⟨.nor,(Zsg [0,1,2,3,8,9] [.ref 0,.j,.j,.j,.b,.b] [.sq (cs [.s])])⟩],Yf5 lo rec⟩
def Yla(lo:Lo)(rec:Int×Int×Int×Zt1->Option (Zt1)):LL:=(YsW lo rec,q33_J30_b.er)::Yk9 lo rec
theorem YsX(lo:Lo)(rec:Int×Int×Int×Zt1->Option (Zt1)):Lk lo pf (YcY rec::fs33 lo) 1 (Yla lo rec):=.j (YsV lo rec)
def q33_L1_b:VCode:=
 (.blk 1 (Rg [oM 19 2,oM 20 1,oR 21 .sub 19 20,oM 10 21]
 (.seq (Rg [oM 22 10,oR 23 .leq 22 (k 12)]
 (.cond 23 (Rg [oM 24 0,oM 25 1,oM 26 2,oC 27 311 [24,25,26]]
 .ret)
 .skip))
 (.seq (Rg [oM 28 3,oR 29 .eql 28 (k 0)]
 (.cond 29 (Rg [oM 30 0,oM 31 1,oM 32 2,oC 33 312 [30,31,32]]
 .ret)
 .skip))
 (.seq (Rg [oM 34 8,oX 35 34]
 (.cond 35 (Rg [oM 36 0,oM 37 1,oM 38 2,oC 39 313 [36,37,38]]
 (.reg [oM 40 3,oR 41 .sub 40 (k 1),oM 3 41]))
 .skip))
 (.jn 30 q33_J30_b))))))
def Ylb(lo:Lo)(rec:Int×Int×Int×Zt1->Option (Zt1)):Zp25->Option (Zp25⊕ ((Zt1))):=fun x=>match x with
  | (a1,b2,limit3,wasBalanced8,wasPartitioned9,data0)=>bif(decide ((YAM .i64 (b2-a1))<=(12:Int)))then(YAr (q25 lo a1 b2 data0) fun y104=>chk (y104.length=data0.length) (some (.inr y104)))else(bif(decide (limit3=0))then(YAr (q26 lo a1 b2 data0) fun y105=>chk (y105.length=data0.length) (some (.inr y105)))else(bif(!wasBalanced8)then(YAr (q27 lo a1 b2 data0) fun y106=>chk (y106.length=data0.length) (YAr (Yf5 lo rec (a1,b2,(YAM .i64 (limit3-1)),wasBalanced8,wasPartitioned9,(YAM .i64 (b2-a1)),y106)) fun y140=>alt2 y140 (fun y141=>some (.inr y141)) (fun y142=>alt2 y142 (fun y143=>some (.inl (y143.1,y143.2.1,y143.2.2.1,y143.2.2.2.1,y143.2.2.2.2.1,y143.2.2.2.2.2))) (fun y144=>some (.inl (y144.1,y144.2.1,y144.2.2.1,y144.2.2.2.1,y144.2.2.2.2.1,y144.2.2.2.2.2))))))else(YAr (Yf5 lo rec (a1,b2,limit3,wasBalanced8,wasPartitioned9,(YAM .i64 (b2-a1)),data0)) fun y145=>alt2 y145 (fun y146=>some (.inr y146)) (fun y147=>alt2 y147 (fun y148=>some (.inl (y148.1,y148.2.1,y148.2.2.1,y148.2.2.2.1,y148.2.2.2.2.1,y148.2.2.2.2.2))) (fun y149=>some (.inl (y149.1,y149.2.1,y149.2.2.1,y149.2.2.2.1,y149.2.2.2.2.1,y149.2.2.2.2.2)))))))
def Ylc(lo:Lo)(rec:Int×Int×Int×Zt1->Option (Zt1)):Zp25->Option ((Zt1)):=lo.run (Ylb lo rec)
def YsY(lo:Lo)(rec:Int×Int×Int×Zt1->Option (Zt1)):LpE:=⟨1,[],(Zsg [0,1,2,3,8,9] [.ref 0,.j,.j,.j,.b,.b] [.sq (cs [.s])]),[⟨.ret,(Zsg [] [] [.sq (cs [.s])])⟩],Ylc lo rec⟩
def Yld(lo:Lo)(rec:Int×Int×Int×Zt1->Option (Zt1)):LL:=(YsY lo rec,.loop q33_L1_b.er)::Yla lo rec
theorem YsZ(lo:Lo)(rec:Int×Int×Int×Zt1->Option (Zt1)):Lk lo pf (YcY rec::fs33 lo) 1 (Yld lo rec):=.l (YsX lo rec) (Ylb lo rec)
def Ys0(lo:Lo)(rec:Int×Int×Int×Zt1->Option (Zt1))(a1:Int)(b2:Int)(limit3:Int)(data0:List ByteArray):Option (Zt1):=
  YAr (Ylc lo rec (a1,b2,limit3,true,true,data0)) fun y150=>some y150
def Yf6(lo:Lo):Nat->Int×Int×Int×Zt1->Option (Zt1)
  |0,_=>none
  |n+1,x=>Ys0 lo (Yf6 lo n) x.1 x.2.1 x.2.2.1 x.2.2.2
def q33(lo:Lo)(a1:Int)(b2:Int)(limit3:Int)(data0:List ByteArray):Option (Zt1):=lo.run (fixS (Yf6 lo)) (0,(a1,b2,limit3,data0))
def Ys1:VFn:=⟨true,134,[],
 (Rg [oB 8 true]
 (Rg [oB 9 true]
 (.blk 0 (.loop 1 q33_L1_b))))⟩
def Yle(lo:Lo):FnE:=YcY (fun x=>q33 lo x.1 x.2.1 x.2.2.1 x.2.2.2)
def fs34(lo:Lo):List FnE:=Yle lo::fs33 lo
theorem Ys2(h:GZ P fm fs33 lo)(t:Ti P fm 301 Ys1):GZ P fm fs34 lo:=
  h.ir (Yle lo) (Yf6 lo) (ls:=fun rec=>Yld lo rec) (fun rec=>(YsZ lo rec)) t (by kernel_rfl) (fun _=>rfl) rfl (fun _=>by kernel_rfl) fun n x=>by kernel_rfl
def q34(lo:Lo)(x0:List ByteArray):Option (Zt1):=
  YAr (q22 lo (YAM .u64 (x0.length:Int))) fun y98=>YAr (q33 lo (0:Int) (x0.length:Int) y98 x0) fun y151=>chk (y151.length=x0.length) (some y151)
def Ys3:VFn:=⟨true,11,[],
 (Rg [oM 3 0,oN 4 3,oM 2 4]
 (.reg [oM 5 0,oM 6 2,oM 7 2,o 8 (.conv .u64 7),oC 9 163 [8],oC 10 301 [5,(k 0),6,9]]))⟩
def Ylf(lo:Lo):FnE:=Zfe 271 false (Zsg [0] [.ref 0] [.sq (cs [.s])]) (.tp []) [.sq (cs [.s])] (fun x=>q34 lo x:Zt1->Option (Zt1))
def fs35(lo:Lo):List FnE:=Ylf lo::fs34 lo
theorem Ys4(h:GZ P fm fs34 lo)(t:Ti P fm 271 Ys3):GZ P fm fs35 lo:=
  h.i (Ylf lo) .n t
def q35(lo:Lo)(l:List ByteArray):Option Zt1:=Yx7 (q34 lo) l
def Ys5(lo:Lo):FnE:=vsortE 271 (.cons (.s) .nil) (q35 lo)
def fs36(lo:Lo):List FnE:=Ys5 lo::fs35 lo
theorem Ys6(h:GZ P fm fs35 lo)(hG: ∀f,fm f=271->Ywa P f=true/\ ∃ρ:Go.Shelf.Ren,Go.Proofs.Lays.n190 P ρ/\ρ.f 190=f):GZ P fm fs36 lo:=
  ⟨h.1,h.2,YqV h.S rfl (F0:=q34 lo) (Yz1 ..) hG⟩
def q36_L42_b:VCode:=
 (Rg [oR 46 .lss 45 44]
 (.seq (Ce 46 0)
 (.seq (.blk 1 (Rg [oI 47 1 43 45,oL 48 47,oM 11 48]
 (Rg [oF 49 1 8,oL 50 49,oM 51 11,oC 52 173 [50,51],oM 12 52]
 (.seq (Rg [oM 53 12,oR 54 .lss 53 (k 0)]
 (.cond 54 (Rg [oF 55 1 8,oL 56 55,oN 57 56,oM 12 57]
 (.reg [oF 58 1 8,oL 59 58,oM 60 11,o 61 (.bsl (cs [.s]) 1 [(0,60)]),o 62 (.app (cs [.s]) 0 59 61),oF 63 1 8,oS 1 63 62]))
 .skip))
 (.reg [oM 64 9,oM 65 12,o 66 (.bsl (cs [I]) 1 [(0,65)]),o 67 (.app (cs [I]) 0 64 66),oM 9 67])))))
 (.reg [oR 68 .add 45 (k 1),oM 45 68]))))
def Ylg(lo:Lo):Zp8->Option (Zp8⊕ ((ByteArray×Zt1×Zt3×ByteArray×Zt1×Zt3×ByteArray×Zt1×Zt3×ByteArray× (List Int)×Zt1×Zt3))):=fun x=>match x with
  | (v43,v44,v45,a2_0,a2_1,a2_2,b3_0,b3_1,b3_2,v4_0,v4_1,v4_2,out8,place9,h5,h6)=>bif(decide (v45<v44))then(chk (0<=v45/\v45< (v43.length:Int)) (YAr (q4 lo h5 (v43.getD v45.toNat (YAL #[]))) fun y80=>bif(decide (y80<0))then(chk (h5.length+([(v43.getD v45.toNat (YAL #[]))]).length<=maxEl) (chk (place9.length+([(h5.length:Int)]).length<=maxEl) (some (.inl (v43,v44,(YAM .i64 (v45+1)),a2_0,a2_1,a2_2,b3_0,b3_1,b3_2,v4_0,v4_1,v4_2,out8,(place9++([(h5.length:Int)])),(h5++([(v43.getD v45.toNat (YAL #[]))])),h6)))))else(chk (place9.length+[y80].length<=maxEl) (some (.inl (v43,v44,(YAM .i64 (v45+1)),a2_0,a2_1,a2_2,b3_0,b3_1,b3_2,v4_0,v4_1,v4_2,out8,(place9++[y80]),h5,h6))))))else(some (.inr (a2_0,a2_1,a2_2,b3_0,b3_1,b3_2,v4_0,v4_1,v4_2,out8,place9,h5,h6)))
def Yf7(lo:Lo):Zp8->Option ((ByteArray×Zt1×Zt3×ByteArray×Zt1×Zt3×ByteArray×Zt1×Zt3×ByteArray× (List Int)×Zt1×Zt3)):=lo.run (Ylg lo)
def Ys7(lo:Lo):LpE:=⟨42,[(8,some 1,false),(8,some 2,false),(9,none,false)],(Zsg [2,3,4,8,9,43,44,45] [.ptr 0 0 0,.ptr 1 0 0,.ptr 2 0 0,.ptr 3 0 0,.ref 4,.l (cs [.s]),.j,.j] [.st [.s,.l (cs [.s]),.l Zc2],.st [.s,.l (cs [.s]),.l Zc2],.st [.s,.l (cs [.s]),.l Zc2],.st [.s,.ref 5,.ref 6],.sq (cs [I]),.sq (cs [.s]),.sq Zc2]),[⟨.exit 0,(Zsg [2,3,4,8,9] [.ptr 0 0 0,.ptr 1 0 0,.ptr 2 0 0,.ptr 3 0 0,.ref 4] [.st [.s,.l (cs [.s]),.l Zc2],.st [.s,.l (cs [.s]),.l Zc2],.st [.s,.l (cs [.s]),.l Zc2],.st [.s,.ref 5,.ref 6],.sq (cs [I]),.sq (cs [.s]),.sq Zc2])⟩],Yf7 lo⟩
def Ylh(lo:Lo):LL:=(Ys7 lo,.loop q36_L42_b.er)::[]
theorem Ys8(lo:Lo):Lk lo pf (fs36 lo) 0 (Ylh lo):=.l .n (Ylg lo)
def q36_L21_b:VCode:=
 (Rg [oR 86 .lss 85 84]
 (.seq (Ce 86 4)
 (.seq (.blk 5 (Rg [oI 87 2 83 85,oT 88 2 87,o 17 (.alloc [.i .i64 0,.e Zc4]),oS 2 17 88]
 (.seq (.fz [9] (.reg [oF 90 1 15,oL 91 90,oF 92 1 17,oL 93 92,oM 94 9,oF 95 1 8,oL 96 95,oN 97 96,oC 98 270 [91,93,94,97],oM 89 98,oE 99 89 0,oE 100 89 1,oM 18 99,oM 19 100]))
 (.seq (Rg [oM 101 19,oX 102 101]
 (.cond 102 (.exit 5)
 .skip))
 (Rg [oM 103 13,oM 104 18,oC 105 261 [104],oM 106 18,on (.mput none (.l Zc4) (cs []) false 103 105 106)]
 (Rg [oM 107 13,o 108 (.mlen 107),oR 109 .gtr 108 (k 1000)]
 (.cond 109 (Rg [o 110 (.build [.s (⟨#[]⟩),.e (cs [.s]),.e Zc2] []),oS 3 4 110,oK 5 3]
 (.fz [4,5] .ret))
 .skip)))))))
 (.reg [oR 111 .add 85 (k 1),oM 85 111]))))
def Yli(lo:Lo):Zp7->Option (Zp7⊕ ((Int×ByteArray×Zt1×Zt3)⊕Zp9)):=fun x=>match x with
  | (place9,v76,v77,v78,v83,v84,v85,b3_0,b3_1,b3_2,v4_0,v4_1,v4_2,out8,h3_0,h3_1,h3_2,r15_0,r15_1,h5,h6)=>bif(decide (v85<v84))then(chk (0<=v85/\v85< (v83.length:Int)) (YAr (q20 lo r15_1 ((v83.getD v85.toNat ((0:Int),[])).2) place9 (h5.length:Int)) fun y82=>bif(!y82.2)then(some (.inl (place9,v76,v77,v78,v83,v84,(YAM .i64 (v85+1)),b3_0,b3_1,b3_2,v4_0,v4_1,v4_2,out8,h3_0,h3_1,h3_2,r15_0,r15_1,h5,h6)))else(YAr (q17 lo y82.1) fun y83=>bif(decide ((1000:Int)< ((mpt eqS h3_0 y83 y82.1 h3_1).length:Int)))then(some (.inr (.inl ((3:Int),(YAL #[]),([]:List ByteArray),([]:List (Int×Zt0))))))else(some (.inl (place9,v76,v77,v78,v83,v84,(YAM .i64 (v85+1)),b3_0,b3_1,b3_2,v4_0,v4_1,v4_2,out8,(mck eqS h3_0 y83 h3_1),(mpt eqS h3_0 y83 y82.1 h3_1),h3_2,r15_0,r15_1,h5,h6))))))else(some (.inr (.inr (place9,v76,v77,v78,b3_0,b3_1,b3_2,v4_0,v4_1,v4_2,out8,h3_0,h3_1,h3_2,h5,h6))))
def Ylj(lo:Lo):Zp7->Option ((Int×ByteArray×Zt1×Zt3)⊕Zp9):=lo.run (Yli lo)
def Ys9(lo:Lo):LpE:=⟨21,[(8,some 1,false),(8,some 2,false)],(Zsg [3,4,8,9,13,15,76,77,78,83,84,85] [.ptr 0 0 0,.ptr 1 0 0,.ptr 2 0 0,.l (cs [I]),.np 3,.ptr 4 0 0,.l Zc2,.j,.j,.l Zc2,.j,.j] [.st [.s,.l (cs [.s]),.l Zc2],.st [.s,.l (cs [.s]),.l Zc2],.st [.s,.ref 5,.ref 6],.st [.j,.l (cs [I,.s,.l Zc4]),.b],.st [.j,.l Zc4],.sq (cs [.s]),.sq Zc2]),[⟨.ret,(Zsg [4,5] [.ptr 0 0 0,.j] [.st [.s,.l (cs [.s]),.l Zc2]])⟩,⟨.exit 4,(Zsg [3,4,8,9,13,76,77,78] [.ptr 0 0 0,.ptr 1 0 0,.ptr 2 0 0,.l (cs [I]),.np 3,.l Zc2,.j,.j] [.st [.s,.l (cs [.s]),.l Zc2],.st [.s,.l (cs [.s]),.l Zc2],.st [.s,.ref 4,.ref 5],.st [.j,.l (cs [I,.s,.l Zc4]),.b],.sq (cs [.s]),.sq Zc2])⟩],Ylj lo⟩
def Ylk(lo:Lo):LL:=(Ys9 lo,.loop q36_L21_b.er)::Ylh lo
theorem Yta(lo:Lo):Lk lo pf (fs36 lo) 0 (Ylk lo):=.l (Ys8 lo) (Yli lo)
def q36_L19_b:VCode:=
 (Rg [oR 79 .lss 78 77]
 (.seq (Ce 79 2)
 (.seq (.blk 3 (Rg [oI 80 2 76 78,oT 81 2 80,o 15 (.alloc [.i .i64 0,.e Zc4]),oS 2 15 81]
 (Rg [oF 82 2 3,oL 83 82,oN 84 83,oK 85 0]
 (.blk 4 (.fz [9] (.loop 21 q36_L21_b))))))
 (.reg [oR 112 .add 78 (k 1),oM 78 112]))))
def Yll(lo:Lo):Zp9->Option (Zp9⊕ ((Int×ByteArray×Zt1×Zt3)⊕ (ByteArray×Zt1×Zt3×ByteArray×Int×Zt5×Bool×Zt1×Zt3))):=fun x=>match x with
  | (place9,v76,v77,v78,b3_0,b3_1,b3_2,v4_0,v4_1,v4_2,out8,h3_0,h3_1,h3_2,h4,h5)=>bif(decide (v78<v77))then(chk (0<=v78/\v78< (v76.length:Int)) (YAr (Ylj lo (place9,v76,v77,v78,b3_2,(b3_2.length:Int),(0:Int),b3_0,b3_1,b3_2,v4_0,v4_1,v4_2,out8,h3_0,h3_1,h3_2,(v76.getD v78.toNat ((0:Int),[])).1,(v76.getD v78.toNat ((0:Int),[])).2,h4,h5)) fun y84=>alt2 y84 (fun y85=>some (.inr (.inl (y85.1,y85.2.1,y85.2.2.1,y85.2.2.2)))) (fun y86=>some (.inl (y86.1,y86.2.1,y86.2.2.1,(YAM .i64 (y86.2.2.2.1+(1:Int))),y86.2.2.2.2.1,y86.2.2.2.2.2.1,y86.2.2.2.2.2.2.1,y86.2.2.2.2.2.2.2.1,y86.2.2.2.2.2.2.2.2.1,y86.2.2.2.2.2.2.2.2.2.1,y86.2.2.2.2.2.2.2.2.2.2.1,y86.2.2.2.2.2.2.2.2.2.2.2.1,y86.2.2.2.2.2.2.2.2.2.2.2.2.1,y86.2.2.2.2.2.2.2.2.2.2.2.2.2.1,y86.2.2.2.2.2.2.2.2.2.2.2.2.2.2.1,y86.2.2.2.2.2.2.2.2.2.2.2.2.2.2.2)))))else(some (.inr (.inr (v4_0,v4_1,v4_2,out8,h3_0,h3_1,h3_2,h4,h5))))
def Yf8(lo:Lo):Zp9->Option ((Int×ByteArray×Zt1×Zt3)⊕ (ByteArray×Zt1×Zt3×ByteArray×Int×Zt5×Bool×Zt1×Zt3)):=lo.run (Yll lo)
def Ytb(lo:Lo):LpE:=⟨19,[(8,some 1,false),(8,some 2,false)],(Zsg [3,4,8,9,13,76,77,78] [.ptr 0 0 0,.ptr 1 0 0,.ptr 2 0 0,.l (cs [I]),.np 3,.l Zc2,.j,.j] [.st [.s,.l (cs [.s]),.l Zc2],.st [.s,.l (cs [.s]),.l Zc2],.st [.s,.ref 4,.ref 5],.st [.j,.l (cs [I,.s,.l Zc4]),.b],.sq (cs [.s]),.sq Zc2]),[⟨.ret,(Zsg [4,5] [.ptr 0 0 0,.j] [.st [.s,.l (cs [.s]),.l Zc2]])⟩,⟨.exit 2,(Zsg [4,8,13] [.ptr 0 0 0,.ptr 1 0 0,.np 2] [.st [.s,.l (cs [.s]),.l Zc2],.st [.s,.ref 3,.ref 4],.st [.j,.l (cs [I,.s,.l Zc4]),.b],.sq (cs [.s]),.sq Zc2])⟩],Yf8 lo⟩
def Ylm(lo:Lo):LL:=(Ytb lo,.loop q36_L19_b.er)::Ylk lo
theorem Ytc(lo:Lo):Lk lo pf (fs36 lo) 0 (Ylm lo):=.l (Yta lo) (Yll lo)
def q36_L3_b:VCode:=
 (Rg [oR 128 .lss 127 126]
 (.seq (Ce 128 8)
 (.seq (.blk 9 (Rg [oM 129 127,oI 130 1 125 127,oL 131 130,oM 22 129,oM 23 131]
 (.reg [oF 132 2 8,oL 133 132,oM 134 22,oR 135 .add 134 (k 1),oM 136 13,oM 137 23,o 138 (.mget none (.l Zc4) (cs []) false false 136 137),o 139 (.build [.i .i64 0,.e Zc4] [(0,1,135),(1,1,138)]),o 140 (.bsl Zc2 1 [(0,139)]),o 141 (.app Zc2 0 133 140),oF 142 2 8,oS 1 142 141])))
 (.reg [oR 143 .add 127 (k 1),oM 127 143]))))
def Yln(lo:Lo):Zp14->Option (Zp14⊕ (Zp22)):=fun x=>match x with
  | (v126,v127,v4_0,v4_1,v4_2,out8,h2_0,h2_1,h2_2,v125,h4,h5)=>bif(decide (v127<v126))then(chk (0<=v127/\v127< (v125.length:Int)) (chk (h5.length+([((YAM .i64 (v127+1)),(mgt eqS (v125.getD v127.toNat (YAL #[])) h2_1 []))]).length<=maxEl) (some (.inl (v126,(YAM .i64 (v127+1)),v4_0,v4_1,v4_2,out8,h2_0,h2_1,h2_2,v125,h4,(h5++([((YAM .i64 (v127+1)),(mgt eqS (v125.getD v127.toNat (YAL #[])) h2_1 []))])))))))else(some (.inr (v4_0,v4_1,v4_2,out8,h4,h5)))
def Ylo(lo:Lo):Zp14->Option (Zp22):=lo.run (Yln lo)
def Ytd(lo:Lo):LpE:=⟨3,[(8,some 1,false),(8,some 2,false)],(Zsg [4,8,13,125,126,127] [.ptr 0 0 0,.ptr 1 0 0,.np 2,.ref 3,.j,.j] [.st [.s,.l (cs [.s]),.l Zc2],.st [.s,.ref 4,.ref 5],.st [.j,.l (cs [I,.s,.l Zc4]),.b],.sq (cs [.s]),.sq (cs [.s]),.sq Zc2]),[⟨.exit 8,(Zsg [4,8] [.ptr 0 0 0,.ptr 1 0 0] [.st [.s,.l (cs [.s]),.l Zc2],.st [.s,.ref 2,.ref 3],.sq (cs [.s]),.sq Zc2])⟩],Ylo lo⟩
def Ylp(lo:Lo):LL:=(Ytd lo,.loop q36_L3_b.er)::Ylm lo
theorem Yte(lo:Lo):Lk lo pf (fs36 lo) 0 (Ylp lo):=.l (Ytc lo) (Yln lo)
def Ylq:VCode:=
 (.reg [oM 113 13,o 114 (.mrng 113)])
def Ylr:VCode:=
 (.blk 7 (Rg [o 117 (.ment none (.l Zc4) (cs []) false 114),oE 118 117 0,oM 21 118]
 (.reg [oM 119 20,oM 120 21,o 121 (.bsl (cs [.s]) 1 [(0,120)]),o 122 (.app (cs [.s]) 0 119 121),oM 20 122])))
def Yls:VCode:=
 (Rg [oM 123 20,oC 124 271 [123]]
 (.seq (Rg [oM 125 20,oN 126 125,oK 127 0]
 (.blk 8 (.loop 3 q36_L3_b)))
 (Rg [oT 144 3 8,oS 3 4 144,oK 5 0]
 (.fz [4,5] .ret))))
def q36_J17_b:VCode:=.seq (.seq Ylq (.blk 6 (.loop 11 (Rg [o 115 (.mnxt 114),oE 116 115 0] (YxQ 116 6 Ylr))))) Yls
def Ytf:Sg:=(Zsg [4,8,13,20,114] [.ptr 0 0 0,.ptr 1 0 0,.np 2,.ref 3,.np 4] [.st [.s,.l (cs [.s]),.l Zc2],.st [.s,.ref 5,.ref 6],.st [.j,.l (cs [I,.s,.l Zc4]),.b],.sq (cs [.s]),.st [.np 2,.j,.j,.l (cs [I]),.b],.sq (cs [.s]),.sq Zc2])
def Ylt(lo:Lo):Zp15->Option (ByteArray×Zt1×Zt3×ByteArray×Int×Zt5×Bool×Zt1×Int×Int× (List Int)×Bool×Zt1×Zt3):=fun x=>match x with
  | (v4_0,v4_1,v4_2,out8,rows13_0,rows13_1,rows13_2,keys20,h4,h5)=>some (v4_0,v4_1,v4_2,out8,rows13_0,rows13_1,rows13_2,keys20,rows13_0,rows13_0,([]:List Int),false,h4,h5)
def Yeh:Zp11->ItP:=fun x=>match x with
  | (v4_0,v4_1,v4_2,out8,rows13_0,rows13_1,rows13_2,keys20,v114_0,v114_1,v114_2,v114_3,h5,h6)=>(rows13_1.map (fun e=>e.1),v114_2,rows13_0,v114_0,v114_1)
def Yc0(lo:Lo):Zp11->Int->Option (ByteArray×Zt1×Zt3×ByteArray×Int×Zt5×Bool×Zt1×Int×Int× (List Int)×Bool×Zt1×Zt3):=fun x b=>match x with
  | (v4_0,v4_1,v4_2,out8,rows13_0,rows13_1,rows13_2,keys20,v114_0,v114_1,v114_2,v114_3,h5,h6)=>chk (v114_1=rows13_0) (YAr (addI v114_2 b).getLast? fun y91=>YAr (mbf y91 rows13_1) fun y92=>chk (keys20.length+[y92.1].length<=maxEl) (some (v4_0,v4_1,v4_2,out8,rows13_0,rows13_1,rows13_2,(keys20++[y92.1]),v114_0,v114_1,(addI v114_2 b),v114_3,h5,h6)))
def Yci(lo:Lo):Zp11->Option ((Int×ByteArray×Zt1×Zt3)):=fun x=>match x with
  | (v4_0,v4_1,v4_2,out8,rows13_0,rows13_1,rows13_2,keys20,v114_0,v114_1,v114_2,v114_3,h5,h6)=>YAr (q35 lo keys20) fun y152=>chk (y152.length=keys20.length) (YAr (Ylo lo ((y152.length:Int),(0:Int),v4_0,v4_1,v4_2,out8,rows13_0,rows13_1,rows13_2,y152,h5,h6)) fun y153=>some ((0:Int),y153.2.2.2.1,y153.2.2.2.2.1,y153.2.2.2.2.2))
noncomputable def Yei(lo:Lo):Zp15->Option ((Int×ByteArray×Zt1×Zt3)):=fun x=>YAr (Ylt lo x) (rngF Yeh (Yc0 lo) (Yci lo))
noncomputable def Yej(lo:Lo):LpE:=⟨17,[(20,none,false)],(Zsg [4,8,13,20] [.ptr 0 0 0,.ptr 1 0 0,.np 2,.ref 3] [.st [.s,.l (cs [.s]),.l Zc2],.st [.s,.ref 4,.ref 5],.st [.j,.l (cs [I,.s,.l Zc4]),.b],.sq (cs [.s]),.sq (cs [.s]),.sq Zc2]),[⟨.ret,(Zsg [4,5] [.ptr 0 0 0,.j] [.st [.s,.l (cs [.s]),.l Zc2]])⟩],Yei lo⟩
noncomputable def Ytg(lo:Lo):LL:=(Yej lo,q36_J17_b.er)::Ylp lo
theorem Yth(lo:Lo):Lk lo pf (fs36 lo) 0 (Ytg lo):=
  .m (Yte lo) (it:=114) (nx:=115) (mo:=116) (out:=6) (own:=(Yej lo).own) (g0:=(Yej lo).g) (outs:=(Yej lo).outs) (g:=Ytf) (pre:=Ylq) (bb:=Ylr) (rest:=Yls) (p:=Yeh) (t:=Yc0 lo) (r:=Yci lo) (u:=Ylt lo) (by kernel_rfl) (fun x=>by kernel_rfl) (fun x b=>by kernel_rfl) (fun x=>by kernel_rfl) (fun x=>by kernel_rfl) rfl
noncomputable def q36(lo:Lo)(a0_0:ByteArray)(a0_1:List ByteArray)(a0_2:List (Int×Zt0))(b1_0:ByteArray)(b1_1:List ByteArray)(b1_2:List (Int×Zt0)):Option (ByteArray×Zt1×Zt3×Int):=
  YAr (q11 lo a0_0 a0_1 a0_2) fun y77=>bif(!decide (y77=0))then(some ((YAL #[]),([]:List ByteArray),([]:List (Int×Zt0)),y77))else(YAr (q11 lo b1_0 b1_1 b1_2) fun y78=>bif(!decide (y78=0))then(some ((YAL #[]),([]:List ByteArray),([]:List (Int×Zt0)),y78))else(YAr (q19 lo a0_1) fun y79=>YAr (Yf7 lo (b1_1,(b1_1.length:Int),(0:Int),a0_0,a0_1,a0_2,b1_0,b1_1,b1_2,(YAL #[]),([]:List ByteArray),([]:List (Int×Zt0)),a0_0,[],y79,[])) fun y81=>bif(decide ((16:Int)< (y81.2.2.2.2.2.2.2.2.2.2.2.1.length:Int)))then(some ((YAL #[]),([]:List ByteArray),([]:List (Int×Zt0)),(3:Int)))else(YAr (Yf8 lo (y81.2.2.2.2.2.2.2.2.2.2.1,y81.2.2.1,(y81.2.2.1.length:Int),(0:Int),y81.2.2.2.1,y81.2.2.2.2.1,y81.2.2.2.2.2.1,y81.2.2.2.2.2.2.1,y81.2.2.2.2.2.2.2.1,y81.2.2.2.2.2.2.2.2.1,y81.2.2.2.2.2.2.2.2.2.1,(0:Int),([]:List (Int×ByteArray×Zt0)),false,y81.2.2.2.2.2.2.2.2.2.2.2.1,y81.2.2.2.2.2.2.2.2.2.2.2.2)) fun y87=>alt2 y87 (fun y88=>some (y88.2.1,y88.2.2.1,y88.2.2.2,y88.1)) (fun y89=>YAr (Yei lo (y89.1,y89.2.1,y89.2.2.1,y89.2.2.2.1,y89.2.2.2.2.1,y89.2.2.2.2.2.1,y89.2.2.2.2.2.2.1,[],y89.2.2.2.2.2.2.2.1,y89.2.2.2.2.2.2.2.2)) fun y154=>some (y154.2.1,y154.2.2.1,y154.2.2.2,y154.1)))))
def Yti:VFn:=⟨true,145,[.c 4 true 3,.t 5],
 (Rg [oG 2 0,oG 3 1,o 4 (.alloc [.s (⟨#[]⟩),.e (cs [.s]),.e Zc2]),oK 5 0]
 (.seq (Rg [oT 24 3 2,oC 25 230 [24],oM 6 25]
 (Rg [oM 26 6,oR 27 .neq 26 (k 0)]
 (.cond 27 (Rg [o 28 (.build [.s (⟨#[]⟩),.e (cs [.s]),.e Zc2] []),oM 29 6,oS 3 4 28,oM 5 29]
 (.fz [4,5] .ret))
 .skip)))
 (.seq (Rg [oT 30 3 3,oC 31 230 [30],oM 7 31]
 (Rg [oM 32 7,oR 33 .neq 32 (k 0)]
 (.cond 33 (Rg [o 34 (.build [.s (⟨#[]⟩),.e (cs [.s]),.e Zc2] []),oM 35 7,oS 3 4 34,oM 5 35]
 (.fz [4,5] .ret))
 .skip)))
 (Rg [oF 36 0 2,⟨some 37,.load false 1 36,none,true,false⟩,oF 38 1 2,⟨some 39,.load false 1 38,none,true,false⟩,⟨some 40,.callN 269 [39] false,none,true,false⟩,o 41 (.build [.s (⟨#[]⟩),.e (cs [.s]),.e Zc2] [(0,1,37),(1,1,40)]),o 8 (.alloc [.s (⟨#[]⟩),.e (cs [.s]),.e Zc2]),oS 3 8 41]
 (Rg [o 9 (.mv (ke (cs [I])))]
 (.seq (Rg [oF 42 1 3,oL 43 42,oN 44 43,oK 45 0]
 (.blk 0 (.loop 42 q36_L42_b)))
 (.seq (Rg [oF 69 1 8,oL 70 69,oN 71 70,oR 72 .gtr 71 (k 16)]
 (.cond 72 (Rg [o 73 (.build [.s (⟨#[]⟩),.e (cs [.s]),.e Zc2] []),oS 3 4 73,oK 5 3]
 (.fz [4,5] .ret))
 .skip))
 (Rg [o 74 (.mkm none (.l Zc4) (cs []) false),oM 13 74]
 (.seq (Rg [oF 75 2 2,oL 76 75,oN 77 76,oK 78 0]
 (.blk 2 (.fz [9] (.loop 19 q36_L19_b))))
 (Rg [o 20 (.mv (ke (cs [.s])))]
 (.jn 17 q36_J17_b)))))))))))⟩
noncomputable def Ylu(lo:Lo):FnE:=Zfe 237 true (Zsg [0,1] [.ag [.s,.l (cs [.s]),.l Zc2],.ag [.s,.l (cs [.s]),.l Zc2]] []) (.tp [.ag [.s,.l (cs [.s]),.l Zc2],.j]) [] (fun x=>q36 lo x.1 x.2.1 x.2.2.1 x.2.2.2.1 x.2.2.2.2.1 x.2.2.2.2.2:Zp22->Option (ByteArray×Zt1×Zt3×Int))
noncomputable def fs37(lo:Lo):List FnE:=Ylu lo::fs36 lo
theorem Ytj(h:GZ P fm fs36 lo)(t:Ti P fm 237 Yti):GZ P fm fs37 lo:=
  h.p (Ylu lo) (Yth lo) t
def q37_L3_b:VCode:=
 (Rg [oR 14 .lss 13 12]
 (.seq (Ce 14 0)
 (.seq (.blk 1 (Rg [oM 15 13,oM 5 15]
 (Rg [oM 16 0,oM 17 5,oI 18 1 16 17,oL 19 18,oM 20 1,oM 21 5,oI 22 1 20 21,oL 23 22,oR 24 .neq 19 23]
 (.cond 24 (Rg [oB 4 false]
 (Fr 4))
 .skip))))
 (.reg [oR 25 .add 13 (k 1),oM 13 25]))))
def Ylv(lo:Lo):Zt1×Zt1×Int×Int->Option ((Zt1×Zt1×Int×Int)⊕ (Bool⊕Unit)):=fun x=>match x with
  | (s10,s21,v12,v13)=>bif(decide (v13<v12))then(chk (0<=v13/\v13< (s10.length:Int)) (chk (0<=v13/\v13< (s21.length:Int)) (bif(!decide ((s10.getD v13.toNat (YAL #[]))=(s21.getD v13.toNat (YAL #[]))))then(some (.inr (.inl false)))else(some (.inl (s10,s21,v12,(YAM .i64 (v13+1))))))))else(some (.inr (.inr ())))
def Ylw(lo:Lo):Zt1×Zt1×Int×Int->Option (Bool⊕Unit):=lo.run (Ylv lo)
def Ytk(lo:Lo):LpE:=⟨3,[],(Zsg [0,1,12,13] [.l (cs [.s]),.l (cs [.s]),.j,.j] []),[⟨.ret,(Zsg [4] [.b] [])⟩,⟨.exit 0,(Zsg [] [] [])⟩],Ylw lo⟩
def Ytl(lo:Lo):LL:=(Ytk lo,.loop q37_L3_b.er)::[]
theorem Ytm(lo:Lo):Lk lo pf (fs37 lo) 0 (Ytl lo):=.l .n (Ylv lo)
def q37(lo:Lo)(s10:List ByteArray)(s21:List ByteArray):Option Bool:=
  bif(!decide ((s10.length:Int)=(s21.length:Int)))then(some false)else(YAr (Ylw lo (s10,s21,(s10.length:Int),(0:Int))) fun y158=>alt2 y158 (fun y159=>some y159) (fun y160=>some true))
def Ytn:VFn:=⟨true,26,[.t 4],
 (Rg [oB 4 false]
 (.seq (Rg [oM 6 0,oN 7 6,oM 8 1,oN 9 8,oR 10 .neq 7 9]
 (.cond 10 (Rg [oB 4 false]
 (Fr 4))
 .skip))
 (.seq (Rg [oM 11 0,oN 12 11,oK 13 0]
 (.blk 0 (.loop 3 q37_L3_b)))
 (Rg [oB 4 true]
 (Fr 4)))))⟩
def Ylx(lo:Lo):FnE:=Zfe 267 true (Zsg [0,1] [.l (cs [.s]),.l (cs [.s])] []) .b [] (fun x=>q37 lo x.1 x.2:Zt1×Zt1->Option Bool)
noncomputable def fs38(lo:Lo):List FnE:=Ylx lo::fs37 lo
theorem Yto(h:GZ P fm fs37 lo)(t:Ti P fm 267 Ytn):GZ P fm fs38 lo:=
  h.p (Ylx lo) (Ytm lo) t
end Go.Abs.G3c
namespace Go.Abs.G3c
open Go Go.Abs
set_option maxRecDepth 100000
set_option maxHeartbeats 1000000
variable{P:Program}{fm:FM}{lo:Lo}
def q38_L3_b:VCode:=
 (Rg [oR 14 .lss 13 12]
 (.seq (Ce 14 0)
 (.seq (.blk 1 (Rg [oM 15 13,oM 5 15]
 (Rg [oM 16 0,oM 17 5,oI 18 3 16 17,oT 19 3 18,oM 20 1,oM 21 5,oI 22 3 20 21,oT 23 3 22,o 24 (.eqa true [1,1,2] 19 23)]
 (.cond 24 (Rg [oB 4 false]
 (Fr 4))
 .skip))))
 (.reg [oR 25 .add 13 (k 1),oM 13 25]))))
def Yly(lo:Lo):Zt0×Zt0×Int×Int->Option ((Zt0×Zt0×Int×Int)⊕ (Bool⊕Unit)):=fun x=>match x with
  | (s10,s21,v12,v13)=>bif(decide (v13<v12))then(chk (0<=v13/\v13< (s10.length:Int)) (chk (0<=v13/\v13< (s21.length:Int)) (bif(!((decide ((s10.getD v13.toNat Zd1).1=(s21.getD v13.toNat Zd1).1))&& ((decide ((s10.getD v13.toNat Zd1).2.1=(s21.getD v13.toNat Zd1).2.1))&& ((decide ((s10.getD v13.toNat Zd1).2.2=(s21.getD v13.toNat Zd1).2.2))&&true))))then(some (.inr (.inl false)))else(some (.inl (s10,s21,v12,(YAM .i64 (v13+1))))))))else(some (.inr (.inr ())))
def Ylz(lo:Lo):Zt0×Zt0×Int×Int->Option (Bool⊕Unit):=lo.run (Yly lo)
def Ytp(lo:Lo):LpE:=⟨3,[],(Zsg [0,1,12,13] [.l Zc4,.l Zc4,.j,.j] []),[⟨.ret,(Zsg [4] [.b] [])⟩,⟨.exit 0,(Zsg [] [] [])⟩],Ylz lo⟩
def Ytq(lo:Lo):LL:=(Ytp lo,.loop q38_L3_b.er)::[]
theorem Ytr(lo:Lo):Lk lo pf (fs38 lo) 0 (Ytq lo):=.l .n (Yly lo)
def q38(lo:Lo)(s10:List (Int×Int×ByteArray))(s21:List (Int×Int×ByteArray)):Option Bool:=
  bif(!decide ((s10.length:Int)=(s21.length:Int)))then(some false)else(YAr (Ylz lo (s10,s21,(s10.length:Int),(0:Int))) fun y162=>alt2 y162 (fun y163=>some y163) (fun y164=>some true))
def Yts:VFn:=⟨true,26,[.t 4],
 (Rg [oB 4 false]
 (.seq (Rg [oM 6 0,oN 7 6,oM 8 1,oN 9 8,oR 10 .neq 7 9]
 (.cond 10 (Rg [oB 4 false]
 (Fr 4))
 .skip))
 (.seq (Rg [oM 11 0,oN 12 11,oK 13 0]
 (.blk 0 (.loop 3 q38_L3_b)))
 (Rg [oB 4 true]
 (Fr 4)))))⟩
def YlA(lo:Lo):FnE:=Zfe 300 true (Zsg [0,1] [.l Zc4,.l Zc4] []) .b [] (fun x=>q38 lo x.1 x.2:Zt0×Zt0->Option Bool)
noncomputable def fs39(lo:Lo):List FnE:=YlA lo::fs38 lo
theorem Ytt(h:GZ P fm fs38 lo)(t:Ti P fm 300 Yts):GZ P fm fs39 lo:=
  h.p (YlA lo) (Ytr lo) t
def q39(lo:Lo)(s0_0:Int)(s0_1:List (Int×Int×ByteArray))(v1_0:Int)(v1_1:List (Int×Int×ByteArray)):Option (Bool×Int×Zt0):=
  YAr (q38 lo v1_1 s0_1) fun y165=>some (y165,v1_0,v1_1)
def Ytu:VFn:=⟨true,9,[.t 3],
 (Rg [oG 2 0,oB 3 false]
 (Rg [oF 4 1 1,oL 5 4,oF 6 1 2,oL 7 6,oC 8 300 [5,7],oM 3 8]
 .ret))⟩
def YlB(lo:Lo):FnE:=Zfe 299 false (Zsg [0,1] [.ag [.j,.l Zc4],.ptr 0 0 0] [.st [.j,.l Zc4]]) .b [.st [.j,.l Zc4]] (fun x=>q39 lo x.1 x.2.1 x.2.2.1 x.2.2.2:Int×Zt0×Int×Zt0->Option (Bool×Int×Zt0))
noncomputable def fs40(lo:Lo):List FnE:=YlB lo::fs39 lo
theorem Ytv(h:GZ P fm fs39 lo)(t:Ti P fm 299 Ytu):GZ P fm fs40 lo:=
  h.i (YlB lo) .n t
def q40_L3_b:VCode:=
 (Rg [oR 9 .lss 8 7]
 (.seq (Ce 9 0)
 (.seq (.blk 1 (Rg [oM 10 8,oM 5 10]
 (Rg [oM 11 1,oM 12 0,oM 13 5,oI 14 2 12 13,oT 15 2 14,o 16 (.dyn 11 [15])]
 (.cond 16 (Rg [oM 17 5,oM 4 17]
 .ret)
 .skip))))
 (.reg [oR 18 .add 8 (k 1),oM 8 18]))))
def YlC(lo:Lo):Zt3×Int×Int×Int×Zt0->Option ((Zt3×Int×Int×Int×Zt0)⊕ ((Int×Int×Zt0)⊕ (Int×Zt0))):=fun x=>match x with
  | (s0,v7,v8,h0_0,h0_1)=>bif(decide (v8<v7))then(chk (0<=v8/\v8< (s0.length:Int)) (YAr (q39 lo ((s0.getD v8.toNat ((0:Int),[])).1) ((s0.getD v8.toNat ((0:Int),[])).2) h0_0 h0_1) fun y166=>bif y166.1 then(some (.inr (.inl (v8,y166.2.1,y166.2.2))))else(some (.inl (s0,v7,(YAM .i64 (v8+1)),y166.2.1,y166.2.2)))))else(some (.inr (.inr (h0_0,h0_1))))
def YlD(lo:Lo):Zt3×Int×Int×Int×Zt0->Option ((Int×Int×Zt0)⊕ (Int×Zt0)):=lo.run (YlC lo)
def Ytw(lo:Lo):LpE:=⟨3,[],(Zsg [0,1,7,8] [.l Zc2,.clo 299 [.ptr 0 0 0],.j,.j] [.st [.j,.l Zc4]]),[⟨.ret,(Zsg [4] [.j] [.st [.j,.l Zc4]])⟩,⟨.exit 0,(Zsg [] [] [.st [.j,.l Zc4]])⟩],YlD lo⟩
def Ytx(lo:Lo):LL:=(Ytw lo,.loop q40_L3_b.er)::[]
theorem Yty(lo:Lo):Lk lo pf (fs40 lo) 1 (Ytx lo):=.l .n (YlC lo)
def q40(lo:Lo)(s0:List (Int×Zt0))(h0_0:Int)(h0_1:List (Int×Int×ByteArray)):Option (Int×Int×Zt0):=
  YAr (YlD lo (s0,(s0.length:Int),(0:Int),h0_0,h0_1)) fun y167=>alt2 y167 (fun y168=>some (y168.1,y168.2.1,y168.2.2)) (fun y169=>some ((-1:Int),y169.1,y169.2))
def Ytz:VFn:=⟨true,19,[.t 4],
 (Rg [oK 4 0]
 (.seq (Rg [oM 6 0,oN 7 6,oK 8 0]
 (.blk 0 (.loop 3 q40_L3_b)))
 (Rg [oK 4 (-1)]
 .ret)))⟩
def YlE(lo:Lo):FnE:=Zfe 277 false (Zsg [0,1] [.l Zc2,.clo 299 [.ptr 0 0 0]] [.st [.j,.l Zc4]]) (.i .i64) [.st [.j,.l Zc4]] (fun x=>q40 lo x.1 x.2.1 x.2.2:Zt3×Int×Zt0->Option (Int×Int×Zt0))
noncomputable def fs41(lo:Lo):List FnE:=YlE lo::fs40 lo
theorem YtA(h:GZ P fm fs40 lo)(t:Ti P fm 277 Ytz):GZ P fm fs41 lo:=
  h.i (YlE lo) (Yty lo) t
def q41(lo:Lo)(s0:List (Int×Zt0))(h0_0:Int)(h0_1:List (Int×Int×ByteArray)):Option (Bool×Int×Zt0):=
  YAr (q40 lo s0 h0_0 h0_1) fun y170=>some ((decide ((0:Int)<=y170.1)),y170.2.1,y170.2.2)
def YtB:VFn:=⟨true,9,[.t 4],
 (Rg [oB 4 false]
 (Rg [oM 5 0,oM 6 1,oC 7 277 [5,6],oR 8 .geq 7 (k 0),oM 4 8]
 .ret))⟩
def YlF(lo:Lo):FnE:=Zfe 298 false (Zsg [0,1] [.l Zc2,.clo 299 [.ptr 0 0 0]] [.st [.j,.l Zc4]]) .b [.st [.j,.l Zc4]] (fun x=>q41 lo x.1 x.2.1 x.2.2:Zt3×Int×Zt0->Option (Bool×Int×Zt0))
noncomputable def fs42(lo:Lo):List FnE:=YlF lo::fs41 lo
theorem YtC(h:GZ P fm fs41 lo)(t:Ti P fm 298 YtB):GZ P fm fs42 lo:=
  h.i (YlF lo) .n t
def q42_L3_b:VCode:=
 (Rg [oR 10 .lss 9 8]
 (.seq (Ce 10 0)
 (.seq (.blk 1 (Rg [oI 11 2 7 9,oT 12 2 11,o 6 (.alloc [.i .i64 0,.e Zc4]),oS 2 6 12]
 (Rg [oM 13 0,o 14 (.mkf 299 [6]),oC 15 298 [13,14],oX 16 15]
 (.cond 16 (Rg [oB 4 false]
 (Fr 4))
 .skip))))
 (.reg [oR 17 .add 9 (k 1),oM 9 17]))))
def YlG(lo:Lo):Zt3×Zt3×Int×Int->Option ((Zt3×Zt3×Int×Int)⊕ (Bool⊕Unit)):=fun x=>match x with
  | (a0,v7,v8,v9)=>bif(decide (v9<v8))then(chk (0<=v9/\v9< (v7.length:Int)) (YAr (q41 lo a0 ((v7.getD v9.toNat ((0:Int),[])).1) ((v7.getD v9.toNat ((0:Int),[])).2)) fun y171=>bif(!y171.1)then(some (.inr (.inl false)))else(some (.inl (a0,v7,v8,(YAM .i64 (v9+1)))))))else(some (.inr (.inr ())))
def YlH(lo:Lo):Zt3×Zt3×Int×Int->Option (Bool⊕Unit):=lo.run (YlG lo)
def YtD(lo:Lo):LpE:=⟨3,[],(Zsg [0,7,8,9] [.l Zc2,.l Zc2,.j,.j] []),[⟨.ret,(Zsg [4] [.b] [])⟩,⟨.exit 0,(Zsg [] [] [])⟩],YlH lo⟩
def YtE(lo:Lo):LL:=(YtD lo,.loop q42_L3_b.er)::[]
theorem YtF(lo:Lo):Lk lo pf (fs42 lo) 0 (YtE lo):=.l .n (YlG lo)
def q42(lo:Lo)(a0:List (Int×Zt0))(b1:List (Int×Zt0)):Option Bool:=
  YAr (YlH lo (a0,b1,(b1.length:Int),(0:Int))) fun y172=>alt2 y172 (fun y173=>some y173) (fun y174=>some true)
def YtG:VFn:=⟨true,18,[.t 4],
 (Rg [oB 4 false]
 (.seq (Rg [oM 7 1,oN 8 7,oK 9 0]
 (.blk 0 (.loop 3 q42_L3_b)))
 (Rg [oB 4 true]
 (Fr 4))))⟩
def YlI(lo:Lo):FnE:=Zfe 268 true (Zsg [0,1] [.l Zc2,.l Zc2] []) .b [] (fun x=>q42 lo x.1 x.2:Zt3×Zt3->Option Bool)
noncomputable def fs43(lo:Lo):List FnE:=YlI lo::fs42 lo
theorem YtH(h:GZ P fm fs42 lo)(t:Ti P fm 268 YtG):GZ P fm fs43 lo:=
  h.p (YlI lo) (YtF lo) t
def q43(lo:Lo)(a0_0:ByteArray)(a0_1:List ByteArray)(a0_2:List (Int×Zt0))(b1_0:ByteArray)(b1_1:List ByteArray)(b1_2:List (Int×Zt0)):Option Bool:=
  YAr (q37 lo a0_1 b1_1) fun y161=>bif y161 then(YAr (q42 lo a0_2 b1_2) fun y175=>bif y175 then(YAr (q42 lo b1_2 a0_2) fun y176=>some y176)else(some false))else(some false)
def YtI:VFn:=⟨true,24,[.t 4],
 (Rg [oG 2 0,oG 3 1,oB 4 false]
 (Rg [oF 5 1 2,oL 6 5,oF 7 1 3,oL 8 7,oC 9 267 [6,8],oM 10 9,gT 11 10 (.fad 2 2),gT 12 10 (.load false 1 11),gT 13 10 (.fad 2 3),gT 14 10 (.load false 1 13),gT 15 10 (.call 268 [12,14]),oP 16 10 15 (kb false),oM 17 16,gT 18 17 (.fad 2 3),gT 19 17 (.load false 1 18),gT 20 17 (.fad 2 2),gT 21 17 (.load false 1 20),gT 22 17 (.call 268 [19,21]),oP 23 17 22 (kb false),oM 4 23]
 (Fr 4)))⟩
def YlJ(lo:Lo):FnE:=Zfe 236 true (Zsg [0,1] [.ag [.s,.l (cs [.s]),.l Zc2],.ag [.s,.l (cs [.s]),.l Zc2]] []) .b [] (fun x=>q43 lo x.1 x.2.1 x.2.2.1 x.2.2.2.1 x.2.2.2.2.1 x.2.2.2.2.2:Zp22->Option Bool)
noncomputable def fs44(lo:Lo):List FnE:=YlJ lo::fs43 lo
theorem YtJ(h:GZ P fm fs43 lo)(t:Ti P fm 236 YtI):GZ P fm fs44 lo:=
  h.p (YlJ lo) .n t
noncomputable def q44(lo:Lo):Option Bool:=
  YAr (q2 lo) fun y6=>YAr (q18 lo y6.1 y6.2.1 y6.2.2 (1:Int)) fun y51=>YAr (q18 lo y6.1 y6.2.1 y6.2.2 (2:Int)) fun y52=>YAr (q36 lo y6.1 y6.2.1 y6.2.2 y52.1 y52.2.1 y52.2.2.1) fun y155=>YAr (q36 lo y51.1 y51.2.1 y51.2.2.1 y52.1 y52.2.1 y52.2.2.1) fun y156=>bif(decide (y51.2.2.2=(0:Int)))then(bif(decide (y52.2.2.2=(0:Int)))then(bif(decide (y155.2.2.2=(0:Int)))then(bif(decide (y156.2.2.2=(0:Int)))then(YAr (q11 lo y6.1 y6.2.1 y6.2.2) fun y157=>bif(decide (y157=0))then(bif(decide ((y51.2.2.1.length:Int)=2))then(chk (0<=(1:Int)/\ (1:Int)< (y51.2.2.1.length:Int)) (bif(decide ((y51.2.2.1.getD 1 ((0:Int),[])).1=(4:Int)))then(YAr (q43 lo y155.1 y155.2.1 y155.2.2.1 y6.1 y6.2.1 y6.2.2) fun y177=>bif y177 then(bif(decide ((y156.2.2.1.length:Int)=4))then(chk (0<=(1:Int)/\ (1:Int)< (y156.2.2.1.length:Int)) (chk (0<=(1:Int)/\ (1:Int)< (((y156.2.2.1.getD 1 ((0:Int),[])).2).length:Int)) (bif(decide ((((y156.2.2.1.getD 1 ((0:Int),[])).2).getD 1 Zd1).2.2=(YAL #[121])))then(chk (0<=(3:Int)/\ (3:Int)< (y156.2.2.1.length:Int)) (some (decide ((y156.2.2.1.getD 3 ((0:Int),[])).1=(4:Int)))))else(some false))))else(some false))else(some false))else(some false)))else(some false))else(some false))else(some false))else(some false))else(some false))else(some false)
def YtK:VFn:=⟨true,98,[.t 0],
 (Rg [oB 0 false]
 (Rg [oC 11 254 [],o 1 (.alloc [.s (⟨#[]⟩),.e (cs [.s]),.e Zc2]),oS 3 1 11]
 (Rg [oT 13 3 1,oC 14 233 [13,(ki .u32 1)],oM 12 14,oE 15 12 0,oE 16 12 1,o 2 (.alloc [.s (⟨#[]⟩),.e (cs [.s]),.e Zc2]),oS 3 2 15,oM 3 16]
 (Rg [oT 18 3 1,oC 19 233 [18,(ki .u32 2)],oM 17 19,oE 20 17 0,oE 21 17 1,o 4 (.alloc [.s (⟨#[]⟩),.e (cs [.s]),.e Zc2]),oS 3 4 20,oM 5 21]
 (Rg [oT 23 3 1,oT 24 3 4,oC 25 237 [23,24],oM 22 25,oE 26 22 0,oE 27 22 1,o 6 (.alloc [.s (⟨#[]⟩),.e (cs [.s]),.e Zc2]),oS 3 6 26,oM 7 27]
 (Rg [oT 29 3 2,oT 30 3 4,oC 31 237 [29,30],oM 28 31,oE 32 28 0,oE 33 28 1,o 8 (.alloc [.s (⟨#[]⟩),.e (cs [.s]),.e Zc2]),oS 3 8 32,oM 9 33]
 (Rg [oM 34 3,oR 35 .eql 34 (k 0),oM 36 35,gT 37 36 (.mv 5),gT 38 36 (.bin .eql 37 (k 0)),oP 39 36 38 (kb false),oM 40 39,gT 41 40 (.mv 7),gT 42 40 (.bin .eql 41 (k 0)),oP 43 40 42 (kb false),oM 44 43,gT 45 44 (.mv 9),gT 46 44 (.bin .eql 45 (k 0)),oP 47 44 46 (kb false),oM 10 47]
 (Rg [oM 48 10,oM 49 48,gT 50 49 (.load true 3 1),gT 51 49 (.call 230 [50]),gT 52 49 (.bin .eql 51 (k 0)),oP 53 49 52 (kb false),oM 54 53,gT 55 54 (.fad 2 2),gT 56 54 (.load false 1 55),gT 57 54 (.len 56),gT 58 54 (.bin .eql 57 (k 2)),oP 59 54 58 (kb false),oM 60 59,gT 61 60 (.fad 2 2),gT 62 60 (.load false 1 61),gT 63 60 (.iad 2 62 (k 1)),gT 64 60 (.fad 0 63),gT 65 60 (.load false 1 64),gT 66 60 (.bin .eql 65 (k 4)),oP 67 60 66 (kb false),oM 68 67,gT 69 68 (.load true 3 6),gT 70 68 (.load true 3 1),gT 71 68 (.call 236 [69,70]),oP 72 68 71 (kb false),oM 73 72,gT 74 73 (.fad 2 8),gT 75 73 (.load false 1 74),gT 76 73 (.len 75),gT 77 73 (.bin .eql 76 (k 4)),oP 78 73 77 (kb false),oM 79 78,gT 80 79 (.fad 2 8),gT 81 79 (.load false 1 80),gT 82 79 (.iad 2 81 (k 1)),gT 83 79 (.fad 1 82),gT 84 79 (.load false 1 83),gT 85 79 (.iad 3 84 (k 1)),gT 86 79 (.fad 2 85),gT 87 79 (.load false 1 86),gT 88 79 (.bin .eql 87 (ks (⟨#[121]⟩))),oP 89 79 88 (kb false),oM 90 89,gT 91 90 (.fad 2 8),gT 92 90 (.load false 1 91),gT 93 90 (.iad 2 92 (k 3)),gT 94 90 (.fad 0 93),gT 95 90 (.load false 1 94),gT 96 90 (.bin .eql 95 (k 4)),oP 97 90 96 (kb false),oM 0 97]
 (Fr 0)))))))))⟩
noncomputable def YlK(lo:Lo):FnE:=Zfe 229 true (Zsg [] [] []) .b [] (fun x=>q44 lo:Unit->Option Bool)
noncomputable def fs45(lo:Lo):List FnE:=YlK lo::fs44 lo
theorem YtL(h:GZ P fm fs44 lo)(t:Ti P fm 229 YtK):GZ P fm fs45 lo:=
  h.p (YlK lo) .n t
def q45(lo:Lo)(c0:Int):Option Bool:=
  bif(decide (97<=c0))then(bif(decide (c0<=122))then(some true)else(bif(decide (65<=c0))then(bif(decide (c0<=90))then(some true)else(some (decide (c0=95))))else(some (decide (c0=95)))))else(bif(decide (65<=c0))then(bif(decide (c0<=90))then(some true)else(some (decide (c0=95))))else(some (decide (c0=95))))
def YtM:VFn:=⟨true,21,[.t 2],
 (Rg [oB 2 false]
 (Rg [oM 3 0,oR 4 .geq 3 (ki .u8 97),oM 5 4,gT 6 5 (.mv 0),gT 7 5 (.bin .leq 6 (ki .u8 122)),oP 8 5 7 (kb false),oM 9 8,gF 10 9 (.mv 0),gF 11 9 (.bin .geq 10 (ki .u8 65)),gF 12 9 (.mv 11),gT 13 12 (.mv 0),gT 14 12 (.bin .leq 13 (ki .u8 90)),gF 15 9 (.pick 12 14 (kb false)),oP 16 9 (kb true) 15,oM 17 16,gF 18 17 (.mv 0),gF 19 17 (.bin .eql 18 (ki .u8 95)),oP 20 17 (kb true) 19,oM 2 20]
 (Fr 2)))⟩
def YlL(lo:Lo):FnE:=Zfe 295 true (Zsg [0] [.i .u8] []) .b [] (fun x=>q45 lo x:Int->Option Bool)
noncomputable def fs46(lo:Lo):List FnE:=YlL lo::fs45 lo
theorem YtN(h:GZ P fm fs45 lo)(t:Ti P fm 295 YtM):GZ P fm fs46 lo:=
  h.p (YlL lo) .n t
def q46_L3_b:VCode:=
 (.seq (Rg [oM 22 3,oM 23 0,o 24 (.lenS 23),oR 25 .lss 22 24]
 (Ce 25 0))
 (.seq (.blk 1 (Rg [oM 28 0,oM 29 3,o 30 (.idx 28 29),oC 31 295 [30],oX 32 31,oM 33 32,gT 34 33 (.mv 0),gT 35 33 (.mv 3),gT 36 33 (.idx 34 35),gT 37 33 (.bin .lss 36 (ki .u8 48)),gT 38 33 (.mv 37),gF 39 38 (.mv 0),gF 40 38 (.mv 3),gF 41 38 (.idx 39 40),gF 42 38 (.bin .gtr 41 (ki .u8 57)),gT 43 33 (.pick 38 (kb true) 42),oP 44 33 43 (kb false)]
 (.cond 44 (Rg [oB 2 false]
 (Fr 2))
 .skip)))
 (.reg [oM 26 3,oR 27 .add 26 (k 1),oM 3 27])))
def Yek(lo:Lo):ByteArray×Int->Option ((ByteArray×Int)⊕ (Bool⊕Unit)):=fun x=>match x with
  | (s0,i3)=>bif(decide (i3< (s0.size:Int)))then(chk (0<=i3/\i3< (s0.size:Int)) (YAr (q45 lo (Ywc s0 i3)) fun y184=>bif(!y184)then(chk (0<=i3/\i3< (s0.size:Int)) (bif(decide ((Ywc s0 i3)< (48:Int)))then(some (.inr (.inl false)))else(chk (0<=i3/\i3< (s0.size:Int)) (bif(decide ((57:Int)< (Ywc s0 i3)))then(some (.inr (.inl false)))else(some (.inl (s0,(YAM .i64 (i3+1)))))))))else(some (.inl (s0,(YAM .i64 (i3+1)))))))else(some (.inr (.inr ())))
def Yf9(lo:Lo):ByteArray×Int->Option (Bool⊕Unit):=lo.run (Yek lo)
def YtO(lo:Lo):LpE:=⟨3,[],(Zsg [0,3] [.s,.j] []),[⟨.ret,(Zsg [2] [.b] [])⟩,⟨.exit 0,(Zsg [] [] [])⟩],Yf9 lo⟩
def YtP(lo:Lo):LL:=(YtO lo,.loop q46_L3_b.er)::[]
theorem YtQ(lo:Lo):Lk lo pf (fs46 lo) 0 (YtP lo):=.l .n (Yek lo)
def q46(lo:Lo)(s0:ByteArray):Option Bool:=
  bif(decide ((s0.size:Int)=0))then(some false)else(bif(decide ((24:Int)< (s0.size:Int)))then(some false)else(chk (0<=(0:Int)/\ (0:Int)< (s0.size:Int)) (YAr (q45 lo (Ywc s0 (0:Int))) fun y183=>bif(!y183)then(some false)else(bif(decide (s0=(YAL #[110,117,108,108])))then(some false)else(YAr (Yf9 lo (s0,(0:Int))) fun y185=>alt2 y185 (fun y186=>some y186) (fun y187=>some true))))))
def YtR:VFn:=⟨true,45,[.t 2],
 (Rg [oB 2 false]
 (.seq (Rg [oM 4 0,o 5 (.lenS 4),oR 6 .eql 5 (k 0),oM 7 6,gF 8 7 (.mv 0),gF 9 7 (.lenS 8),gF 10 7 (.bin .gtr 9 (k 24)),oP 11 7 (kb true) 10,oM 12 11,gF 13 12 (.mv 0),gF 14 12 (.idx 13 (k 0)),gF 15 12 (.call 295 [14]),gF 16 12 (.not 15),oP 17 12 (kb true) 16,oM 18 17,gF 19 18 (.mv 0),gF 20 18 (.bin .eql 19 (ks (⟨#[110,117,108,108]⟩))),oP 21 18 (kb true) 20]
 (.cond 21 (Rg [oB 2 false]
 (Fr 2))
 .skip))
 (.seq (Rg [oK 3 0]
 (.blk 0 (.loop 3 q46_L3_b)))
 (Rg [oB 2 true]
 (Fr 2)))))⟩
def YlM(lo:Lo):FnE:=Zfe 258 true (Zsg [0] [.s] []) .b [] (fun x=>q46 lo x:ByteArray->Option Bool)
noncomputable def fs47(lo:Lo):List FnE:=YlM lo::fs46 lo
theorem YtS(h:GZ P fm fs46 lo)(t:Ti P fm 258 YtR):GZ P fm fs47 lo:=
  h.p (YlM lo) (YtQ lo) t
def q47_L3_b:VCode:=
 (.seq (Rg [oM 6 5,oM 7 0,oN 8 7,oR 9 .lss 6 8]
 (Ce 9 0))
 (.seq (.blk 1 (Rg [oM 12 0,oM 13 5,oI 14 1 12 13,oL 15 14,oM 16 1,oR 17 .eql 15 16]
 (.cond 17 (Rg [oM 18 5,oM 4 18]
 (Fr 4))
 .skip)))
 (.reg [oM 10 5,oR 11 .add 10 (k 1),oM 5 11])))
def Yel(lo:Lo):Zt1×ByteArray×Int->Option ((Zt1×ByteArray×Int)⊕ (Int⊕Unit)):=fun x=>match x with
  | (l0,name1,i5)=>bif(decide (i5< (l0.length:Int)))then(chk (0<=i5/\i5< (l0.length:Int)) (bif(decide ((l0.getD i5.toNat (YAL #[]))=name1))then(some (.inr (.inl i5)))else(some (.inl (l0,name1,(YAM .i64 (i5+1)))))))else(some (.inr (.inr ())))
def Yga(lo:Lo):Zt1×ByteArray×Int->Option (Int⊕Unit):=lo.run (Yel lo)
def YtT(lo:Lo):LpE:=⟨3,[],(Zsg [0,1,5] [.l (cs [.s]),.s,.j] []),[⟨.ret,(Zsg [4] [.j] [])⟩,⟨.exit 0,(Zsg [] [] [])⟩],Yga lo⟩
def YtU(lo:Lo):LL:=(YtT lo,.loop q47_L3_b.er)::[]
theorem YtV(lo:Lo):Lk lo pf (fs47 lo) 0 (YtU lo):=.l .n (Yel lo)
def q47(lo:Lo)(l0:List ByteArray)(name1:ByteArray):Option Int:=
  YAr (Yga lo (l0,name1,(0:Int))) fun y190=>alt2 y190 (fun y191=>some y191) (fun y192=>some (-1:Int))
def YtW:VFn:=⟨true,19,[.t 4],
 (Rg [oK 4 0]
 (.seq (Rg [oK 5 0]
 (.blk 0 (.loop 3 q47_L3_b)))
 (Rg [oK 4 (-1)]
 (Fr 4))))⟩
def YlN(lo:Lo):FnE:=Zfe 272 true (Zsg [0,1] [.l (cs [.s]),.s] []) (.i .i64) [] (fun x=>q47 lo x.1 x.2:Zt1×ByteArray->Option Int)
noncomputable def fs48(lo:Lo):List FnE:=YlN lo::fs47 lo
theorem YtX(h:GZ P fm fs47 lo)(t:Ti P fm 272 YtW):GZ P fm fs48 lo:=
  h.p (YlN lo) (YtV lo) t
def q48_L3_b:VCode:=
 (.seq (Rg [oM 4 3,oM 5 0,oN 6 5,oR 7 .lss 4 6]
 (Ce 7 0))
 (.seq (.blk 1 (Rg [oM 10 0,oM 11 3,oI 12 1 10 11,oL 13 12,oC 14 258 [13],oX 15 14,oM 16 15,gF 17 16 (.mv 0),gF 18 16 (.mv 3),gF 19 16 (.slcR 1 17 none (some 18)),gF 20 16 (.mv 0),gF 21 16 (.mv 3),gF 22 16 (.iad 1 20 21),gF 23 16 (.load false 1 22),gF 24 16 (.call 272 [19,23]),gF 25 16 (.bin .geq 24 (k 0)),oP 26 16 (kb true) 25]
 (.cond 26 (Rg [oB 2 false]
 (Fr 2))
 .skip)))
 (.reg [oM 8 3,oR 9 .add 8 (k 1),oM 3 9])))
def Yem(lo:Lo):Zt1×Int->Option ((Zt1×Int)⊕ (Bool⊕Unit)):=fun x=>match x with
  | (l0,i3)=>bif(decide (i3< (l0.length:Int)))then(chk (0<=i3/\i3< (l0.length:Int)) (YAr (q46 lo (l0.getD i3.toNat (YAL #[]))) fun y189=>bif(!y189)then(some (.inr (.inl false)))else(chk (0<=(0:Int)/\0<=i3/\i3<=(l0.length:Int)) (chk (0<=i3/\i3< (l0.length:Int)) (YAr (q47 lo ((l0.take i3.toNat).drop 0) (l0.getD i3.toNat (YAL #[]))) fun y193=>bif(decide (0<=y193))then(some (.inr (.inl false)))else(some (.inl (l0,(YAM .i64 (i3+1))))))))))else(some (.inr (.inr ())))
def Ygb(lo:Lo):Zt1×Int->Option (Bool⊕Unit):=lo.run (Yem lo)
def YtY(lo:Lo):LpE:=⟨3,[],(Zsg [0,3] [.l (cs [.s]),.j] []),[⟨.ret,(Zsg [2] [.b] [])⟩,⟨.exit 0,(Zsg [] [] [])⟩],Ygb lo⟩
def YtZ(lo:Lo):LL:=(YtY lo,.loop q48_L3_b.er)::[]
theorem Yt0(lo:Lo):Lk lo pf (fs48 lo) 0 (YtZ lo):=.l .n (Yem lo)
def q48(lo:Lo)(l0:List ByteArray):Option Bool:=
  YAr (Ygb lo (l0,(0:Int))) fun y194=>alt2 y194 (fun y195=>some y195) (fun y196=>some true)
def Yt1:VFn:=⟨true,27,[.t 2],
 (Rg [oB 2 false]
 (.seq (Rg [oK 3 0]
 (.blk 0 (.loop 3 q48_L3_b)))
 (Rg [oB 2 true]
 (Fr 2))))⟩
def YlO(lo:Lo):FnE:=Zfe 259 true (Zsg [0] [.l (cs [.s])] []) .b [] (fun x=>q48 lo x:Zt1->Option Bool)
noncomputable def fs49(lo:Lo):List FnE:=YlO lo::fs48 lo
theorem Yt2(h:GZ P fm fs48 lo)(t:Ti P fm 259 Yt1):GZ P fm fs49 lo:=
  h.p (YlO lo) (Yt0 lo) t
def q49(lo:Lo)(v0_0:Int)(v0_1:Int)(v0_2:ByteArray):Option Bool:=
  bif(decide (v0_0=0))then(bif(decide (v0_1=0))then(some (decide (v0_2=(YAL #[]))))else(some false))else(bif(decide (v0_0=1))then(some (decide (v0_2=(YAL #[]))))else(bif(decide (v0_0=2))then(bif(decide (v0_1=0))then(some (decide ((v0_2.size:Int)<=200)))else(some false))else(bif(decide (v0_0=3))then(bif(decide (1<=v0_1))then(some (decide (v0_2=(YAL #[]))))else(some false))else(some false))))
def Yt3:VFn:=⟨true,44,[.t 2],
 (Rg [oG 1 0,oB 2 false]
 (.seq (Rg [oF 3 0 1,oL 4 3]
 (.blk 0 (Rg [oR 6 .eql 4 (k 0),oM 5 6]
 (.cond 5 (Rg [oF 7 1 1,oL 8 7,oR 9 .eql 8 (k 0),oM 10 9,gT 11 10 (.fad 2 1),gT 12 10 (.load false 1 11),gT 13 10 (.bin .eql 12 (ks (⟨#[]⟩))),oP 14 10 13 (kb false),oM 2 14]
 (Fr 2))
 (Rg [oR 16 .eql 4 (k 1),oM 15 16]
 (.cond 15 (Rg [oF 17 2 1,oL 18 17,oR 19 .eql 18 (ks (⟨#[]⟩)),oM 2 19]
 (Fr 2))
 (Rg [oR 21 .eql 4 (k 2),oM 20 21]
 (.cond 20 (Rg [oF 22 1 1,oL 23 22,oR 24 .eql 23 (k 0),oM 25 24,gT 26 25 (.fad 2 1),gT 27 25 (.load false 1 26),gT 28 25 (.lenS 27),gT 29 25 (.bin .leq 28 (k 200)),oP 30 25 29 (kb false),oM 2 30]
 (Fr 2))
 .skip))))))))
 (Rg [oF 31 0 1,oL 32 31,oR 33 .eql 32 (k 3),oM 34 33,gT 35 34 (.fad 1 1),gT 36 34 (.load false 1 35),gT 37 34 (.bin .geq 36 (k 1)),oP 38 34 37 (kb false),oM 39 38,gT 40 39 (.fad 2 1),gT 41 39 (.load false 1 40),gT 42 39 (.bin .eql 41 (ks (⟨#[]⟩))),oP 43 39 42 (kb false),oM 2 43]
 (Fr 2))))⟩
def YlP(lo:Lo):FnE:=Zfe 284 true (Zsg [0] [.ag [.j,.j,.s]] []) .b [] (fun x=>q49 lo x.1 x.2.1 x.2.2:Int×Int×ByteArray->Option Bool)
noncomputable def fs50(lo:Lo):List FnE:=YlP lo::fs49 lo
theorem Yt4(h:GZ P fm fs49 lo)(t:Ti P fm 284 Yt3):GZ P fm fs50 lo:=
  h.p (YlP lo) .n t
def q50_L3_b:VCode:=
 (.seq (Rg [oM 4 3,oM 5 0,oN 6 5,oR 7 .lss 4 6]
 (Ce 7 0))
 (.seq (.blk 1 (Rg [oM 10 0,oM 11 3,oI 12 3 10 11,oT 13 3 12,oC 14 284 [13],oX 15 14]
 (.cond 15 (Rg [oB 2 false]
 (Fr 2))
 .skip)))
 (.reg [oM 8 3,oR 9 .add 8 (k 1),oM 3 9])))
def Yen(lo:Lo):Zt0×Int->Option ((Zt0×Int)⊕ (Bool⊕Unit)):=fun x=>match x with
  | (l0,i3)=>bif(decide (i3< (l0.length:Int)))then(chk (0<=i3/\i3< (l0.length:Int)) (YAr (q49 lo ((l0.getD i3.toNat Zd1).1) ((l0.getD i3.toNat Zd1).2.1) ((l0.getD i3.toNat Zd1).2.2)) fun y198=>bif(!y198)then(some (.inr (.inl false)))else(some (.inl (l0,(YAM .i64 (i3+1)))))))else(some (.inr (.inr ())))
def Ygc(lo:Lo):Zt0×Int->Option (Bool⊕Unit):=lo.run (Yen lo)
def Yt5(lo:Lo):LpE:=⟨3,[],(Zsg [0,3] [.l Zc4,.j] []),[⟨.ret,(Zsg [2] [.b] [])⟩,⟨.exit 0,(Zsg [] [] [])⟩],Ygc lo⟩
def Yt6(lo:Lo):LL:=(Yt5 lo,.loop q50_L3_b.er)::[]
theorem Yt7(lo:Lo):Lk lo pf (fs50 lo) 0 (Yt6 lo):=.l .n (Yen lo)
def q50(lo:Lo)(l0:List (Int×Int×ByteArray)):Option Bool:=
  YAr (Ygc lo (l0,(0:Int))) fun y199=>alt2 y199 (fun y200=>some y200) (fun y201=>some true)
def Yt8:VFn:=⟨true,16,[.t 2],
 (Rg [oB 2 false]
 (.seq (Rg [oK 3 0]
 (.blk 0 (.loop 3 q50_L3_b)))
 (Rg [oB 2 true]
 (Fr 2))))⟩
def YlQ(lo:Lo):FnE:=Zfe 260 true (Zsg [0] [.l Zc4] []) .b [] (fun x=>q50 lo x:Zt0->Option Bool)
noncomputable def fs51(lo:Lo):List FnE:=YlQ lo::fs50 lo
theorem Yt9(h:GZ P fm fs50 lo)(t:Ti P fm 260 Yt8):GZ P fm fs51 lo:=
  h.p (YlQ lo) (Yt7 lo) t
def q51_L3_b:VCode:=
 (.seq (Rg [oM 24 4,oF 25 2 1,oL 26 25,oN 27 26,oR 28 .lss 24 27]
 (Ce 28 0))
 (.seq (.blk 1 (Rg [oF 31 2 1,oL 32 31,oM 33 4,oI 34 2 32 33,oT 35 2 34,o 5 (.alloc [.i .i64 0,.e Zc4]),oS 2 5 35]
 (.seq (Rg [oF 36 0 5,oL 37 36,oM 38 3,oR 39 .leq 37 38]
 (.cond 39 (Rg [oK 2 1]
 (Fr 2))
 .skip))
 (Rg [oF 40 0 5,oL 41 40,oM 3 41]
 (.seq (Rg [oF 42 1 5,oL 43 42,oN 44 43,oF 45 1 1,oL 46 45,oN 47 46,oR 48 .neq 44 47]
 (.cond 48 (Rg [oK 2 6]
 (Fr 2))
 .skip))
 (Rg [oF 49 1 5,oL 50 49,oC 51 260 [50],oX 52 51]
 (.cond 52 (Rg [oK 2 1]
 (Fr 2))
 .skip)))))))
 (.reg [oM 29 4,oR 30 .add 29 (k 1),oM 4 30])))
def Yeo(lo:Lo):Zp26->Option (Zp26⊕ (Int⊕Unit)):=fun x=>match x with
  | (before3,i4,t1_0,t1_1,t1_2)=>bif(decide (i4< (t1_2.length:Int)))then(chk (0<=i4/\i4< (t1_2.length:Int)) (bif(decide ((t1_2.getD i4.toNat ((0:Int),[])).1<=before3))then(some (.inr (.inl (1:Int))))else(bif(!decide ((((t1_2.getD i4.toNat ((0:Int),[])).2).length:Int)=(t1_1.length:Int)))then(some (.inr (.inl (6:Int))))else(YAr (q50 lo ((t1_2.getD i4.toNat ((0:Int),[])).2)) fun y202=>bif(!y202)then(some (.inr (.inl (1:Int))))else(some (.inl ((t1_2.getD i4.toNat ((0:Int),[])).1,(YAM .i64 (i4+1)),t1_0,t1_1,t1_2)))))))else(some (.inr (.inr ())))
def Ygd(lo:Lo):Zp26->Option (Int⊕Unit):=lo.run (Yeo lo)
def Yua(lo:Lo):LpE:=⟨3,[],(Zsg [1,3,4] [.ptr 0 0 0,.j,.j] [.st [.s,.l (cs [.s]),.l Zc2]]),[⟨.ret,(Zsg [2] [.j] [])⟩,⟨.exit 0,(Zsg [] [] [])⟩],Ygd lo⟩
def Yub(lo:Lo):LL:=(Yua lo,.loop q51_L3_b.er)::[]
theorem Yuc(lo:Lo):Lk lo pf (fs51 lo) 0 (Yub lo):=.l .n (Yeo lo)
def q51(lo:Lo)(t0_0:ByteArray)(t0_1:List ByteArray)(t0_2:List (Int×Zt0)):Option Int:=
  YAr (q46 lo t0_0) fun y188=>bif(!y188)then(some (1:Int))else(bif(decide ((16:Int)< (t0_1.length:Int)))then(some (3:Int))else(bif(decide ((1000:Int)< (t0_2.length:Int)))then(some (3:Int))else(YAr (q48 lo t0_1) fun y197=>bif(!y197)then(some (1:Int))else(YAr (Ygd lo ((0:Int),(0:Int),t0_0,t0_1,t0_2)) fun y203=>alt2 y203 (fun y204=>some y204) (fun y205=>some (0:Int))))))
def Yud:VFn:=⟨true,53,[.t 2],
 (Rg [oG 1 0,oK 2 0]
 (.seq (Rg [oF 6 0 1,oL 7 6,oC 8 258 [7],oX 9 8]
 (.cond 9 (Rg [oK 2 1]
 (Fr 2))
 .skip))
 (.seq (Rg [oF 10 1 1,oL 11 10,oN 12 11,oR 13 .gtr 12 (k 16),oM 14 13,gF 15 14 (.fad 2 1),gF 16 14 (.load false 1 15),gF 17 14 (.len 16),gF 18 14 (.bin .gtr 17 (k 1000)),oP 19 14 (kb true) 18]
 (.cond 19 (Rg [oK 2 3]
 (Fr 2))
 .skip))
 (.seq (Rg [oF 20 1 1,oL 21 20,oC 22 259 [21],oX 23 22]
 (.cond 23 (Rg [oK 2 1]
 (Fr 2))
 .skip))
 (Rg [oK 3 0]
 (.seq (Rg [oK 4 0]
 (.blk 0 (.loop 3 q51_L3_b)))
 (Rg [oK 2 0]
 (Fr 2))))))))⟩
def YlR(lo:Lo):FnE:=Zfe 231 true (Zsg [0] [.ag [.s,.l (cs [.s]),.l Zc2]] []) (.i .i64) [] (fun x=>q51 lo x.1 x.2.1 x.2.2:ByteArray×Zt1×Zt3->Option Int)
noncomputable def fs52(lo:Lo):List FnE:=YlR lo::fs51 lo
theorem Yue(h:GZ P fm fs51 lo)(t:Ti P fm 231 Yud):GZ P fm fs52 lo:=
  h.p (YlR lo) (Yuc lo) t
noncomputable def fs53(lo:Lo):List FnE:=fs52 lo
def q53(lo:Lo)(t0_0:ByteArray)(t0_1:List ByteArray)(t0_2:List (Int×Zt0)):Option Bool:=
  bif(decide ((t0_2.length:Int)<=12))then(some (decide ((t0_1.length:Int)<=20)))else(some false)
def Yuf:VFn:=⟨true,13,[.t 2],
 (Rg [oG 1 0,oB 2 false]
 (Rg [oF 3 2 1,oL 4 3,oN 5 4,oR 6 .leq 5 (k 12),oM 7 6,gT 8 7 (.fad 1 1),gT 9 7 (.load false 1 8),gT 10 7 (.len 9),gT 11 7 (.bin .leq 10 (k 20)),oP 12 7 11 (kb false),oM 2 12]
 (Fr 2)))⟩
def YlS(lo:Lo):FnE:=Zfe 232 true (Zsg [0] [.ag [.s,.l (cs [.s]),.l Zc2]] []) .b [] (fun x=>q53 lo x.1 x.2.1 x.2.2:ByteArray×Zt1×Zt3->Option Bool)
noncomputable def fs54(lo:Lo):List FnE:=YlS lo::fs53 lo
theorem Yug(h:GZ P fm fs53 lo)(t:Ti P fm 232 Yuf):GZ P fm fs54 lo:=
  h.p (YlS lo) .n t
noncomputable def fs55(lo:Lo):List FnE:=fs54 lo
noncomputable def fs56(lo:Lo):List FnE:=fs55 lo
noncomputable def fs57(lo:Lo):List FnE:=fs56 lo
def q57(lo:Lo)(a0:Int)(b1:Int):Option Int:=
  bif(decide (a0<b1))then(some (-1:Int))else(bif(decide (b1<a0))then(some (1:Int))else(some (0:Int)))
def Yuh:VFn:=⟨true,11,[.t 4],
 (Rg [oK 4 0]
 (.seq (Rg [oM 5 0,oM 6 1,oR 7 .lss 5 6]
 (.cond 7 (Rg [oK 4 (-1)]
 (Fr 4))
 .skip))
 (.seq (Rg [oM 8 0,oM 9 1,oR 10 .gtr 8 9]
 (.cond 10 (Rg [oK 4 1]
 (Fr 4))
 .skip))
 (Rg [oK 4 0]
 (Fr 4)))))⟩
def YlT(lo:Lo):FnE:=Zfe 303 true (Zsg [0,1] [.j,.j] []) (.i .i64) [] (fun x=>q57 lo x.1 x.2:Int×Int->Option Int)
noncomputable def fs58(lo:Lo):List FnE:=YlT lo::fs57 lo
theorem Yui(h:GZ P fm fs57 lo)(t:Ti P fm 303 Yuh):GZ P fm fs58 lo:=
  h.p (YlT lo) .n t
end Go.Abs.G3c
namespace Go.Abs.G3c
open Go Go.Abs
set_option maxRecDepth 100000
set_option maxHeartbeats 1000000
variable{P:Program}{fm:FM}{lo:Lo}
def q58_L3_b:VCode:=
 (.seq (Rg [oM 6 5,oM 7 0,o 8 (.lenS 7),oR 9 .lss 6 8,oM 10 9,gT 11 10 (.mv 5),gT 12 10 (.mv 1),gT 13 10 (.lenS 12),gT 14 10 (.bin .lss 11 13),oP 15 10 14 (kb false)]
 (Ce 15 0))
 (.seq (.blk 1 (Rg [oM 18 0,oM 19 5,o 20 (.idx 18 19),oM 21 1,oM 22 5,o 23 (.idx 21 22),oR 24 .neq 20 23]
 (.cond 24 (Rg [oM 25 0,oM 26 5,o 27 (.idx 25 26),o 28 (.conv .i64 27),oM 29 1,oM 30 5,o 31 (.idx 29 30),o 32 (.conv .i64 31),oC 33 303 [28,32],oM 4 33]
 (Fr 4))
 .skip)))
 (.reg [oM 16 5,oR 17 .add 16 (k 1),oM 5 17])))
def Yc1(lo:Lo):ByteArray×ByteArray×Int->Option ((ByteArray×ByteArray×Int)⊕ (Int⊕ (ByteArray×ByteArray))):=fun x=>match x with
  | (a0,b1,i5)=>bif(decide (i5< (a0.size:Int)))then(bif(decide (i5< (b1.size:Int)))then(chk (0<=i5/\i5< (a0.size:Int)) (chk (0<=i5/\i5< (b1.size:Int)) (bif(!decide ((Ywc a0 i5)=(Ywc b1 i5)))then(chk (0<=i5/\i5< (a0.size:Int)) (chk (0<=i5/\i5< (b1.size:Int)) (YAr (q57 lo (YAM .i64 (Ywc a0 i5)) (YAM .i64 (Ywc b1 i5))) fun y222=>some (.inr (.inl y222)))))else(some (.inl (a0,b1,(YAM .i64 (i5+1))))))))else(some (.inr (.inr (a0,b1)))))else(some (.inr (.inr (a0,b1))))
def Yge(lo:Lo):ByteArray×ByteArray×Int->Option (Int⊕ (ByteArray×ByteArray)):=lo.run (Yc1 lo)
def Yuj(lo:Lo):LpE:=⟨3,[],(Zsg [0,1,5] [.s,.s,.j] []),[⟨.ret,(Zsg [4] [.j] [])⟩,⟨.exit 0,(Zsg [0,1] [.s,.s] [])⟩],Yge lo⟩
def Yuk(lo:Lo):LL:=(Yuj lo,.loop q58_L3_b.er)::[]
theorem Yul(lo:Lo):Lk lo pf (fs58 lo) 0 (Yuk lo):=.l .n (Yc1 lo)
def q58(lo:Lo)(a0:ByteArray)(b1:ByteArray):Option Int:=
  YAr (Yge lo (a0,b1,(0:Int))) fun y223=>alt2 y223 (fun y224=>some y224) (fun y225=>YAr (q57 lo (y225.1.size:Int) (y225.2.size:Int)) fun y226=>some y226)
def Yum:VFn:=⟨true,39,[.t 4],
 (Rg [oK 4 0]
 (.seq (Rg [oK 5 0]
 (.blk 0 (.loop 3 q58_L3_b)))
 (Rg [oM 34 0,o 35 (.lenS 34),oM 36 1,o 37 (.lenS 36),oC 38 303 [35,37],oM 4 38]
 (Fr 4))))⟩
def YlU(lo:Lo):FnE:=Zfe 320 true (Zsg [0,1] [.s,.s] []) (.i .i64) [] (fun x=>q58 lo x.1 x.2:ByteArray×ByteArray->Option Int)
noncomputable def fs59(lo:Lo):List FnE:=YlU lo::fs58 lo
theorem Yun(h:GZ P fm fs58 lo)(t:Ti P fm 320 Yum):GZ P fm fs59 lo:=
  h.p (YlU lo) (Yul lo) t
def q59(lo:Lo)(a0_0:Int)(a0_1:Int)(a0_2:ByteArray)(b1_0:Int)(b1_1:Int)(b1_2:ByteArray):Option Int:=
  YAr (q57 lo a0_0 b1_0) fun y220=>bif(!decide (y220=0))then(some y220)else(YAr (q57 lo a0_1 b1_1) fun y221=>bif(!decide (y221=0))then(some y221)else(YAr (q58 lo a0_2 b1_2) fun y227=>some y227))
def Yuo:VFn:=⟨true,28,[.t 4],
 (Rg [oG 2 0,oG 3 1,oK 4 0]
 (.seq (Rg [oF 7 0 2,oL 8 7,oF 9 0 3,oL 10 9,oC 11 303 [8,10],oM 5 11]
 (Rg [oM 12 5,oR 13 .neq 12 (k 0)]
 (.cond 13 (Rg [oM 14 5,oM 4 14]
 (Fr 4))
 .skip)))
 (.seq (Rg [oF 15 1 2,oL 16 15,oF 17 1 3,oL 18 17,oC 19 303 [16,18],oM 6 19]
 (Rg [oM 20 6,oR 21 .neq 20 (k 0)]
 (.cond 21 (Rg [oM 22 6,oM 4 22]
 (Fr 4))
 .skip)))
 (Rg [oF 23 2 2,oL 24 23,oF 25 2 3,oL 26 25,oC 27 320 [24,26],oM 4 27]
 (Fr 4)))))⟩
def YlV(lo:Lo):FnE:=Zfe 302 true (Zsg [0,1] [.ag [.j,.j,.s],.ag [.j,.j,.s]] []) (.i .i64) [] (fun x=>q59 lo x.1 x.2.1 x.2.2.1 x.2.2.2.1 x.2.2.2.2.1 x.2.2.2.2.2:Int×Int×ByteArray×Int×Int×ByteArray->Option Int)
noncomputable def fs60(lo:Lo):List FnE:=YlV lo::fs59 lo
theorem Yup(h:GZ P fm fs59 lo)(t:Ti P fm 302 Yuo):GZ P fm fs60 lo:=
  h.p (YlV lo) .n t
def q60_L3_b:VCode:=
 (.seq (Rg [oM 7 5,oM 8 0,oN 9 8,oR 10 .lss 7 9,oM 11 10,gT 12 11 (.mv 5),gT 13 11 (.mv 1),gT 14 11 (.len 13),gT 15 11 (.bin .lss 12 14),oP 16 11 15 (kb false)]
 (Ce 16 0))
 (.seq (.blk 1 (Rg [oM 19 0,oM 20 5,oI 21 3 19 20,oT 22 3 21,oM 23 1,oM 24 5,oI 25 3 23 24,oT 26 3 25,oC 27 302 [22,26],oM 6 27]
 (Rg [oM 28 6,oR 29 .neq 28 (k 0)]
 (.cond 29 (Rg [oM 30 6,oM 4 30]
 (Fr 4))
 .skip))))
 (.reg [oM 17 5,oR 18 .add 17 (k 1),oM 5 18])))
def Yc2(lo:Lo):Zt0×Zt0×Int->Option ((Zt0×Zt0×Int)⊕ (Int⊕ (Zt0×Zt0))):=fun x=>match x with
  | (a0,b1,i5)=>bif(decide (i5< (a0.length:Int)))then(bif(decide (i5< (b1.length:Int)))then(chk (0<=i5/\i5< (a0.length:Int)) (chk (0<=i5/\i5< (b1.length:Int)) (YAr (q59 lo ((a0.getD i5.toNat Zd1).1) ((a0.getD i5.toNat Zd1).2.1) ((a0.getD i5.toNat Zd1).2.2) ((b1.getD i5.toNat Zd1).1) ((b1.getD i5.toNat Zd1).2.1) ((b1.getD i5.toNat Zd1).2.2)) fun y228=>bif(!decide (y228=0))then(some (.inr (.inl y228)))else(some (.inl (a0,b1,(YAM .i64 (i5+1))))))))else(some (.inr (.inr (a0,b1)))))else(some (.inr (.inr (a0,b1))))
def Ygf(lo:Lo):Zt0×Zt0×Int->Option (Int⊕ (Zt0×Zt0)):=lo.run (Yc2 lo)
def Yuq(lo:Lo):LpE:=⟨3,[],(Zsg [0,1,5] [.l Zc4,.l Zc4,.j] []),[⟨.ret,(Zsg [4] [.j] [])⟩,⟨.exit 0,(Zsg [0,1] [.l Zc4,.l Zc4] [])⟩],Ygf lo⟩
def Yur(lo:Lo):LL:=(Yuq lo,.loop q60_L3_b.er)::[]
theorem Yus(lo:Lo):Lk lo pf (fs60 lo) 0 (Yur lo):=.l .n (Yc2 lo)
def q60(lo:Lo)(a0:List (Int×Int×ByteArray))(b1:List (Int×Int×ByteArray)):Option Int:=
  YAr (Ygf lo (a0,b1,(0:Int))) fun y229=>alt2 y229 (fun y230=>some y230) (fun y231=>YAr (q57 lo (y231.1.length:Int) (y231.2.length:Int)) fun y232=>some y232)
def Yut:VFn:=⟨true,36,[.t 4],
 (Rg [oK 4 0]
 (.seq (Rg [oK 5 0]
 (.blk 0 (.loop 3 q60_L3_b)))
 (Rg [oM 31 0,oN 32 31,oM 33 1,oN 34 33,oC 35 303 [32,34],oM 4 35]
 (Fr 4))))⟩
def YlW(lo:Lo):FnE:=Zfe 274 true (Zsg [0,1] [.l Zc4,.l Zc4] []) (.i .i64) [] (fun x=>q60 lo x.1 x.2:Zt0×Zt0->Option Int)
noncomputable def fs61(lo:Lo):List FnE:=YlW lo::fs60 lo
theorem Yuu(h:GZ P fm fs60 lo)(t:Ti P fm 274 Yut):GZ P fm fs61 lo:=
  h.p (YlW lo) (Yus lo) t
def q61(lo:Lo)(a0:List (Int×Int×ByteArray))(b1:List (Int×Int×ByteArray)):Option Bool:=
  YAr (q60 lo a0 b1) fun y233=>some (decide (y233=0))
def Yuv:VFn:=⟨true,9,[.t 4],
 (Rg [oB 4 false]
 (Rg [oM 5 0,oM 6 1,oC 7 274 [5,6],oR 8 .eql 7 (k 0),oM 4 8]
 (Fr 4)))⟩
def YlX(lo:Lo):FnE:=Zfe 297 true (Zsg [0,1] [.l Zc4,.l Zc4] []) .b [] (fun x=>q61 lo x.1 x.2:Zt0×Zt0->Option Bool)
noncomputable def fs62(lo:Lo):List FnE:=YlX lo::fs61 lo
theorem Yuw(h:GZ P fm fs61 lo)(t:Ti P fm 297 Yuv):GZ P fm fs62 lo:=
  h.p (YlX lo) .n t
noncomputable def fs63(lo:Lo):List FnE:=fs62 lo
noncomputable def fs64(lo:Lo):List FnE:=fs63 lo
def q64_L3_b:VCode:=
 (.seq (Rg [oM 11 5,oM 12 0,oN 13 12,oR 14 .lss 11 13]
 (Ce 14 0))
 (.seq (.blk 1 (Rg [oM 17 0,oM 18 5,oI 19 1 17 18,oL 20 19,oM 21 1,oM 22 5,oI 23 1 21 22,oL 24 23,oR 25 .neq 20 24]
 (.cond 25 (Rg [oB 4 false]
 (Fr 4))
 .skip)))
 (.reg [oM 15 5,oR 16 .add 15 (k 1),oM 5 16])))
def Yep(lo:Lo):Zt1×Zt1×Int->Option ((Zt1×Zt1×Int)⊕ (Bool⊕Unit)):=fun x=>match x with
  | (a0,b1,i5)=>bif(decide (i5< (a0.length:Int)))then(chk (0<=i5/\i5< (a0.length:Int)) (chk (0<=i5/\i5< (b1.length:Int)) (bif(!decide ((a0.getD i5.toNat (YAL #[]))=(b1.getD i5.toNat (YAL #[]))))then(some (.inr (.inl false)))else(some (.inl (a0,b1,(YAM .i64 (i5+1))))))))else(some (.inr (.inr ())))
def Ygg(lo:Lo):Zt1×Zt1×Int->Option (Bool⊕Unit):=lo.run (Yep lo)
def Yux(lo:Lo):LpE:=⟨3,[],(Zsg [0,1,5] [.l (cs [.s]),.l (cs [.s]),.j] []),[⟨.ret,(Zsg [4] [.b] [])⟩,⟨.exit 0,(Zsg [] [] [])⟩],Ygg lo⟩
def Yuy(lo:Lo):LL:=(Yux lo,.loop q64_L3_b.er)::[]
theorem Yuz(lo:Lo):Lk lo pf (fs64 lo) 0 (Yuy lo):=.l .n (Yep lo)
def q64(lo:Lo)(a0:List ByteArray)(b1:List ByteArray):Option Bool:=
  bif(!decide ((a0.length:Int)=(b1.length:Int)))then(some false)else(YAr (Ygg lo (a0,b1,(0:Int))) fun y241=>alt2 y241 (fun y242=>some y242) (fun y243=>some true))
def YuA:VFn:=⟨true,26,[.t 4],
 (Rg [oB 4 false]
 (.seq (Rg [oM 6 0,oN 7 6,oM 8 1,oN 9 8,oR 10 .neq 7 9]
 (.cond 10 (Rg [oB 4 false]
 (Fr 4))
 .skip))
 (.seq (Rg [oK 5 0]
 (.blk 0 (.loop 3 q64_L3_b)))
 (Rg [oB 4 true]
 (Fr 4)))))⟩
def YlY(lo:Lo):FnE:=Zfe 265 true (Zsg [0,1] [.l (cs [.s]),.l (cs [.s])] []) .b [] (fun x=>q64 lo x.1 x.2:Zt1×Zt1->Option Bool)
noncomputable def fs65(lo:Lo):List FnE:=YlY lo::fs64 lo
theorem YuB(h:GZ P fm fs64 lo)(t:Ti P fm 265 YuA):GZ P fm fs65 lo:=
  h.p (YlY lo) (Yuz lo) t
def q65(lo:Lo)(a0_0:Int)(a0_1:List (Int×Int×ByteArray))(b1_0:Int)(b1_1:List (Int×Int×ByteArray)):Option Bool:=
  bif(decide (a0_0=b1_0))then(YAr (q61 lo a0_1 b1_1) fun y245=>some y245)else(some false)
def YuC:VFn:=⟨true,17,[.t 4],
 (Rg [oG 2 0,oG 3 1,oB 4 false]
 (Rg [oF 5 0 2,oL 6 5,oF 7 0 3,oL 8 7,oR 9 .eql 6 8,oM 10 9,gT 11 10 (.fad 1 2),gT 12 10 (.load false 1 11),gT 13 10 (.fad 1 3),gT 14 10 (.load false 1 13),gT 15 10 (.call 297 [12,14]),oP 16 10 15 (kb false),oM 4 16]
 (Fr 4)))⟩
def YlZ(lo:Lo):FnE:=Zfe 266 true (Zsg [0,1] [.ag [.j,.l Zc4],.ag [.j,.l Zc4]] []) .b [] (fun x=>q65 lo x.1 x.2.1 x.2.2.1 x.2.2.2:Int×Zt0×Int×Zt0->Option Bool)
noncomputable def fs66(lo:Lo):List FnE:=YlZ lo::fs65 lo
theorem YuD(h:GZ P fm fs65 lo)(t:Ti P fm 266 YuC):GZ P fm fs66 lo:=
  h.p (YlZ lo) .n t
def q66_L3_b:VCode:=
 (.seq (Rg [oM 28 5,oF 29 2 2,oL 30 29,oN 31 30,oR 32 .lss 28 31]
 (Ce 32 0))
 (.seq (.blk 1 (Rg [oF 35 2 2,oL 36 35,oM 37 5,oI 38 2 36 37,oT 39 2 38,oF 40 2 3,oL 41 40,oM 42 5,oI 43 2 41 42,oT 44 2 43,oC 45 266 [39,44],oX 46 45]
 (.cond 46 (Rg [oB 4 false]
 (Fr 4))
 .skip)))
 (.reg [oM 33 5,oR 34 .add 33 (k 1),oM 5 34])))
def Yeq(lo:Lo):Zp19->Option (Zp19⊕ (Bool⊕Unit)):=fun x=>match x with
  | (i5,a2_0,a2_1,a2_2,b3_0,b3_1,b3_2)=>bif(decide (i5< (a2_2.length:Int)))then(chk (0<=i5/\i5< (a2_2.length:Int)) (chk (0<=i5/\i5< (b3_2.length:Int)) (YAr (q65 lo ((a2_2.getD i5.toNat ((0:Int),[])).1) ((a2_2.getD i5.toNat ((0:Int),[])).2) ((b3_2.getD i5.toNat ((0:Int),[])).1) ((b3_2.getD i5.toNat ((0:Int),[])).2)) fun y246=>bif(!y246)then(some (.inr (.inl false)))else(some (.inl ((YAM .i64 (i5+1)),a2_0,a2_1,a2_2,b3_0,b3_1,b3_2))))))else(some (.inr (.inr ())))
def Ygh(lo:Lo):Zp19->Option (Bool⊕Unit):=lo.run (Yeq lo)
def YuE(lo:Lo):LpE:=⟨3,[],(Zsg [2,3,5] [.ptr 0 0 0,.ptr 1 0 0,.j] [.st [.s,.l (cs [.s]),.l Zc2],.st [.s,.l (cs [.s]),.l Zc2]]),[⟨.ret,(Zsg [4] [.b] [])⟩,⟨.exit 0,(Zsg [] [] [])⟩],Ygh lo⟩
def YuF(lo:Lo):LL:=(YuE lo,.loop q66_L3_b.er)::[]
theorem YuG(lo:Lo):Lk lo pf (fs66 lo) 0 (YuF lo):=.l .n (Yeq lo)
def q66(lo:Lo)(a0_0:ByteArray)(a0_1:List ByteArray)(a0_2:List (Int×Zt0))(b1_0:ByteArray)(b1_1:List ByteArray)(b1_2:List (Int×Zt0)):Option Bool:=
  bif(!decide (a0_0=b1_0))then(some false)else(YAr (q64 lo a0_1 b1_1) fun y244=>bif(!y244)then(some false)else(bif(!decide ((a0_2.length:Int)=(b1_2.length:Int)))then(some false)else(YAr (Ygh lo ((0:Int),a0_0,a0_1,a0_2,b1_0,b1_1,b1_2)) fun y247=>alt2 y247 (fun y248=>some y248) (fun y249=>some true))))
def YuH:VFn:=⟨true,47,[.t 4],
 (Rg [oG 2 0,oG 3 1,oB 4 false]
 (.seq (Rg [oF 6 0 2,oL 7 6,oF 8 0 3,oL 9 8,oR 10 .neq 7 9,oM 11 10,gF 12 11 (.fad 1 2),gF 13 11 (.load false 1 12),gF 14 11 (.fad 1 3),gF 15 11 (.load false 1 14),gF 16 11 (.call 265 [13,15]),gF 17 11 (.not 16),oP 18 11 (kb true) 17,oM 19 18,gF 20 19 (.fad 2 2),gF 21 19 (.load false 1 20),gF 22 19 (.len 21),gF 23 19 (.fad 2 3),gF 24 19 (.load false 1 23),gF 25 19 (.len 24),gF 26 19 (.bin .neq 22 25),oP 27 19 (kb true) 26]
 (.cond 27 (Rg [oB 4 false]
 (Fr 4))
 .skip))
 (.seq (Rg [oK 5 0]
 (.blk 0 (.loop 3 q66_L3_b)))
 (Rg [oB 4 true]
 (Fr 4)))))⟩
def Yl0(lo:Lo):FnE:=Zfe 235 true (Zsg [0,1] [.ag [.s,.l (cs [.s]),.l Zc2],.ag [.s,.l (cs [.s]),.l Zc2]] []) .b [] (fun x=>q66 lo x.1 x.2.1 x.2.2.1 x.2.2.2.1 x.2.2.2.2.1 x.2.2.2.2.2:Zp22->Option Bool)
noncomputable def fs67(lo:Lo):List FnE:=Yl0 lo::fs66 lo
theorem YuI(h:GZ P fm fs66 lo)(t:Ti P fm 235 YuH):GZ P fm fs67 lo:=
  h.p (Yl0 lo) (YuG lo) t
noncomputable def fs68(lo:Lo):List FnE:=fs67 lo
noncomputable def fs69(lo:Lo):List FnE:=fs68 lo
end Go.Abs.G3c
namespace Go.Abs.G3c
open Go Go.Abs
set_option maxRecDepth 100000
set_option maxHeartbeats 1000000
variable{P:Program}{fm:FM}{lo:Lo}
noncomputable def fs70(lo:Lo):List FnE:=fs69 lo
noncomputable def fs71(lo:Lo):List FnE:=fs70 lo
noncomputable def fs72(lo:Lo):List FnE:=fs71 lo
noncomputable def fs73(lo:Lo):List FnE:=fs72 lo
noncomputable def fs74(lo:Lo):List FnE:=fs73 lo
end Go.Abs.G3c
namespace Go.Abs.G3c
open Go Go.Abs
set_option maxRecDepth 100000
set_option maxHeartbeats 1000000
variable{P:Program}{fm:FM}{lo:Lo}
noncomputable def fs75(lo:Lo):List FnE:=fs74 lo
noncomputable def fs76(lo:Lo):List FnE:=fs75 lo
noncomputable def fs77(lo:Lo):List FnE:=fs76 lo
noncomputable def fs78(lo:Lo):List FnE:=fs77 lo
noncomputable def fs79(lo:Lo):List FnE:=fs78 lo
def q79(lo:Lo)(r0_0:Int)(r0_1:List (Int×Int×ByteArray))(v1:Int):Option (Bool×Int):=
  some ((decide (r0_0=v1)),v1)
def YuJ:VFn:=⟨true,8,[.t 3],
 (Rg [oG 2 0,oB 3 false]
 (Rg [oF 4 0 2,oL 5 4,oL 6 1,oR 7 .eql 5 6,oM 3 7]
 .ret))⟩
def Yl1(lo:Lo):FnE:=Zfe 278 false (Zsg [0,1] [.ag [.j,.l Zc4],.ptr 0 0 0] [.st [.j]]) .b [.st [.j]] (fun x=>q79 lo x.1 x.2.1 x.2.2:Int×Zt0×Int->Option (Bool×Int))
noncomputable def fs80(lo:Lo):List FnE:=Yl1 lo::fs79 lo
theorem YuK(h:GZ P fm fs79 lo)(t:Ti P fm 278 YuJ):GZ P fm fs80 lo:=
  h.i (Yl1 lo) .n t
def q80_L3_b:VCode:=
 (Rg [oR 9 .lss 8 7]
 (.seq (Ce 9 0)
 (.seq (.blk 1 (Rg [oM 10 8,oM 5 10]
 (Rg [oM 11 1,oM 12 0,oM 13 5,oI 14 2 12 13,oT 15 2 14,o 16 (.dyn 11 [15])]
 (.cond 16 (Rg [oM 17 5,oM 4 17]
 .ret)
 .skip))))
 (.reg [oR 18 .add 8 (k 1),oM 8 18]))))
def Yer(lo:Lo):Zt3×Int×Int×Int->Option ((Zt3×Int×Int×Int)⊕ ((Int×Int)⊕Int)):=fun x=>match x with
  | (s0,v7,v8,h0)=>bif(decide (v8<v7))then(chk (0<=v8/\v8< (s0.length:Int)) (YAr (q79 lo ((s0.getD v8.toNat ((0:Int),[])).1) ((s0.getD v8.toNat ((0:Int),[])).2) h0) fun y326=>bif y326.1 then(some (.inr (.inl (v8,y326.2))))else(some (.inl (s0,v7,(YAM .i64 (v8+1)),y326.2)))))else(some (.inr (.inr h0)))
def Ygi(lo:Lo):Zt3×Int×Int×Int->Option ((Int×Int)⊕Int):=lo.run (Yer lo)
def YuL(lo:Lo):LpE:=⟨3,[],(Zsg [0,1,7,8] [.l Zc2,.clo 278 [.ptr 0 0 0],.j,.j] [.st [.j]]),[⟨.ret,(Zsg [4] [.j] [.st [.j]])⟩,⟨.exit 0,(Zsg [] [] [.st [.j]])⟩],Ygi lo⟩
def YuM(lo:Lo):LL:=(YuL lo,.loop q80_L3_b.er)::[]
theorem YuN(lo:Lo):Lk lo pf (fs80 lo) 1 (YuM lo):=.l .n (Yer lo)
def q80(lo:Lo)(s0:List (Int×Zt0))(h0:Int):Option (Int×Int):=
  YAr (Ygi lo (s0,(s0.length:Int),(0:Int),h0)) fun y327=>alt2 y327 (fun y328=>some (y328.1,y328.2)) (fun y329=>some ((-1:Int),y329))
def YuO:VFn:=⟨true,19,[.t 4],
 (Rg [oK 4 0]
 (.seq (Rg [oM 6 0,oN 7 6,oK 8 0]
 (.blk 0 (.loop 3 q80_L3_b)))
 (Rg [oK 4 (-1)]
 .ret)))⟩
def Yl2(lo:Lo):FnE:=Zfe 277 false (Zsg [0,1] [.l Zc2,.clo 278 [.ptr 0 0 0]] [.st [.j]]) (.i .i64) [.st [.j]] (fun x=>q80 lo x.1 x.2:Zt3×Int->Option (Int×Int))
noncomputable def fs81(lo:Lo):List FnE:=Yl2 lo::fs80 lo
theorem YuP(h:GZ P fm fs80 lo)(t:Ti P fm 277 YuO):GZ P fm fs81 lo:=
  h.i (Yl2 lo) (YuN lo) t
def q81(lo:Lo)(t0_0:ByteArray)(t0_1:List ByteArray)(t0_2:List (Int×Zt0))(id1:Int):Option (Int×Bool):=
  YAr (q80 lo t0_2 id1) fun y330=>some ((max y330.1 (0:Int)),(decide ((0:Int)<=y330.1)))
def YuQ:VFn:=⟨true,15,[.t 4,.t 5],
 (Rg [oG 2 0,oG 3 1,oK 4 0,oB 5 false]
 (Rg [oF 7 2 2,oL 8 7,o 9 (.mkf 278 [3]),oC 10 277 [8,9],oM 6 10]
 (Rg [oM 11 6,o 12 (.mm true [11,(k 0)]),oM 13 6,oR 14 .geq 13 (k 0),oM 4 12,oM 5 14]
 (.fz [4,5] .ret))))⟩
def Yl3(lo:Lo):FnE:=Zfe 242 true (Zsg [0,1] [.ag [.s,.l (cs [.s]),.l Zc2],.j] []) (.tp [.j,.b]) [] (fun x=>q81 lo x.1 x.2.1 x.2.2.1 x.2.2.2:ByteArray×Zt1×Zt3×Int->Option (Int×Bool))
noncomputable def fs82(lo:Lo):List FnE:=Yl3 lo::fs81 lo
theorem YuR(h:GZ P fm fs81 lo)(t:Ti P fm 242 YuQ):GZ P fm fs82 lo:=
  h.p (Yl3 lo) .n t
def q82_L3_b:VCode:=
 (.seq (Rg [oM 7 6,oF 8 2 2,oL 9 8,oN 10 9,oR 11 .lss 7 10]
 (Ce 11 0))
 (.seq (.blk 1 (Rg [oF 14 2 2,oL 15 14,oM 16 6,oI 17 2 15 16,oF 18 0 17,oL 19 18,oM 20 1,oR 21 .eql 19 20]
 (.cond 21 (Rg [oM 22 6,oM 4 22,oB 5 true]
 (.fz [4,5] .ret))
 .skip)))
 (.reg [oM 12 6,oR 13 .add 12 (k 1),oM 6 13])))
def Yes(lo:Lo):Zp26->Option (Zp26⊕ ((Int×Bool)⊕Unit)):=fun x=>match x with
  | (id1,i6,t2_0,t2_1,t2_2)=>bif(decide (i6< (t2_2.length:Int)))then(chk (0<=i6/\i6< (t2_2.length:Int)) (bif(decide ((t2_2.getD i6.toNat ((0:Int),[])).1=id1))then(some (.inr (.inl (i6,true))))else(some (.inl (id1,(YAM .i64 (i6+1)),t2_0,t2_1,t2_2)))))else(some (.inr (.inr ())))
def Ygj(lo:Lo):Zp26->Option ((Int×Bool)⊕Unit):=lo.run (Yes lo)
def YuS(lo:Lo):LpE:=⟨3,[],(Zsg [1,2,6] [.j,.ptr 0 0 0,.j] [.st [.s,.l (cs [.s]),.l Zc2]]),[⟨.ret,(Zsg [4,5] [.j,.b] [])⟩,⟨.exit 0,(Zsg [] [] [])⟩],Ygj lo⟩
def YuT(lo:Lo):LL:=(YuS lo,.loop q82_L3_b.er)::[]
theorem YuU(lo:Lo):Lk lo pf (fs82 lo) 0 (YuT lo):=.l .n (Yes lo)
def q82(lo:Lo)(t0_0:ByteArray)(t0_1:List ByteArray)(t0_2:List (Int×Zt0))(id1:Int):Option (Int×Bool):=
  YAr (Ygj lo (id1,(0:Int),t0_0,t0_1,t0_2)) fun y332=>alt2 y332 (fun y333=>some (y333.1,y333.2)) (fun y334=>some ((0:Int),false))
def YuV:VFn:=⟨true,23,[.t 4,.t 5],
 (Rg [oG 2 0,oK 4 0,oB 5 false]
 (.seq (Rg [oK 6 0]
 (.blk 0 (.loop 3 q82_L3_b)))
 (Rg [oK 4 0,oB 5 false]
 (.fz [4,5] .ret))))⟩
def Yl4(lo:Lo):FnE:=Zfe 243 true (Zsg [0,1] [.ag [.s,.l (cs [.s]),.l Zc2],.j] []) (.tp [.j,.b]) [] (fun x=>q82 lo x.1 x.2.1 x.2.2.1 x.2.2.2:ByteArray×Zt1×Zt3×Int->Option (Int×Bool))
noncomputable def fs83(lo:Lo):List FnE:=Yl4 lo::fs82 lo
theorem YuW(h:GZ P fm fs82 lo)(t:Ti P fm 243 YuV):GZ P fm fs83 lo:=
  h.p (Yl4 lo) (YuU lo) t
noncomputable def fs84(lo:Lo):List FnE:=fs83 lo
noncomputable def fs85(lo:Lo):List FnE:=fs84 lo
noncomputable def fs86(lo:Lo):List FnE:=fs85 lo
def q86(lo:Lo)(l:List (Int×Int×ByteArray)):Option Zt0:=bif YAi l.length maxEl&&YAi 1 3 then some l else none
def YuX(lo:Lo):FnE:=vcloneE 308 Zc4
noncomputable def fs87(lo:Lo):List FnE:=YuX lo::fs86 lo
theorem YuY(h:GZ P fm fs86 lo)(htie: ∀f,fm f=308->fnTr P fm pf f=some (8,[.t 2],YwU 3 [(.int .i64 0),(.int .i64 0),(.string (⟨#[]⟩))])):GZ P fm fs87 lo:=
  ⟨h.1,h.2,YjF h.S h.mx Zc4 rfl [(.int .i64 0),(.int .i64 0),(.string (⟨#[]⟩))] 8 (by decide) htie⟩
def q87(lo:Lo)(r0_0:Int)(r0_1:List (Int×Int×ByteArray)):Option (Int×Zt0):=
  YAr (q86 lo r0_1) fun y344=>some (r0_0,y344)
def YuZ:VFn:=⟨true,9,[.c 2 true 2],
 (Rg [oG 1 0,o 2 (.alloc [.i .i64 0,.e Zc4])]
 (Rg [oF 3 0 1,⟨some 4,.load false 1 3,none,true,false⟩,oF 5 1 1,oL 6 5,o 7 (.callN 308 [6] false),o 8 (.build [.i .i64 0,.e Zc4] [(0,1,4),(1,1,7)]),oS 2 2 8]
 .ret))⟩
def Yl5(lo:Lo):FnE:=Zfe 289 false (Zsg [0] [.ag [.j,.l Zc4]] []) (.ag [.j,.ref 0]) [.sq Zc4] (fun x=>q87 lo x.1 x.2:Int×Zt0->Option (Int×Zt0))
noncomputable def fs88(lo:Lo):List FnE:=Yl5 lo::fs87 lo
theorem Yu0(h:GZ P fm fs87 lo)(t:Ti P fm 289 YuZ):GZ P fm fs88 lo:=
  h.i (Yl5 lo) .n t
noncomputable def fs89(lo:Lo):List FnE:=fs88 lo
noncomputable def fs90(lo:Lo):List FnE:=fs89 lo
noncomputable def fs91(lo:Lo):List FnE:=fs90 lo
def q91(lo:Lo)(r0_0:Int)(r0_1:List (Int×Int×ByteArray)):Option (Int×Zt0):=
  chk (r0_1.length<=maxEl) (some (r0_0,r0_1))
def Yu1:VFn:=⟨true,10,[.c 2 true 2],
 (Rg [oG 1 0,o 2 (.alloc [.i .i64 0,.e Zc4])]
 (Rg [oF 3 0 1,⟨some 4,.load false 1 3,none,true,false⟩,o 5 (.bsl Zc4 0 []),oF 6 1 1,oL 7 6,⟨some 8,.app Zc4 0 5 7,none,false,true⟩,o 9 (.build [.i .i64 0,.e Zc4] [(0,1,4),(1,1,8)]),oS 2 2 9]
 .ret))⟩
def Yl6(lo:Lo):FnE:=Zfe 290 false (Zsg [0] [.ag [.j,.l Zc4]] []) (.ag [.j,.ref 0]) [.sq Zc4] (fun x=>q91 lo x.1 x.2:Int×Zt0->Option (Int×Zt0))
noncomputable def fs92(lo:Lo):List FnE:=Yl6 lo::fs91 lo
theorem Yu2(h:GZ P fm fs91 lo)(t:Ti P fm 290 Yu1):GZ P fm fs92 lo:=
  h.i (Yl6 lo) .n t
noncomputable def fs93(lo:Lo):List FnE:=fs92 lo
end Go.Abs.G3c
namespace Go.Abs.G3c
open Go Go.Abs
set_option maxRecDepth 100000
set_option maxHeartbeats 1000000
variable{P:Program}{fm:FM}{lo:Lo}
noncomputable def fs94(lo:Lo):List FnE:=fs93 lo
noncomputable def fs95(lo:Lo):List FnE:=fs94 lo
def q95_L3_b:VCode:=
 (Rg [oR 17 .lss 16 15]
 (.seq (Ce 17 0)
 (.seq (.blk 1 (Rg [oI 18 2 14 16,oT 19 2 18,o 7 (.alloc [.i .i64 0,.e Zc4]),oS 2 7 19]
 (.reg [oF 20 2 5,⟨some 21,.load false 1 20,none,true,false⟩,oT 22 2 7,⟨some 23,.call 289 [22],none,false,true⟩,o 24 (.bsl Zc2 1 [(0,23)]),o 25 (.app Zc2 2 21 24),oF 26 2 5,oS 1 26 25])))
 (.reg [oR 27 .add 16 (k 1),oM 16 27]))))
def Yet(lo:Lo):Zp16->Option (Zp16⊕ (Zp22)):=fun x=>match x with
  | (v14,v15,v16,v4_0,v4_1,v4_2,out5,h2,h3)=>bif(decide (v16<v15))then(chk (0<=v16/\v16< (v14.length:Int)) (YAr (q87 lo ((v14.getD v16.toNat ((0:Int),[])).1) ((v14.getD v16.toNat ((0:Int),[])).2)) fun y367=>chk (h3.length+1<=maxEl) (some (.inl (v14,v15,(YAM .i64 (v16+1)),v4_0,v4_1,v4_2,out5,h2,(h3++[y367]))))))else(some (.inr (v4_0,v4_1,v4_2,out5,h2,h3)))
def Ygk(lo:Lo):Zp16->Option (Zp22):=lo.run (Yet lo)
def Yu3(lo:Lo):LpE:=⟨3,[(5,some 2,true)],(Zsg [4,5,14,15,16] [.ptr 0 0 0,.ptr 1 0 0,.l Zc2,.j,.j] [.st [.s,.l (cs [.s]),.l Zc2],.st [.s,.ref 2,.ref 3],.sq (cs [.s]),.fm (cs [I]) true Zc4]),[⟨.exit 0,(Zsg [4,5] [.ptr 0 0 0,.ptr 1 0 0] [.st [.s,.l (cs [.s]),.l Zc2],.st [.s,.ref 2,.ref 3],.sq (cs [.s]),.fm (cs [I]) true Zc4])⟩],Ygk lo⟩
def Yu4(lo:Lo):LL:=(Yu3 lo,.loop q95_L3_b.er)::[]
theorem Yu5(lo:Lo):Lk lo pf (fs95 lo) 0 (Yu4 lo):=.l .n (Yet lo)
def q95(lo:Lo)(t0_0:ByteArray)(t0_1:List ByteArray)(t0_2:List (Int×Zt0))(rows1:List (Int×Zt0)):Option (ByteArray×Zt1×Zt3):=
  YAr (q19 lo t0_1) fun y366=>YAr (Ygk lo (rows1,(rows1.length:Int),(0:Int),(YAL #[]),([]:List ByteArray),([]:List (Int×Zt0)),t0_0,y366,[])) fun y368=>some (y368.2.2.2.1,y368.2.2.2.2.1,y368.2.2.2.2.2)
def Yu6:VFn:=⟨true,29,[.c 4 true 3],
 (Rg [oG 2 0,o 4 (.alloc [.s (⟨#[]⟩),.e (cs [.s]),.e Zc2])]
 (Rg [oF 8 0 2,⟨some 9,.load false 1 8,none,true,false⟩,oF 10 1 2,⟨some 11,.load false 1 10,none,true,false⟩,⟨some 12,.callN 269 [11] false,none,true,false⟩,o 13 (.build [.s (⟨#[]⟩),.e (cs [.s]),.e Zc2] [(0,1,9),(1,1,12)]),o 5 (.alloc [.s (⟨#[]⟩),.e (cs [.s]),.e Zc2]),oS 3 5 13]
 (.seq (Rg [oM 14 1,oN 15 14,oK 16 0]
 (.blk 0 (.loop 3 q95_L3_b)))
 (Rg [oT 28 3 5,oS 3 4 28]
 .ret))))⟩
def Yl7(lo:Lo):FnE:=Zfe 280 false (Zsg [0,1] [.ag [.s,.l (cs [.s]),.l Zc2],.l Zc2] []) (.ag [.s,.ref 0,.ref 1]) [.sq (cs [.s]),.fm (cs [I]) true Zc4] (fun x=>q95 lo x.1 x.2.1 x.2.2.1 x.2.2.2:ByteArray×Zt1×Zt3×Zt3->Option (ByteArray×Zt1×Zt3))
noncomputable def fs96(lo:Lo):List FnE:=Yl7 lo::fs95 lo
theorem Yu7(h:GZ P fm fs95 lo)(t:Ti P fm 280 Yu6):GZ P fm fs96 lo:=
  h.i (Yl7 lo) (Yu5 lo) t
def q96(lo:Lo)(t0_0:ByteArray)(t0_1:List ByteArray)(t0_2:List (Int×Zt0))(c1_0:Int)(c1_1:Int)(v2_0:Int)(v2_1:Int)(v2_2:ByteArray):Option (ByteArray×Zt1×Zt3×Int):=
  YAr (q11 lo t0_0 t0_1 t0_2) fun y363=>bif(!decide (y363=0))then(some ((YAL #[]),([]:List ByteArray),([]:List (Int×Zt0)),y363))else(YAr (q81 lo t0_0 t0_1 t0_2 c1_0) fun y364=>bif(!y364.2)then(some ((YAL #[]),([]:List ByteArray),([]:List (Int×Zt0)),(4:Int)))else(bif(decide (c1_1<0))then(some ((YAL #[]),([]:List ByteArray),([]:List (Int×Zt0)),(6:Int)))else(bif(decide ((t0_1.length:Int)<=c1_1))then(some ((YAL #[]),([]:List ByteArray),([]:List (Int×Zt0)),(6:Int)))else(YAr (q6 lo v2_0 v2_1 v2_2) fun y365=>bif(!y365)then(some ((YAL #[]),([]:List ByteArray),([]:List (Int×Zt0)),(1:Int)))else(YAr (q95 lo t0_0 t0_1 t0_2 t0_2) fun y369=>chk (0<=y364.1/\y364.1< (y369.2.2.length:Int)) (chk (0<=c1_1/\c1_1< ((((y369.2.2.getD y364.1.toNat ((0:Int),[])).2).length:Nat):Int)) (some (y369.1,y369.2.1,(y369.2.2.set y364.1.toNat ((y369.2.2.getD y364.1.toNat ((0:Int),[])).1,(((y369.2.2.getD y364.1.toNat ((0:Int),[])).2).set c1_1.toNat (v2_0,v2_1,v2_2)))),(0:Int)))))))))
def Yu8:VFn:=⟨true,62,[.c 6 true 3,.t 7],
 (Rg [oG 3 0,oG 4 1,oG 5 2,o 6 (.alloc [.s (⟨#[]⟩),.e (cs [.s]),.e Zc2]),oK 7 0]
 (.seq (Rg [oT 12 3 3,oC 13 230 [12],oM 8 13]
 (Rg [oM 14 8,oR 15 .neq 14 (k 0)]
 (.cond 15 (Rg [o 16 (.build [.s (⟨#[]⟩),.e (cs [.s]),.e Zc2] []),oM 17 8,oS 3 6 16,oM 7 17]
 (.fz [6,7] .ret))
 .skip)))
 (Rg [oT 19 3 3,oF 20 0 4,oL 21 20,oC 22 242 [19,21],oM 18 22,oE 23 18 0,oE 24 18 1,oM 9 23,oM 10 24]
 (.seq (.blk 0 (Rg [oM 26 10,oX 27 26,oM 25 27]
 (.cond 25 (Rg [o 28 (.build [.s (⟨#[]⟩),.e (cs [.s]),.e Zc2] []),oS 3 6 28,oK 7 4]
 (.fz [6,7] .ret))
 (Rg [oF 30 1 4,oL 31 30,oR 32 .lss 31 (k 0),oM 33 32,gF 34 33 (.fad 1 4),gF 35 33 (.load false 1 34),gF 36 33 (.fad 1 3),gF 37 33 (.load false 1 36),gF 38 33 (.len 37),gF 39 33 (.bin .geq 35 38),oP 40 33 (kb true) 39,oM 29 40]
 (.cond 29 (Rg [o 41 (.build [.s (⟨#[]⟩),.e (cs [.s]),.e Zc2] []),oS 3 6 41,oK 7 6]
 (.fz [6,7] .ret))
 (Rg [oT 43 3 5,oC 44 283 [43],oX 45 44,oM 42 45]
 (.cond 42 (Rg [o 46 (.build [.s (⟨#[]⟩),.e (cs [.s]),.e Zc2] []),oS 3 6 46,oK 7 1]
 (.fz [6,7] .ret))
 .skip)))))))
 (Rg [oT 47 3 3,oF 48 2 3,oL 49 48,oC 50 280 [47,49],o 11 (.alloc [.s (⟨#[]⟩),.e (cs [.s]),.e Zc2]),oS 3 11 50]
 (Rg [oF 51 2 11,oL 52 51,oM 53 9,oI 54 2 52 53,oF 55 1 54,oL 56 55,oF 57 1 4,oL 58 57,oT 59 3 5,oI 60 3 56 58,oS 3 60 59]
 (Rg [oT 61 3 11,oS 3 6 61,oK 7 0]
 (.fz [6,7] .ret))))))))⟩
def Yl8(lo:Lo):FnE:=Zfe 247 true (Zsg [0,1,2] [.ag [.s,.l (cs [.s]),.l Zc2],.ag [.j,.j],.ag [.j,.j,.s]] []) (.tp [.ag [.s,.l (cs [.s]),.l Zc2],.j]) [] (fun x=>q96 lo x.1 x.2.1 x.2.2.1 x.2.2.2.1 x.2.2.2.2.1 x.2.2.2.2.2.1 x.2.2.2.2.2.2.1 x.2.2.2.2.2.2.2:Zp17->Option (ByteArray×Zt1×Zt3×Int))
noncomputable def fs97(lo:Lo):List FnE:=Yl8 lo::fs96 lo
theorem Yu9(h:GZ P fm fs96 lo)(t:Ti P fm 247 Yu8):GZ P fm fs97 lo:=
  h.p (Yl8 lo) .n t
def q97_L3_b:VCode:=
 (.seq (Rg [oM 14 6,oM 15 1,oN 16 15,oR 17 .lss 14 16]
 (Ce 17 0))
 (.seq (.blk 1 (.reg [oF 20 2 5,⟨some 21,.load false 1 20,none,true,false⟩,oM 22 1,oM 23 6,oI 24 2 22 23,oT 25 2 24,⟨some 26,.call 290 [25],none,false,true⟩,o 27 (.bsl Zc2 1 [(0,26)]),o 28 (.app Zc2 2 21 27),oF 29 2 5,oS 1 29 28]))
 (.reg [oM 18 6,oR 19 .add 18 (k 1),oM 6 19])))
def Yeu(lo:Lo):Zp18->Option (Zp18⊕ (Zp22)):=fun x=>match x with
  | (rows1,i6,v4_0,v4_1,v4_2,out5,h2,h3)=>bif(decide (i6< (rows1.length:Int)))then(chk (0<=i6/\i6< (rows1.length:Int)) (YAr (q91 lo ((rows1.getD i6.toNat ((0:Int),[])).1) ((rows1.getD i6.toNat ((0:Int),[])).2)) fun y374=>chk (h3.length+1<=maxEl) (some (.inl (rows1,(YAM .i64 (i6+1)),v4_0,v4_1,v4_2,out5,h2,(h3++[y374]))))))else(some (.inr (v4_0,v4_1,v4_2,out5,h2,h3)))
def Ygl(lo:Lo):Zp18->Option (Zp22):=lo.run (Yeu lo)
def Yva(lo:Lo):LpE:=⟨3,[(5,some 2,true)],(Zsg [1,4,5,6] [.l Zc2,.ptr 0 0 0,.ptr 1 0 0,.j] [.st [.s,.l (cs [.s]),.l Zc2],.st [.s,.ref 2,.ref 3],.sq (cs [.s]),.fm (cs [I]) true Zc4]),[⟨.exit 0,(Zsg [4,5] [.ptr 0 0 0,.ptr 1 0 0] [.st [.s,.l (cs [.s]),.l Zc2],.st [.s,.ref 2,.ref 3],.sq (cs [.s]),.fm (cs [I]) true Zc4])⟩],Ygl lo⟩
def Yvb(lo:Lo):LL:=(Yva lo,.loop q97_L3_b.er)::[]
theorem Yvc(lo:Lo):Lk lo pf (fs97 lo) 0 (Yvb lo):=.l .n (Yeu lo)
def q97(lo:Lo)(t0_0:ByteArray)(t0_1:List ByteArray)(t0_2:List (Int×Zt0))(rows1:List (Int×Zt0)):Option (ByteArray×Zt1×Zt3):=
  chk (t0_1.length<=maxEl) (YAr (Ygl lo (rows1,(0:Int),(YAL #[]),([]:List ByteArray),([]:List (Int×Zt0)),t0_0,t0_1,[])) fun y375=>some (y375.2.2.2.1,y375.2.2.2.2.1,y375.2.2.2.2.2))
def Yvd:VFn:=⟨true,31,[.c 4 true 3],
 (Rg [oG 2 0,o 4 (.alloc [.s (⟨#[]⟩),.e (cs [.s]),.e Zc2])]
 (Rg [oF 7 0 2,⟨some 8,.load false 1 7,none,true,false⟩,o 9 (.bsl (cs [.s]) 0 []),oF 10 1 2,⟨some 11,.load false 1 10,none,true,false⟩,⟨some 12,.app (cs [.s]) 0 9 11,none,false,true⟩,o 13 (.build [.s (⟨#[]⟩),.e (cs [.s]),.e Zc2] [(0,1,8),(1,1,12)]),o 5 (.alloc [.s (⟨#[]⟩),.e (cs [.s]),.e Zc2]),oS 3 5 13]
 (.seq (Rg [oK 6 0]
 (.blk 0 (.loop 3 q97_L3_b)))
 (Rg [oT 30 3 5,oS 3 4 30]
 .ret))))⟩
def Yl9(lo:Lo):FnE:=Zfe 282 false (Zsg [0,1] [.ag [.s,.l (cs [.s]),.l Zc2],.l Zc2] []) (.ag [.s,.ref 0,.ref 1]) [.sq (cs [.s]),.fm (cs [I]) true Zc4] (fun x=>q97 lo x.1 x.2.1 x.2.2.1 x.2.2.2:ByteArray×Zt1×Zt3×Zt3->Option (ByteArray×Zt1×Zt3))
noncomputable def fs98(lo:Lo):List FnE:=Yl9 lo::fs97 lo
theorem Yve(h:GZ P fm fs97 lo)(t:Ti P fm 282 Yvd):GZ P fm fs98 lo:=
  h.i (Yl9 lo) (Yvc lo) t
def q98(lo:Lo)(t0_0:ByteArray)(t0_1:List ByteArray)(t0_2:List (Int×Zt0))(c1_0:Int)(c1_1:Int)(v2_0:Int)(v2_1:Int)(v2_2:ByteArray):Option (ByteArray×Zt1×Zt3×Int):=
  YAr (q51 lo t0_0 t0_1 t0_2) fun y371=>bif(!decide (y371=0))then(some ((YAL #[]),([]:List ByteArray),([]:List (Int×Zt0)),y371))else(YAr (q82 lo t0_0 t0_1 t0_2 c1_0) fun y372=>bif(!y372.2)then(some ((YAL #[]),([]:List ByteArray),([]:List (Int×Zt0)),(4:Int)))else(bif(decide (c1_1<0))then(some ((YAL #[]),([]:List ByteArray),([]:List (Int×Zt0)),(6:Int)))else(bif(decide ((t0_1.length:Int)<=c1_1))then(some ((YAL #[]),([]:List ByteArray),([]:List (Int×Zt0)),(6:Int)))else(YAr (q49 lo v2_0 v2_1 v2_2) fun y373=>bif(!y373)then(some ((YAL #[]),([]:List ByteArray),([]:List (Int×Zt0)),(1:Int)))else(YAr (q97 lo t0_0 t0_1 t0_2 t0_2) fun y376=>chk (0<=y372.1/\y372.1< (y376.2.2.length:Int)) (chk (0<=c1_1/\c1_1< ((((y376.2.2.getD y372.1.toNat ((0:Int),[])).2).length:Nat):Int)) (some (y376.1,y376.2.1,(y376.2.2.set y372.1.toNat ((y376.2.2.getD y372.1.toNat ((0:Int),[])).1,(((y376.2.2.getD y372.1.toNat ((0:Int),[])).2).set c1_1.toNat (v2_0,v2_1,v2_2)))),(0:Int)))))))))
def Yvf:VFn:=⟨true,59,[.c 6 true 3,.t 7],
 (Rg [oG 3 0,oG 4 1,oG 5 2,o 6 (.alloc [.s (⟨#[]⟩),.e (cs [.s]),.e Zc2]),oK 7 0]
 (.seq (Rg [oT 12 3 3,oC 13 231 [12],oM 8 13]
 (Rg [oM 14 8,oR 15 .neq 14 (k 0)]
 (.cond 15 (Rg [o 16 (.build [.s (⟨#[]⟩),.e (cs [.s]),.e Zc2] []),oM 17 8,oS 3 6 16,oM 7 17]
 (.fz [6,7] .ret))
 .skip)))
 (Rg [oT 19 3 3,oF 20 0 4,oL 21 20,oC 22 243 [19,21],oM 18 22,oE 23 18 0,oE 24 18 1,oM 9 23,oM 10 24]
 (.seq (Rg [oM 25 10,oX 26 25]
 (.cond 26 (Rg [o 27 (.build [.s (⟨#[]⟩),.e (cs [.s]),.e Zc2] []),oS 3 6 27,oK 7 4]
 (.fz [6,7] .ret))
 .skip))
 (.seq (Rg [oF 28 1 4,oL 29 28,oR 30 .lss 29 (k 0),oM 31 30,gF 32 31 (.fad 1 4),gF 33 31 (.load false 1 32),gF 34 31 (.fad 1 3),gF 35 31 (.load false 1 34),gF 36 31 (.len 35),gF 37 31 (.bin .geq 33 36),oP 38 31 (kb true) 37]
 (.cond 38 (Rg [o 39 (.build [.s (⟨#[]⟩),.e (cs [.s]),.e Zc2] []),oS 3 6 39,oK 7 6]
 (.fz [6,7] .ret))
 .skip))
 (.seq (Rg [oT 40 3 5,oC 41 284 [40],oX 42 41]
 (.cond 42 (Rg [o 43 (.build [.s (⟨#[]⟩),.e (cs [.s]),.e Zc2] []),oS 3 6 43,oK 7 1]
 (.fz [6,7] .ret))
 .skip))
 (Rg [oT 44 3 3,oF 45 2 3,oL 46 45,oC 47 282 [44,46],o 11 (.alloc [.s (⟨#[]⟩),.e (cs [.s]),.e Zc2]),oS 3 11 47]
 (Rg [oF 48 2 11,oL 49 48,oM 50 9,oI 51 2 49 50,oF 52 1 51,oL 53 52,oF 54 1 4,oL 55 54,oT 56 3 5,oI 57 3 53 55,oS 3 57 56]
 (Rg [oT 58 3 11,oS 3 6 58,oK 7 0]
 (.fz [6,7] .ret))))))))))⟩
def Yma(lo:Lo):FnE:=Zfe 248 true (Zsg [0,1,2] [.ag [.s,.l (cs [.s]),.l Zc2],.ag [.j,.j],.ag [.j,.j,.s]] []) (.tp [.ag [.s,.l (cs [.s]),.l Zc2],.j]) [] (fun x=>q98 lo x.1 x.2.1 x.2.2.1 x.2.2.2.1 x.2.2.2.2.1 x.2.2.2.2.2.1 x.2.2.2.2.2.2.1 x.2.2.2.2.2.2.2:Zp17->Option (ByteArray×Zt1×Zt3×Int))
noncomputable def fs99(lo:Lo):List FnE:=Yma lo::fs98 lo
theorem Yvg(h:GZ P fm fs98 lo)(t:Ti P fm 248 Yvf):GZ P fm fs99 lo:=
  h.p (Yma lo) .n t
noncomputable def q99(lo:Lo)(t0_0:ByteArray)(t0_1:List ByteArray)(t0_2:List (Int×Zt0))(c1_0:Int)(c1_1:Int)(v2_0:Int)(v2_1:Int)(v2_2:ByteArray):Option Bool:=
  YAr (q44 lo) fun y359=>bif(!y359)then(YAr (q44 lo) fun y360=>some y360)else(YAr (q53 lo t0_0 t0_1 t0_2) fun y361=>bif(!y361)then(YAr (q44 lo) fun y362=>some y362)else(YAr (q96 lo t0_0 t0_1 t0_2 c1_0 c1_1 v2_0 v2_1 v2_2) fun y370=>YAr (q98 lo t0_0 t0_1 t0_2 c1_0 c1_1 v2_0 v2_1 v2_2) fun y377=>bif(!decide (y370.2.2.2=y377.2.2.2))then(bif(decide (y370.2.2.2=y377.2.2.2))then(YAr (q66 lo y370.1 y370.2.1 y370.2.2.1 y377.1 y377.2.1 y377.2.2.1) fun y378=>some y378)else(some false))else(YAr (q66 lo y370.1 y370.2.1 y370.2.2.1 y377.1 y377.2.1 y377.2.2.1) fun y379=>bif(!y379)then(bif(decide (y370.2.2.2=y377.2.2.2))then(YAr (q66 lo y370.1 y370.2.1 y370.2.2.1 y377.1 y377.2.1 y377.2.2.1) fun y380=>some y380)else(some false))else(bif(!decide (y370.2.2.2=(0:Int)))then(bif(decide (y370.2.2.2=y377.2.2.2))then(YAr (q66 lo y370.1 y370.2.1 y370.2.2.1 y377.1 y377.2.1 y377.2.2.1) fun y381=>some y381)else(some false))else(YAr (q82 lo t0_0 t0_1 t0_2 c1_0) fun y382=>chk (0<=y382.1/\y382.1< (t0_2.length:Int)) (chk (0<=c1_1/\c1_1< (((t0_2.getD y382.1.toNat ((0:Int),[])).2).length:Int)) (YAr (q96 lo y370.1 y370.2.1 y370.2.2.1 c1_0 c1_1 ((((t0_2.getD y382.1.toNat ((0:Int),[])).2).getD c1_1.toNat Zd1).1) ((((t0_2.getD y382.1.toNat ((0:Int),[])).2).getD c1_1.toNat Zd1).2.1) ((((t0_2.getD y382.1.toNat ((0:Int),[])).2).getD c1_1.toNat Zd1).2.2)) fun y383=>bif(decide (y383.2.2.2=(0:Int)))then(YAr (q66 lo y383.1 y383.2.1 y383.2.2.1 t0_0 t0_1 t0_2) fun y384=>some y384)else(some false))))))))
def Yvh:VFn:=⟨true,88,[.t 6],
 (Rg [oG 3 0,oG 4 1,oG 5 2,oB 6 false]
 (.seq (Rg [oC 15 229 [],oX 16 15,oM 17 16,gF 18 17 (.load true 3 3),gF 19 17 (.call 232 [18]),gF 20 17 (.not 19),oP 21 17 (kb true) 20]
 (.cond 21 (Rg [oC 22 229 [],oM 6 22]
 (Fr 6))
 .skip))
 (Rg [oT 24 3 3,oT 25 2 4,oT 26 3 5,oC 27 247 [24,25,26],oM 23 27,oE 28 23 0,oE 29 23 1,o 7 (.alloc [.s (⟨#[]⟩),.e (cs [.s]),.e Zc2]),oS 3 7 28,oM 8 29]
 (Rg [oT 31 3 3,oT 32 2 4,oT 33 3 5,oC 34 248 [31,32,33],oM 30 34,oE 35 30 0,oE 36 30 1,o 9 (.alloc [.s (⟨#[]⟩),.e (cs [.s]),.e Zc2]),oS 3 9 35,oM 10 36]
 (.seq (Rg [oM 37 8,oM 38 10,oR 39 .neq 37 38,oM 40 39,gF 41 40 (.load true 3 7),gF 42 40 (.load true 3 9),gF 43 40 (.call 235 [41,42]),gF 44 40 (.not 43),oP 45 40 (kb true) 44,oM 46 45,gF 47 46 (.mv 8),gF 48 46 (.bin .neq 47 (k 0)),oP 49 46 (kb true) 48]
 (.cond 49 (Rg [oM 50 8,oM 51 10,oR 52 .eql 50 51,oM 53 52,gT 54 53 (.load true 3 7),gT 55 53 (.load true 3 9),gT 56 53 (.call 235 [54,55]),oP 57 53 56 (kb false),oM 6 57]
 (Fr 6))
 .skip))
 (Rg [oT 59 3 3,oF 60 0 4,oL 61 60,oC 62 243 [59,61],oM 58 62,oE 63 58 0,oE 64 58 1,oM 11 63,oM 12 64]
 (Rg [⟨some 66,.load true 3 7,none,true,false⟩,⟨some 67,.load true 2 4,none,true,false⟩,oF 68 2 3,⟨some 69,.load false 1 68,none,true,false⟩,oM 70 11,⟨some 71,.iad 2 69 70,none,true,false⟩,oF 72 1 71,⟨some 73,.load false 1 72,none,true,false⟩,oF 74 1 4,⟨some 75,.load false 1 74,none,true,false⟩,⟨some 76,.iad 3 73 75,none,true,false⟩,⟨some 77,.load true 3 76,none,true,false⟩,⟨some 78,.call 247 [66,67,77],none,true,false⟩,oM 65 78,oE 79 65 0,oE 80 65 1,o 13 (.alloc [.s (⟨#[]⟩),.e (cs [.s]),.e Zc2]),oS 3 13 79,oM 14 80]
 (Rg [oM 81 14,oR 82 .eql 81 (k 0),oM 83 82,gT 84 83 (.load true 3 13),gT 85 83 (.load true 3 3),gT 86 83 (.call 235 [84,85]),oP 87 83 86 (kb false),oM 6 87]
 (Fr 6)))))))))⟩
noncomputable def q99_f(lo:Lo):FnE:=Zfe 225 true (Zsg [0,1,2] [.ag [.s,.l (cs [.s]),.l Zc2],.ag [.j,.j],.ag [.j,.j,.s]] []) .b [] (fun x=>q99 lo x.1 x.2.1 x.2.2.1 x.2.2.2.1 x.2.2.2.2.1 x.2.2.2.2.2.1 x.2.2.2.2.2.2.1 x.2.2.2.2.2.2.2:Zp17->Option Bool)
noncomputable def Yzs(lo:Lo):List FnE:=q99_f lo::fs99 lo
theorem Yvi(h:GZ P fm fs99 lo)(t:Ti P fm 225 Yvh):GZ P fm Yzs lo:=
  h.p (q99_f lo) .n t
end Go.Abs.G3c
