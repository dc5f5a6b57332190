/- Functions of the program as functions of data (written by program). No condition. -/
import Derived.Test.YtgegamaadohibaaB
set_option linter.unusedVariables false
set_option linter.unusedSimpArgs false
set_option linter.unusedSectionVars false
open List renaming mem_cons_self → YAq
open Nat renaming beq → YAN, ble → YAR
open Option renaming bind → YAZ
open ByteArray renaming mk → YBg
open Go.IntKind renaming wrap → YBh
namespace Go.Abs.G39
open Go Go.Abs
abbrev _root_.Go.Abs.SV.j:SV:=.i .i64
mutual
def ZtS:SV->List Ty
 | .i k=>[.i k]
 | .b=>[.b]
 | .s=>[.s]
 | .l c=>[.l c]
 | .pre _=>[I]
 | .ag l=>ZtL l
 | .tp l=>ZtL l
 | .clo _ l=>ZtL l
 |_=>[]
def ZtL:List SV->List Ty
 | []=>[]
 |a::r=>ZtS a++ZtL r
end
def ZtO:List SO->List Ty
 | []=>[]
 | .sq c::r=>.l c::ZtO r
 | .fm A _ c::r=>.l (sn c A)::ZtO r
 | .fp o c::r=>I:: .l (mapC o (.l c) .nil)::ZtO r
 | .st l::r=>ZtL l++ZtO r
 | .sb::r=>.s::ZtO r
 | .dd::r=>ZtO r
abbrev Zsg(t:List Nat)(v:List SV)(o:List SO):Sg:=⟨t,v,o,cs (ZtL v++ZtO o)⟩
abbrev Zfe(g:Nat)(p:Bool)(a:Sg)(r:SV)(o:List SO)(F:a.c.den->Option (cs (ZtS r++ZtO o)).den):FnE:=⟨g,p,a,r,o,_,F⟩
abbrev Zt0:Type:=List ((List Int))
abbrev Zc1:Cs:=cs [.l (cs [I])]
abbrev Zt2:Type:=List (Int×Int)
abbrev Zc3:Cs:=cs [I,.l (cs [I,I])]
abbrev Zt4:Type:=List (Int×Zt2)
abbrev Zp5:Type:=Int×Int× (List Int)×Int×Zt0×Int×Int× (List Int)×Int×Int× (List Int)×Zt0×Int× (List Int)× (List Int)×Zt2
abbrev Zp6:Type:=Int×Int×Int×Zt0×Int×Int× (List Int)×Int×Int× (List Int)×Zt0×Int× (List Int)× (List Int)×Zt2
abbrev Zp7:Type:=Int×Int×Zt2×Int×Int× (List Int)×Int×Int× (List Int)×Zt0×Int× (List Int)× (List Int)×Int×Int
abbrev Zp8:Type:=Int×Zt0×Int×Int× (List Int)×Int×Int× (List Int)×Zt0×Int× (List Int)× (List Int)
abbrev Zp9:Type:=Int×Zt0×Int×Int× (List Int)×Int×Int× (List Int)×Zt0×Zt0× (List Int)
abbrev Zp10:Type:=Zt0×Int×Int× (List Int)×Int×Int× (List Int)× (List Int)× (List Int)
abbrev Zp11:Type:=(List Int)×Int×Zt0×Int×Int× (List Int)×Int×Int× (List Int)×Zt0
abbrev Zp12:Type:=Int×Zt0×Int×Int× (List Int)×Zt0×Int× (List Int)× (List Int)×Zt2
abbrev Zp13:Type:=Int×Int×Zt2×Int×Int× (List Int)×Zt0×Int× (List Int)× (List Int)
abbrev Zp14:Type:=Zt2×Int×Int×Int×Int× (List Int)×Zt0× (List Int)× (List Int)×Int
abbrev Zp15:Type:=Int×Zt0×Int×Int× (List Int)×Zt0×Int× (List Int)× (List Int)
abbrev Zp16:Type:=Int× (List Int)× (List Int)× (List Int)×Zt0× (List Int)×Zt0
abbrev Zp17:Type:=Int×Bool×Int× (List Int)×Zt0× (List Int)× (List Int)×Int
abbrev Zp18:Type:=(List Int)×Int×Int×Int× (List Int)×Zt0×Int× (List Int)
abbrev Zp19:Type:=Int×Int× (List Int)×Zt0×Int×Int× (List Int)× (List Int)
abbrev Zp20:Type:=Zt2×Int×Int× (List Int)×Zt0× (List Int)× (List Int)×Int
abbrev Zp21:Type:=Int×Int× (List Int)×Zt0×Zt0× (List Int)× (List Int)
abbrev Zp22:Type:=(List Int)×Int× (List Int)×Int×Int× (List Int)×Zt0
abbrev Zp23:Type:=Int× (List Int)×Zt0×Int× (List Int)×Int× (List Int)
abbrev Zp24:Type:=Zt0×Int×Int× (List Int)× (List Int)× (List Int)
abbrev Zp25:Type:=(List Int)×Int× (List Int)×Zt0×Int× (List Int)
abbrev Zp26:Type:=Int× (List Int)×Zt0× (List Int)× (List Int)×Int
abbrev Zp27:Type:=Int×Int×Int×Int× (List Int)× (List Int)×Zt0
abbrev Zp28:Type:=Zt0×Int×Int× (List Int)×Zt0×Zt0× (List Int)
abbrev Zp29:Type:=Zt0×Int×Int× (List Int)×Zt0×Int× (List Int)
abbrev Zp30:Type:=Int×Int×Int× (List Int)× (List Int)×Zt0
abbrev Zp31:Type:=Int×Int× (List Int)×Zt0×Int× (List Int)
abbrev Zp32:Type:=Zt4×Int× (List Int)×Zt0×Int× (List Int)
abbrev Zp33:Type:=(List (Zt4))×Int× (List (Zt4))×Int×Int
abbrev Zp34:Type:=Int×Int×Int×Bool×Bool× (List Int)
abbrev Zp35:Type:=(List Int)×Int×Int× (List Int)×Zt0
abbrev Zp36:Type:=Int×Int× (List Int)× (List Int)×Zt0
abbrev Zp37:Type:=Int× (List Int)×Zt0×Int× (List Int)
abbrev Zp38:Type:=Zt4×Int×Int×Int×Int×Int×Zt4
abbrev Zp39:Type:=(List Int)×Zt0×Int× (List Int)
instance{n:Nat}:OfNat VOpd n:=⟨.t n⟩
abbrev Rg(l:List VI)(b:VCode):VCode:=.seq (.reg l) b
abbrev Fr(n:Nat):VCode:=.fz [n] .ret
abbrev Ce(c e:Nat):VCode:=.cond (t c) .skip (.exit e)
abbrev oM(n a:Nat):VI:=o n (.mv (t a))
abbrev oL(n a:Nat):VI:=o n (.load false 1 (t a))
abbrev oT(n s a:Nat):VI:=o n (.load true s (t a))
abbrev oF(n i a:Nat):VI:=o n (.fad i (t a))
abbrev oE(n a i:Nat):VI:=o n (.ext (t a) i)
abbrev oN(n a:Nat):VI:=o n (.len (t a))
abbrev oI(n e a i:Nat):VI:=o n (.iad e (t a) (t i))
abbrev oS(n a b:Nat):VI:=on (.store n (t a) (t b))
abbrev oP(n c:Nat)(a b:VOpd):VI:=o n (.pick (t c) a b)
abbrev oK(n:Nat)(a:Int):VI:=o n (.mv (k a))
abbrev oB(n:Nat)(a:Bool):VI:=o n (.mv (kb a))
abbrev oC(n f:Nat)(l:List VOpd):VI:=o n (.call f l)
abbrev oX(n a:Nat):VI:=o n (.not (t a))
abbrev oG(n a:Nat):VI:=o n (.box (t a))
abbrev oR(n:Nat)(p:BinOp)(a b:VOpd):VI:=o n (.bin p a b)
abbrev gT(n g:Nat)(p:VOp):VI:=og n g true p
abbrev gF(n g:Nat)(p:VOp):VI:=og n g false p
set_option maxRecDepth 100000
set_option maxHeartbeats 1000000
variable{P:Program}{fm:FM}{lo:Lo}
abbrev pf:Nat->Bool:=fun g=> !(List.any ([424,425,426,427,429,430,432,435,436,437,438,439,441,442,443,444,445,446,449,450,452,453,454,455,457,196,197,198,458,208,147,162,177,178,179,181,182,184,185,194,440,245,456]:List Nat) (YAN g))
abbrev GZ(P:Program)(fm:FM)(fs:Lo->List FnE)(lo:Lo):Prop:=GS P fm pf (fs lo) lo
abbrev Ti(P:Program)(fm:FM)(g:Nat)(F:VFn):Prop:=TieF P fm pf g F
def fs0(_:Lo):List FnE:=[]
def q0(lo:Lo):Option ((List Int)×Zt0):=
  some ([(2:Int),(3:Int),(4:Int)],[[(0:Int),(1:Int)],[(1:Int),(2:Int)],[(0:Int),(2:Int)]])
def YrL:VFn:=⟨true,7,[.c 0 true 2],
 (Rg [o 0 (.alloc [.e (cs [I]),.e Zc1])]
 (Rg [o 1 (.bsl (cs [I]) 3 [(0,(k 2)),(1,(k 3)),(2,(k 4))]),o 2 (.bsl (cs [I]) 2 [(0,(k 0)),(1,(k 1))]),o 3 (.bsl (cs [I]) 2 [(0,(k 1)),(1,(k 2))]),o 4 (.bsl (cs [I]) 2 [(0,(k 0)),(1,(k 2))]),o 5 (.bsl Zc1 3 [(0,2),(1,3),(2,4)]),o 6 (.build [.e (cs [I]),.e Zc1] [(0,1,1),(1,1,5)]),oS 2 0 6]
 (Fr 0)))⟩
def YkS(lo:Lo):FnE:=Zfe 420 true (Zsg [] [] []) (.ag [.l (cs [I]),.l Zc1]) [] (fun x=>q0 lo:Unit->Option ((List Int)×Zt0))
def fs1(lo:Lo):List FnE:=YkS lo::fs0 lo
theorem YrM(h:GZ P fm fs0 lo)(t:Ti P fm 420 YrL):GZ P fm fs1 lo:=
  h.p (YkS lo) .n t
def q1_L23_b:VCode:=
 (Rg [oR 24 .lss 23 22]
 (.seq (Ce 24 0)
 (.seq (.blk 1 (Rg [oI 25 1 21 23,oL 26 25,oM 4 26]
 (Rg [oM 27 4,oR 28 .lss 27 (k 1),oM 29 28,gF 30 29 (.mv 4),gF 31 29 (.bin .gtr 30 (k 1000000)),oP 32 29 (kb true) 31]
 (.cond 32 (Rg [oK 2 1]
 (Fr 2))
 .skip))))
 (.reg [oR 33 .add 23 (k 1),oM 23 33]))))
def Ydf(lo:Lo):Zp35->Option (Zp35⊕ (Int⊕ ((List Int)×Zt0))):=fun x=>match x with
  | (v21,v22,v23,in1_0,in1_1)=>bif(decide (v23<v22))then(chk (0<=v23/\v23< (v21.length:Int)) (bif(decide ((v21.getD v23.toNat (0:Int))< (1:Int)))then(some (.inr (.inl (1:Int))))else(bif(decide ((1000000:Int)< (v21.getD v23.toNat (0:Int))))then(some (.inr (.inl (1:Int))))else(some (.inl (v21,v22,(YBh .i64 (v23+1)),in1_0,in1_1))))))else(some (.inr (.inr (in1_0,in1_1))))
def Ygs(lo:Lo):Zp35->Option (Int⊕ ((List Int)×Zt0)):=lo.run (Ydf lo)
def YrN(lo:Lo):LpE:=⟨23,[],(Zsg [1,21,22,23] [.ptr 0 0 0,.l (cs [I]),.j,.j] [.st [.l (cs [I]),.l Zc1]]),[⟨.ret,(Zsg [2] [.j] [])⟩,⟨.exit 0,(Zsg [1] [.ptr 0 0 0] [.st [.l (cs [I]),.l Zc1]])⟩],Ygs lo⟩
def YkT(lo:Lo):LL:=(YrN lo,.loop q1_L23_b.er)::[]
theorem YrO(lo:Lo):Lk lo pf (fs1 lo) 0 (YkT lo):=.l .n (Ydf lo)
def q1_L8_b:VCode:=
 (Rg [oR 44 .lss 43 42]
 (.seq (Ce 44 4)
 (.seq (.blk 5 (Rg [oI 45 1 41 43,oL 46 45,oM 9 46]
 (.seq (Rg [oM 47 9,oM 48 7,oR 49 .leq 47 48,oM 50 49,gF 51 50 (.mv 9),gF 52 50 (.fad 0 1),gF 53 50 (.load false 1 52),gF 54 50 (.len 53),gF 55 50 (.bin .geq 51 54),oP 56 50 (kb true) 55]
 (.cond 56 (Rg [oK 2 1]
 (Fr 2))
 .skip))
 (.reg [oM 57 9,oM 7 57]))))
 (.reg [oR 58 .add 43 (k 1),oM 43 58]))))
def Ydg(lo:Lo):Zp11->Option (Zp11⊕ (Int⊕ ((List Int)×Zt0×Int×Int× (List Int)×Zt0))):=fun x=>match x with
  | (e6,last7,v35,v36,v37,v41,v42,v43,in1_0,in1_1)=>bif(decide (v43<v42))then(chk (0<=v43/\v43< (v41.length:Int)) (bif(decide ((v41.getD v43.toNat (0:Int))<=last7))then(some (.inr (.inl (1:Int))))else(bif(decide ((in1_0.length:Int)<=(v41.getD v43.toNat (0:Int))))then(some (.inr (.inl (1:Int))))else(some (.inl (e6,(v41.getD v43.toNat (0:Int)),v35,v36,v37,v41,v42,(YBh .i64 (v43+1)),in1_0,in1_1))))))else(some (.inr (.inr (e6,v35,v36,v37,in1_0,in1_1))))
def Ygt(lo:Lo):Zp11->Option (Int⊕ ((List Int)×Zt0×Int×Int× (List Int)×Zt0)):=lo.run (Ydg lo)
def YrP(lo:Lo):LpE:=⟨8,[],(Zsg [1,6,7,35,36,37,41,42,43] [.ptr 0 0 0,.l (cs [I]),.j,.l Zc1,.j,.j,.l (cs [I]),.j,.j] [.st [.l (cs [I]),.l Zc1]]),[⟨.ret,(Zsg [2] [.j] [])⟩,⟨.exit 4,(Zsg [1,6,35,36,37] [.ptr 0 0 0,.l (cs [I]),.l Zc1,.j,.j] [.st [.l (cs [I]),.l Zc1]])⟩],Ygt lo⟩
def YkU(lo:Lo):LL:=(YrP lo,.loop q1_L8_b.er)::YkT lo
theorem YrQ(lo:Lo):Lk lo pf (fs1 lo) 0 (YkU lo):=.l (YrO lo) (Ydg lo)
def q1_L3_b:VCode:=
 (Rg [oR 38 .lss 37 36]
 (.seq (Ce 38 2)
 (.seq (.blk 3 (Rg [oI 39 1 35 37,oL 40 39,oM 6 40]
 (Rg [oK 7 (-1)]
 (.seq (Rg [oM 41 6,oN 42 41,oK 43 0]
 (.blk 4 (.loop 8 q1_L8_b)))
 (Rg [oM 59 6,oN 60 59,oR 61 .eql 60 (k 0)]
 (.cond 61 (Rg [oK 2 1]
 (Fr 2))
 .skip))))))
 (.reg [oR 62 .add 37 (k 1),oM 37 62]))))
def Ydh(lo:Lo):Zt0×Int×Int× (List Int)×Zt0->Option ((Zt0×Int×Int× (List Int)×Zt0)⊕ (Int⊕Unit)):=fun x=>match x with
  | (v35,v36,v37,in1_0,in1_1)=>bif(decide (v37<v36))then(chk (0<=v37/\v37< (v35.length:Int)) (YAZ (Ygt lo ((v35.getD v37.toNat []),(-1:Int),v35,v36,v37,(v35.getD v37.toNat []),((v35.getD v37.toNat []).length:Int),(0:Int),in1_0,in1_1)) fun y4=>alt2 y4 (fun y5=>some (.inr (.inl y5))) (fun y6=>bif(decide ((y6.1.length:Int)=0))then(some (.inr (.inl (1:Int))))else(some (.inl (y6.2.1,y6.2.2.1,(YBh .i64 (y6.2.2.2.1+(1:Int))),y6.2.2.2.2.1,y6.2.2.2.2.2))))))else(some (.inr (.inr ())))
def Ygu(lo:Lo):Zt0×Int×Int× (List Int)×Zt0->Option (Int⊕Unit):=lo.run (Ydh lo)
def YrR(lo:Lo):LpE:=⟨3,[],(Zsg [1,35,36,37] [.ptr 0 0 0,.l Zc1,.j,.j] [.st [.l (cs [I]),.l Zc1]]),[⟨.ret,(Zsg [2] [.j] [])⟩,⟨.exit 2,(Zsg [] [] [])⟩],Ygu lo⟩
def YrS(lo:Lo):LL:=(YrR lo,.loop q1_L3_b.er)::YkU lo
theorem YrT(lo:Lo):Lk lo pf (fs1 lo) 0 (YrS lo):=.l (YrQ lo) (Ydh lo)
def q1(lo:Lo)(in0_0:List Int)(in0_1:List ((List Int))):Option Int:=
  bif(decide ((200:Int)< (in0_0.length:Int)))then(some (3:Int))else(bif(decide ((2000:Int)< (in0_1.length:Int)))then(some (3:Int))else(YAZ (Ygs lo (in0_0,(in0_0.length:Int),(0:Int),in0_0,in0_1)) fun y1=>alt2 y1 (fun y2=>some y2) (fun y3=>YAZ (Ygu lo (y3.2,(y3.2.length:Int),(0:Int),y3.1,y3.2)) fun y7=>alt2 y7 (fun y8=>some y8) (fun y9=>some (0:Int)))))
def YrU:VFn:=⟨true,63,[.t 2],
 (Rg [oG 1 0,oK 2 0]
 (.seq (Rg [oF 10 0 1,oL 11 10,oN 12 11,oR 13 .gtr 12 (k 200),oM 14 13,gF 15 14 (.fad 1 1),gF 16 14 (.load false 1 15),gF 17 14 (.len 16),gF 18 14 (.bin .gtr 17 (k 2000)),oP 19 14 (kb true) 18]
 (.cond 19 (Rg [oK 2 3]
 (Fr 2))
 .skip))
 (.seq (Rg [oF 20 0 1,oL 21 20,oN 22 21,oK 23 0]
 (.blk 0 (.loop 23 q1_L23_b)))
 (.seq (Rg [oF 34 1 1,oL 35 34,oN 36 35,oK 37 0]
 (.blk 2 (.loop 3 q1_L3_b)))
 (Rg [oK 2 0]
 (Fr 2))))))⟩
def YkV(lo:Lo):FnE:=Zfe 401 true (Zsg [0] [.ag [.l (cs [I]),.l Zc1]] []) (.i .i64) [] (fun x=>q1 lo x.1 x.2:(List Int)×Zt0->Option Int)
def fs2(lo:Lo):List FnE:=YkV lo::fs1 lo
theorem YrV(h:GZ P fm fs1 lo)(t:Ti P fm 401 YrU):GZ P fm fs2 lo:=
  h.p (YkV lo) (YrT lo) t
def q2(lo:Lo)(a0:Int)(b1:Int)(v2_0:List Int)(v2_1:List ((List Int))):Option (Int× (List Int)×Zt0):=
  chk (0<=b1/\b1< (v2_0.length:Int)) (chk (0<=a0/\a0< (v2_0.length:Int)) (some ((YBh .i64 ((v2_0.getD b1.toNat (0:Int))-(v2_0.getD a0.toNat (0:Int)))),v2_0,v2_1)))
def YrW:VFn:=⟨true,17,[.t 5],
 (Rg [oK 5 0]
 (Rg [oF 6 0 2,oL 7 6,oM 8 1,oI 9 1 7 8,oL 10 9,oF 11 0 2,oL 12 11,oM 13 0,oI 14 1 12 13,oL 15 14,oR 16 .sub 10 15,oM 5 16]
 .ret))⟩
def YkW(lo:Lo):FnE:=Zfe 425 false (Zsg [0,1,2] [.j,.j,.ptr 0 0 0] [.st [.l (cs [I]),.l Zc1]]) (.i .i64) [.st [.l (cs [I]),.l Zc1]] (fun x=>q2 lo x.1 x.2.1 x.2.2.1 x.2.2.2:Int×Int× (List Int)×Zt0->Option (Int× (List Int)×Zt0))
def fs3(lo:Lo):List FnE:=YkW lo::fs2 lo
theorem YrX(h:GZ P fm fs2 lo)(t:Ti P fm 425 YrW):GZ P fm fs3 lo:=
  h.i (YkW lo) .n t
def q3_L3_b:VCode:=
 (.seq (Rg [oM 18 9,oM 19 1,oR 20 .gtr 18 19,oM 21 20,gT 22 21 (.mv 3),gT 23 21 (.mv 0),gT 24 21 (.mv 9),gT 25 21 (.iad 1 23 24),gT 26 21 (.load false 1 25),gT 27 21 (.mv 0),gT 28 21 (.mv 9),gT 29 21 (.bin .sub 28 (k 1)),gT 30 21 (.iad 1 27 29),gT 31 21 (.load false 1 30),gT 32 21 (.dyn 22 [26,31]),gT 33 21 (.bin .lss 32 (k 0)),oP 34 21 33 (kb false)]
 (Ce 34 2))
 (.seq (.blk 3 (.reg [oM 37 0,oM 38 9,oM 39 0,oM 40 9,oR 41 .sub 40 (k 1),oM 42 0,oM 43 9,oR 44 .sub 43 (k 1),oI 45 1 42 44,oL 46 45,oM 47 0,oM 48 9,oI 49 1 47 48,oL 50 49,oI 51 1 37 38,oS 1 51 46,oI 52 1 39 41,oS 1 52 50]))
 (.reg [oM 35 9,oR 36 .sub 35 (k 1),oM 9 36])))
def YkX(lo:Lo):Zp27->Option (Zp27⊕ (Zp30)):=fun x=>match x with
  | (a1,b2,i8,j9,data0,h1_0,h1_1)=>bif(decide (a1<j9))then(chk (0<=j9/\j9< (data0.length:Int)) (chk (0<=(YBh .i64 (j9-1))/\ (YBh .i64 (j9-1))< (data0.length:Int)) (YAZ (q2 lo (data0.getD j9.toNat (0:Int)) (data0.getD ((YBh .i64 (j9-1)).toNat) (0:Int)) h1_0 h1_1) fun y14=>bif(decide (y14.1< (0:Int)))then(chk (0<=(YBh .i64 (j9-1))/\ (YBh .i64 (j9-1))< (data0.length:Int)) (chk (0<=j9/\j9< (data0.length:Int)) (chk (0<=j9/\j9< (data0.length:Int)) (chk (0<=(YBh .i64 (j9-1))/\ (YBh .i64 (j9-1))< ((data0.set j9.toNat (data0.getD ((YBh .i64 (j9-1)).toNat) (0:Int))).length:Int)) (some (.inl (a1,b2,i8,(YBh .i64 (j9-1)),((data0.set j9.toNat (data0.getD ((YBh .i64 (j9-1)).toNat) (0:Int))).set ((YBh .i64 (j9-1)).toNat) (data0.getD j9.toNat (0:Int))),y14.2.1,y14.2.2)))))))else(some (.inr (a1,b2,i8,data0,y14.2.1,y14.2.2))))))else(some (.inr (a1,b2,i8,data0,h1_0,h1_1)))
def YkY(lo:Lo):Zp27->Option (Zp30):=lo.run (YkX lo)
def YrY(lo:Lo):LpE:=⟨3,[],(Zsg [0,1,2,3,8,9] [.ref 0,.j,.j,.clo 425 [.ptr 1 0 0],.j,.j] [.sq (cs [I]),.st [.l (cs [I]),.l Zc1]]),[⟨.exit 2,(Zsg [0,1,2,3,8] [.ref 0,.j,.j,.clo 425 [.ptr 1 0 0],.j] [.sq (cs [I]),.st [.l (cs [I]),.l Zc1]])⟩],YkY lo⟩
def YkZ(lo:Lo):LL:=(YrY lo,.loop q3_L3_b.er)::[]
theorem YrZ(lo:Lo):Lk lo pf (fs3 lo) 2 (YkZ lo):=.l .n (YkX lo)
def q3_L1_b:VCode:=
 (.seq (Rg [oM 12 8,oM 13 2,oR 14 .lss 12 13]
 (Ce 14 0))
 (.seq (.blk 1 (Rg [oM 17 8,oM 9 17]
 (.blk 2 (.loop 3 q3_L3_b))))
 (.reg [oM 15 8,oR 16 .add 15 (k 1),oM 8 16])))
def Yk0(lo:Lo):Zp30->Option (Zp30⊕ (((List Int)× (List Int)×Zt0))):=fun x=>match x with
  | (a1,b2,i8,data0,h1_0,h1_1)=>bif(decide (i8<b2))then(YAZ (YkY lo (a1,b2,i8,i8,data0,h1_0,h1_1)) fun y15=>some (.inl (y15.1,y15.2.1,(YBh .i64 (y15.2.2.1+(1:Int))),y15.2.2.2.1,y15.2.2.2.2.1,y15.2.2.2.2.2)))else(some (.inr (data0,h1_0,h1_1)))
def Yk1(lo:Lo):Zp30->Option (((List Int)× (List Int)×Zt0)):=lo.run (Yk0 lo)
def Yr0(lo:Lo):LpE:=⟨1,[],(Zsg [0,1,2,3,8] [.ref 0,.j,.j,.clo 425 [.ptr 1 0 0],.j] [.sq (cs [I]),.st [.l (cs [I]),.l Zc1]]),[⟨.exit 0,(Zsg [] [] [.sq (cs [I]),.st [.l (cs [I]),.l Zc1]])⟩],Yk1 lo⟩
def Yr1(lo:Lo):LL:=(Yr0 lo,.loop q3_L1_b.er)::YkZ lo
theorem Yr2(lo:Lo):Lk lo pf (fs3 lo) 2 (Yr1 lo):=.l (YrZ lo) (Yk0 lo)
def q3(lo:Lo)(a1:Int)(b2:Int)(data0:List Int)(h1_0:List Int)(h1_1:List ((List Int))):Option ((List Int)× (List Int)×Zt0):=
  YAZ (Yk1 lo (a1,b2,(YBh .i64 (a1+1)),data0,h1_0,h1_1)) fun y16=>some (y16.1,y16.2.1,y16.2.2)
def Yr3:VFn:=⟨true,53,[],
 (Rg [oM 10 1,oR 11 .add 10 (k 1),oM 8 11]
 (.blk 0 (.loop 1 q3_L1_b)))⟩
def Yk2(lo:Lo):FnE:=Zfe 452 false (Zsg [0,1,2,3] [.ref 0,.j,.j,.clo 425 [.ptr 1 0 0]] [.sq (cs [I]),.st [.l (cs [I]),.l Zc1]]) (.tp []) [.sq (cs [I]),.st [.l (cs [I]),.l Zc1]] (fun x=>q3 lo x.1 x.2.1 x.2.2.1 x.2.2.2.1 x.2.2.2.2:Zp36->Option ((List Int)× (List Int)×Zt0))
def fs4(lo:Lo):List FnE:=Yk2 lo::fs3 lo
theorem Yr4(h:GZ P fm fs3 lo)(t:Ti P fm 452 Yr3):GZ P fm fs4 lo:=
  h.i (Yk2 lo) (Yr2 lo) t
def q4(lo:Lo)(x0:Int)(x1:Int)(x2:Int)(x3:List Int)(x4:List Int)(x5:List ((List Int))):Option ((List Int)× (List Int)×Zt0):=none
def Yk3(lo:Lo):FnE:=Zfe 453 false (Zsg [0,1,2,3,4] [.ref 0,.j,.j,.j,.clo 425 [.ptr 1 0 0]] [.sq (cs [I]),.st [.l (cs [I]),.l Zc1]]) (.tp []) [.sq (cs [I]),.st [.l (cs [I]),.l Zc1]] (fun x=>q4 lo x.1 x.2.1 x.2.2.1 x.2.2.2.1 x.2.2.2.2.1 x.2.2.2.2.2:Zp30->Option ((List Int)× (List Int)×Zt0))
def fs5(lo:Lo):List FnE:=Yk3 lo::fs4 lo
theorem Yr5(h:GZ P fm fs4 lo)(hN:True):GZ P fm fs5 lo:=
  ⟨h.1,h.2,Ybx h.S (Yk3 lo) (fun _=>rfl)⟩
def q5_L16_b:VCode:=
 (.seq (Rg [oM 11 8,oM 12 1,oR 13 .leq 11 12]
 (Ce 13 0))
 (.blk 1 (Rg [oM 14 0,oM 15 7,oM 16 8,oM 17 2,oC 18 452 [14,15,16,17]]
 (Rg [oM 19 8,oM 7 19]
 (.reg [oM 20 8,oM 21 6,oR 22 .add 20 21,oM 8 22])))))
def Yk4(lo:Lo):Zp27->Option (Zp27⊕ (Zp30)):=fun x=>match x with
  | (n1,blockSize6,a7,b8,data0,h1_0,h1_1)=>bif(decide (b8<=n1))then(YAZ (q3 lo a7 b8 data0 h1_0 h1_1) fun y17=>chk (y17.1.length=data0.length) (some (.inl (n1,blockSize6,b8,(YBh .i64 (b8+blockSize6)),y17.1,y17.2.1,y17.2.2))))else(some (.inr (n1,blockSize6,a7,data0,h1_0,h1_1)))
def Yk5(lo:Lo):Zp27->Option (Zp30):=lo.run (Yk4 lo)
def Yr6(lo:Lo):LpE:=⟨16,[],(Zsg [0,1,2,6,7,8] [.ref 0,.j,.clo 425 [.ptr 1 0 0],.j,.j,.j] [.sq (cs [I]),.st [.l (cs [I]),.l Zc1]]),[⟨.exit 0,(Zsg [0,1,2,6,7] [.ref 0,.j,.clo 425 [.ptr 1 0 0],.j,.j] [.sq (cs [I]),.st [.l (cs [I]),.l Zc1]])⟩],Yk5 lo⟩
def Yk6(lo:Lo):LL:=(Yr6 lo,.loop q5_L16_b.er)::[]
theorem Yr7(lo:Lo):Lk lo pf (fs5 lo) 2 (Yk6 lo):=.l .n (Yk4 lo)
def q5_L6_b:VCode:=
 (.seq (Rg [oM 33 8,oM 34 1,oR 35 .leq 33 34]
 (Ce 35 4))
 (.blk 5 (Rg [oM 36 0,oM 37 7,oM 38 7,oM 39 6,oR 40 .add 38 39,oM 41 8,oM 42 2,oC 43 453 [36,37,40,41,42]]
 (Rg [oM 44 8,oM 7 44]
 (.reg [oM 45 8,oM 46 6,oR 47 .mul (k 2) 46,oR 48 .add 45 47,oM 8 48])))))
def Yk7(lo:Lo):Zp27->Option (Zp27⊕ (Zp30)):=fun x=>match x with
  | (n1,blockSize6,a7,b8,data0,h1_0,h1_1)=>bif(decide (b8<=n1))then(YAZ (q4 lo a7 (YBh .i64 (a7+blockSize6)) b8 data0 h1_0 h1_1) fun y20=>chk (y20.1.length=data0.length) (some (.inl (n1,blockSize6,b8,(YBh .i64 (b8+(YBh .i64 ((2:Int)*blockSize6)))),y20.1,y20.2.1,y20.2.2))))else(some (.inr (n1,blockSize6,a7,data0,h1_0,h1_1)))
def Yk8(lo:Lo):Zp27->Option (Zp30):=lo.run (Yk7 lo)
def Yr8(lo:Lo):LpE:=⟨6,[],(Zsg [0,1,2,6,7,8] [.ref 0,.j,.clo 425 [.ptr 1 0 0],.j,.j,.j] [.sq (cs [I]),.st [.l (cs [I]),.l Zc1]]),[⟨.exit 4,(Zsg [0,1,2,6,7] [.ref 0,.j,.clo 425 [.ptr 1 0 0],.j,.j] [.sq (cs [I]),.st [.l (cs [I]),.l Zc1]])⟩],Yk8 lo⟩
def Yk9(lo:Lo):LL:=(Yr8 lo,.loop q5_L6_b.er)::Yk6 lo
theorem Yr9(lo:Lo):Lk lo pf (fs5 lo) 2 (Yk9 lo):=.l (Yr7 lo) (Yk7 lo)
def q5_L1_b:VCode:=
 (.seq (Rg [oM 28 6,oM 29 1,oR 30 .lss 28 29]
 (Ce 30 2))
 (.blk 3 (Rg [oM 31 6,oR 32 .mul (k 2) 31,oK 7 0,oM 8 32]
 (.seq (.blk 4 (.loop 6 q5_L6_b))
 (.seq (Rg [oM 49 7,oM 50 6,oR 51 .add 49 50,oM 9 51]
 (Rg [oM 52 9,oM 53 1,oR 54 .lss 52 53]
 (.cond 54 (.reg [oM 55 0,oM 56 7,oM 57 9,oM 58 1,oM 59 2,oC 60 453 [55,56,57,58,59]])
 .skip)))
 (.reg [oM 61 6,oR 62 .mul 61 (k 2),oM 6 62]))))))
def Yla(lo:Lo):Zp36->Option (Zp36⊕ (((List Int)× (List Int)×Zt0))):=fun x=>match x with
  | (n1,blockSize6,data0,h1_0,h1_1)=>bif(decide (blockSize6<n1))then(YAZ (Yk8 lo (n1,blockSize6,(0:Int),(YBh .i64 ((2:Int)*blockSize6)),data0,h1_0,h1_1)) fun y21=>bif(decide ((YBh .i64 (y21.2.2.1+y21.2.1))<y21.1))then(YAZ (q4 lo y21.2.2.1 (YBh .i64 (y21.2.2.1+y21.2.1)) y21.1 y21.2.2.2.1 y21.2.2.2.2.1 y21.2.2.2.2.2) fun y22=>chk (y22.1.length=y21.2.2.2.1.length) (some (.inl (y21.1,(YBh .i64 (y21.2.1*(2:Int))),y22.1,y22.2.1,y22.2.2))))else(some (.inl (y21.1,(YBh .i64 (y21.2.1*(2:Int))),y21.2.2.2.1,y21.2.2.2.2.1,y21.2.2.2.2.2))))else(some (.inr (data0,h1_0,h1_1)))
def Ylb(lo:Lo):Zp36->Option (((List Int)× (List Int)×Zt0)):=lo.run (Yla lo)
def Ysa(lo:Lo):LpE:=⟨1,[],(Zsg [0,1,2,6] [.ref 0,.j,.clo 425 [.ptr 1 0 0],.j] [.sq (cs [I]),.st [.l (cs [I]),.l Zc1]]),[⟨.exit 2,(Zsg [] [] [.sq (cs [I]),.st [.l (cs [I]),.l Zc1]])⟩],Ylb lo⟩
def Ysb(lo:Lo):LL:=(Ysa lo,.loop q5_L1_b.er)::Yk9 lo
theorem Ysc(lo:Lo):Lk lo pf (fs5 lo) 2 (Ysb lo):=.l (Yr9 lo) (Yla lo)
def q5(lo:Lo)(n1:Int)(data0:List Int)(h1_0:List Int)(h1_1:List ((List Int))):Option ((List Int)× (List Int)×Zt0):=
  YAZ (Yk5 lo (n1,(20:Int),(0:Int),(20:Int),data0,h1_0,h1_1)) fun y18=>YAZ (q3 lo y18.2.2.1 y18.1 y18.2.2.2.1 y18.2.2.2.2.1 y18.2.2.2.2.2) fun y19=>chk (y19.1.length=y18.2.2.2.1.length) (YAZ (Ylb lo (y18.1,y18.2.1,y19.1,y19.2.1,y19.2.2)) fun y23=>some (y23.1,y23.2.1,y23.2.2))
def Ysd:VFn:=⟨true,63,[],
 (Rg [oK 6 20]
 (Rg [oM 10 6,oK 7 0,oM 8 10]
 (.seq (.blk 0 (.loop 16 q5_L16_b))
 (Rg [oM 23 0,oM 24 7,oM 25 1,oM 26 2,oC 27 452 [23,24,25,26]]
 (.blk 2 (.loop 1 q5_L1_b))))))⟩
def Ylc(lo:Lo):FnE:=Zfe 441 false (Zsg [0,1,2] [.ref 0,.j,.clo 425 [.ptr 1 0 0]] [.sq (cs [I]),.st [.l (cs [I]),.l Zc1]]) (.tp []) [.sq (cs [I]),.st [.l (cs [I]),.l Zc1]] (fun x=>q5 lo x.1 x.2.1 x.2.2.1 x.2.2.2:Int× (List Int)× (List Int)×Zt0->Option ((List Int)× (List Int)×Zt0))
def fs6(lo:Lo):List FnE:=Ylc lo::fs5 lo
theorem Yse(h:GZ P fm fs5 lo)(t:Ti P fm 441 Ysd):GZ P fm fs6 lo:=
  h.i (Ylc lo) (Ysc lo) t
def q6(lo:Lo)(x0:List Int)(h1_0:List Int)(h1_1:List ((List Int))):Option ((List Int)× (List Int)×Zt0):=
  YAZ (q5 lo (x0.length:Int) x0 h1_0 h1_1) fun y24=>chk (y24.1.length=x0.length) (some (y24.1,y24.2.1,y24.2.2))
def Ysf:VFn:=⟨true,9,[],
 (.reg [oM 4 0,oM 5 0,oN 6 5,oM 7 1,oC 8 441 [4,6,7]])⟩
def Yld(lo:Lo):FnE:=Zfe 424 false (Zsg [0,1] [.ref 0,.clo 425 [.ptr 1 0 0]] [.sq (cs [I]),.st [.l (cs [I]),.l Zc1]]) (.tp []) [.sq (cs [I]),.st [.l (cs [I]),.l Zc1]] (fun x=>q6 lo x.1 x.2.1 x.2.2:(List Int)× (List Int)×Zt0->Option ((List Int)× (List Int)×Zt0))
def fs7(lo:Lo):List FnE:=Yld lo::fs6 lo
theorem Ysg(h:GZ P fm fs6 lo)(t:Ti P fm 424 Ysf):GZ P fm fs7 lo:=
  h.i (Yld lo) .n t
def q7(lo:Lo)(i0:Int)(h1:List Int):Option (Bool× (List Int)):=
  chk (0<=i0/\i0< (h1.length:Int)) (some ((decide (h1.getD i0.toNat (0:Int)=(1:Int))),h1))
def Ysh:VFn:=⟨true,9,[.t 3],
 (Rg [oB 3 false]
 (Rg [oL 4 1,oM 5 0,oI 6 1 4 5,oL 7 6,oR 8 .eql 7 (k 1),oM 3 8]
 .ret))⟩
def Yle(lo:Lo):FnE:=Zfe 427 false (Zsg [0,1] [.j,.ptr 0 0 0] [.st [.ref 1],.sq (cs [I])]) .b [.st [.ref 1],.sq (cs [I])] (fun x=>q7 lo x.1 x.2:Int× (List Int)->Option (Bool× (List Int)))
def fs8(lo:Lo):List FnE:=Yle lo::fs7 lo
theorem Ysi(h:GZ P fm fs7 lo)(t:Ti P fm 427 Ysh):GZ P fm fs8 lo:=
  h.i (Yle lo) .n t
def q8_L3_b:VCode:=
 (Rg [oR 9 .lss 8 7]
 (.seq (Ce 9 0)
 (.seq (.blk 1 (Rg [oM 10 8,oM 5 10]
 (Rg [oM 11 1,oM 12 0,oM 13 5,oI 14 1 12 13,oL 15 14,o 16 (.dyn 11 [15])]
 (.cond 16 (Rg [oM 17 5,oM 4 17]
 .ret)
 .skip))))
 (.reg [oR 18 .add 8 (k 1),oM 8 18]))))
def Ycs(lo:Lo):(List Int)×Int×Int× (List Int)->Option (((List Int)×Int×Int× (List Int))⊕ ((Int× (List Int))⊕ ((List Int)))):=fun x=>match x with
  | (s0,v7,v8,h1)=>bif(decide (v8<v7))then(chk (0<=v8/\v8< (s0.length:Int)) (YAZ (q7 lo (s0.getD v8.toNat (0:Int)) h1) fun y31=>chk (y31.2.length=h1.length) (bif y31.1 then(some (.inr (.inl (v8,y31.2))))else(some (.inl (s0,v7,(YBh .i64 (v8+1)),y31.2))))))else(some (.inr (.inr h1)))
def Ygv(lo:Lo):(List Int)×Int×Int× (List Int)->Option ((Int× (List Int))⊕ ((List Int))):=lo.run (Ycs lo)
def Ysj(lo:Lo):LpE:=⟨3,[],(Zsg [0,1,7,8] [.l (cs [I]),.clo 427 [.ptr 0 0 0],.j,.j] [.st [.ref 1],.sq (cs [I])]),[⟨.ret,(Zsg [4] [.j] [.st [.ref 1],.sq (cs [I])])⟩,⟨.exit 0,(Zsg [] [] [.st [.ref 1],.sq (cs [I])])⟩],Ygv lo⟩
def Ysk(lo:Lo):LL:=(Ysj lo,.loop q8_L3_b.er)::[]
theorem Ysl(lo:Lo):Lk lo pf (fs8 lo) 2 (Ysk lo):=.l .n (Ycs lo)
def q8(lo:Lo)(s0:List Int)(h1:List Int):Option (Int× (List Int)):=
  YAZ (Ygv lo (s0,(s0.length:Int),(0:Int),h1)) fun y32=>alt2 y32 (fun y33=>some (y33.1,y33.2)) (fun y34=>some ((-1:Int),y34))
def Ysm:VFn:=⟨true,19,[.t 4],
 (Rg [oK 4 0]
 (.seq (Rg [oM 6 0,oN 7 6,oK 8 0]
 (.blk 0 (.loop 3 q8_L3_b)))
 (Rg [oK 4 (-1)]
 .ret)))⟩
def Ylf(lo:Lo):FnE:=Zfe 442 false (Zsg [0,1] [.l (cs [I]),.clo 427 [.ptr 0 0 0]] [.st [.ref 1],.sq (cs [I])]) (.i .i64) [.st [.ref 1],.sq (cs [I])] (fun x=>q8 lo x.1 x.2:(List Int)× (List Int)->Option (Int× (List Int)))
def fs9(lo:Lo):List FnE:=Ylf lo::fs8 lo
theorem Ysn(h:GZ P fm fs8 lo)(t:Ti P fm 442 Ysm):GZ P fm fs9 lo:=
  h.i (Ylf lo) (Ysl lo) t
def q9(lo:Lo)(s0:List Int)(h1:List Int):Option (Bool× (List Int)):=
  YAZ (q8 lo s0 h1) fun y35=>chk (y35.2.length=h1.length) (some ((decide ((0:Int)<=y35.1)),y35.2))
def Yso:VFn:=⟨true,9,[.t 4],
 (Rg [oB 4 false]
 (Rg [oM 5 0,oM 6 1,oC 7 442 [5,6],oR 8 .geq 7 (k 0),oM 4 8]
 .ret))⟩
def Ylg(lo:Lo):FnE:=Zfe 426 false (Zsg [0,1] [.l (cs [I]),.clo 427 [.ptr 0 0 0]] [.st [.ref 1],.sq (cs [I])]) .b [.st [.ref 1],.sq (cs [I])] (fun x=>q9 lo x.1 x.2:(List Int)× (List Int)->Option (Bool× (List Int)))
def fs10(lo:Lo):List FnE:=Ylg lo::fs9 lo
theorem Ysp(h:GZ P fm fs9 lo)(t:Ti P fm 426 Yso):GZ P fm fs10 lo:=
  h.i (Ylg lo) .n t
def q10_J9_b:VCode:=
 (.seq (Rg [oM 13 0,oR 14 .geq 13 (ki .u64 256)]
 (.cond 14 (Rg [oM 15 0,oR 16 .shr 15 (ki .u64 8),oM 0 16]
 (.reg [oM 17 2,oR 18 .add 17 (k 8),oM 2 18]))
 .skip))
 (Rg [oM 19 2,oM 20 0,o 21 (.conv .u8 20),o 22 (.idx (ks (⟨#[0,1,2,2,3,3,3,3,4,4,4,4,4,4,4,4,5,5,5,5,5,5,5,5,5,5,5,5,5,5,5,5,6,6,6,6,6,6,6,6,6,6,6,6,6,6,6,6,6,6,6,6,6,6,6,6,6,6,6,6,6,6,6,6,7,7,7,7,7,7,7,7,7,7,7,7,7,7,7,7,7,7,7,7,7,7,7,7,7,7,7,7,7,7,7,7,7,7,7,7,7,7,7,7,7,7,7,7,7,7,7,7,7,7,7,7,7,7,7,7,7,7,7,7,7,7,7,7,8,8,8,8,8,8,8,8,8,8,8,8,8,8,8,8,8,8,8,8,8,8,8,8,8,8,8,8,8,8,8,8,8,8,8,8,8,8,8,8,8,8,8,8,8,8,8,8,8,8,8,8,8,8,8,8,8,8,8,8,8,8,8,8,8,8,8,8,8,8,8,8,8,8,8,8,8,8,8,8,8,8,8,8,8,8,8,8,8,8,8,8,8,8,8,8,8,8,8,8,8,8,8,8,8,8,8,8,8,8,8,8,8,8,8,8,8,8,8,8,8,8,8,8,8,8,8,8]⟩)) 21),o 23 (.conv .i64 22),oR 24 .add 19 23,oM 2 24]
 (Fr 2)))
def Ydi(lo:Lo):Int×Int->Option Int:=fun x=>match x with
  | (x0,n2)=>bif(decide (256<=x0))then(chk (0<=(8:Int)) (chk (0<=(YBh .u8 (x0.fdiv (2^(min (8:Int).toNat (IntKind.bits .u64)))))/\ (YBh .u8 (x0.fdiv (2^(min (8:Int).toNat (IntKind.bits .u64)))))< ((YBg #[0,1,2,2,3,3,3,3,4,4,4,4,4,4,4,4,5,5,5,5,5,5,5,5,5,5,5,5,5,5,5,5,6,6,6,6,6,6,6,6,6,6,6,6,6,6,6,6,6,6,6,6,6,6,6,6,6,6,6,6,6,6,6,6,7,7,7,7,7,7,7,7,7,7,7,7,7,7,7,7,7,7,7,7,7,7,7,7,7,7,7,7,7,7,7,7,7,7,7,7,7,7,7,7,7,7,7,7,7,7,7,7,7,7,7,7,7,7,7,7,7,7,7,7,7,7,7,7,8,8,8,8,8,8,8,8,8,8,8,8,8,8,8,8,8,8,8,8,8,8,8,8,8,8,8,8,8,8,8,8,8,8,8,8,8,8,8,8,8,8,8,8,8,8,8,8,8,8,8,8,8,8,8,8,8,8,8,8,8,8,8,8,8,8,8,8,8,8,8,8,8,8,8,8,8,8,8,8,8,8,8,8,8,8,8,8,8,8,8,8,8,8,8,8,8,8,8,8,8,8,8,8,8,8,8,8,8,8,8,8,8,8,8,8,8,8,8,8,8,8,8,8,8,8,8,8]).size:Int)) (some (YBh .i64 ((YBh .i64 (n2+8))+(YBh .i64 (Yyz (YBg #[0,1,2,2,3,3,3,3,4,4,4,4,4,4,4,4,5,5,5,5,5,5,5,5,5,5,5,5,5,5,5,5,6,6,6,6,6,6,6,6,6,6,6,6,6,6,6,6,6,6,6,6,6,6,6,6,6,6,6,6,6,6,6,6,7,7,7,7,7,7,7,7,7,7,7,7,7,7,7,7,7,7,7,7,7,7,7,7,7,7,7,7,7,7,7,7,7,7,7,7,7,7,7,7,7,7,7,7,7,7,7,7,7,7,7,7,7,7,7,7,7,7,7,7,7,7,7,7,8,8,8,8,8,8,8,8,8,8,8,8,8,8,8,8,8,8,8,8,8,8,8,8,8,8,8,8,8,8,8,8,8,8,8,8,8,8,8,8,8,8,8,8,8,8,8,8,8,8,8,8,8,8,8,8,8,8,8,8,8,8,8,8,8,8,8,8,8,8,8,8,8,8,8,8,8,8,8,8,8,8,8,8,8,8,8,8,8,8,8,8,8,8,8,8,8,8,8,8,8,8,8,8,8,8,8,8,8,8,8,8,8,8,8,8,8,8,8,8,8,8,8,8,8,8,8,8]) (YBh .u8 (x0.fdiv (2^(min (8:Int).toNat (IntKind.bits .u64))))))))))))else(chk (0<=(YBh .u8 x0)/\ (YBh .u8 x0)< ((YBg #[0,1,2,2,3,3,3,3,4,4,4,4,4,4,4,4,5,5,5,5,5,5,5,5,5,5,5,5,5,5,5,5,6,6,6,6,6,6,6,6,6,6,6,6,6,6,6,6,6,6,6,6,6,6,6,6,6,6,6,6,6,6,6,6,7,7,7,7,7,7,7,7,7,7,7,7,7,7,7,7,7,7,7,7,7,7,7,7,7,7,7,7,7,7,7,7,7,7,7,7,7,7,7,7,7,7,7,7,7,7,7,7,7,7,7,7,7,7,7,7,7,7,7,7,7,7,7,7,8,8,8,8,8,8,8,8,8,8,8,8,8,8,8,8,8,8,8,8,8,8,8,8,8,8,8,8,8,8,8,8,8,8,8,8,8,8,8,8,8,8,8,8,8,8,8,8,8,8,8,8,8,8,8,8,8,8,8,8,8,8,8,8,8,8,8,8,8,8,8,8,8,8,8,8,8,8,8,8,8,8,8,8,8,8,8,8,8,8,8,8,8,8,8,8,8,8,8,8,8,8,8,8,8,8,8,8,8,8,8,8,8,8,8,8,8,8,8,8,8,8,8,8,8,8,8,8]).size:Int)) (some (YBh .i64 (n2+(YBh .i64 (Yyz (YBg #[0,1,2,2,3,3,3,3,4,4,4,4,4,4,4,4,5,5,5,5,5,5,5,5,5,5,5,5,5,5,5,5,6,6,6,6,6,6,6,6,6,6,6,6,6,6,6,6,6,6,6,6,6,6,6,6,6,6,6,6,6,6,6,6,7,7,7,7,7,7,7,7,7,7,7,7,7,7,7,7,7,7,7,7,7,7,7,7,7,7,7,7,7,7,7,7,7,7,7,7,7,7,7,7,7,7,7,7,7,7,7,7,7,7,7,7,7,7,7,7,7,7,7,7,7,7,7,7,8,8,8,8,8,8,8,8,8,8,8,8,8,8,8,8,8,8,8,8,8,8,8,8,8,8,8,8,8,8,8,8,8,8,8,8,8,8,8,8,8,8,8,8,8,8,8,8,8,8,8,8,8,8,8,8,8,8,8,8,8,8,8,8,8,8,8,8,8,8,8,8,8,8,8,8,8,8,8,8,8,8,8,8,8,8,8,8,8,8,8,8,8,8,8,8,8,8,8,8,8,8,8,8,8,8,8,8,8,8,8,8,8,8,8,8,8,8,8,8,8,8,8,8,8,8,8,8]) (YBh .u8 x0)))))))
def Ysq(lo:Lo):LpE:=⟨9,[],(Zsg [0,2] [.i .u64,.j] []),[⟨.ret,(Zsg [2] [.j] [])⟩],Ydi lo⟩
def Ysr(lo:Lo):LL:=(Ysq lo,q10_J9_b.er)::[]
theorem Yss(lo:Lo):Lk lo pf (fs10 lo) 0 (Ysr lo):=.j .n
def q10(lo:Lo)(x0:Int):Option Int:=
  bif(decide (4294967296<=x0))then(chk (0<=(32:Int)) (bif(decide ((65536:Int)<=(x0.fdiv (2^(min (32:Int).toNat (IntKind.bits .u64))))))then(chk (0<=(16:Int)) (YAZ (Ydi lo (((x0.fdiv (2^(min (32:Int).toNat (IntKind.bits .u64)))).fdiv (2^(min (16:Int).toNat (IntKind.bits .u64)))),(YBh .i64 ((32:Int)+(16:Int))))) fun y45=>some y45))else(YAZ (Ydi lo ((x0.fdiv (2^(min (32:Int).toNat (IntKind.bits .u64)))),(32:Int))) fun y46=>some y46)))else(bif(decide (65536<=x0))then(chk (0<=(16:Int)) (YAZ (Ydi lo ((x0.fdiv (2^(min (16:Int).toNat (IntKind.bits .u64)))),(YBh .i64 ((0:Int)+(16:Int))))) fun y47=>some y47))else(YAZ (Ydi lo (x0,(0:Int))) fun y48=>some y48))
def Yst:VFn:=⟨true,25,[.t 2],
 (Rg [oK 2 0]
 (.seq (Rg [oM 3 0,oR 4 .geq 3 (ki .u64 4294967296)]
 (.cond 4 (Rg [oM 5 0,oR 6 .shr 5 (ki .u64 32),oM 0 6]
 (.reg [oK 2 32]))
 .skip))
 (.seq (Rg [oM 7 0,oR 8 .geq 7 (ki .u64 65536)]
 (.cond 8 (Rg [oM 9 0,oR 10 .shr 9 (ki .u64 16),oM 0 10]
 (.reg [oM 11 2,oR 12 .add 11 (k 16),oM 2 12]))
 .skip))
 (.jn 9 q10_J9_b))))⟩
def Ylh(lo:Lo):FnE:=Zfe 187 true (Zsg [0] [.i .u64] []) (.i .i64) [] (fun x=>q10 lo x:Int->Option Int)
def fs11(lo:Lo):List FnE:=Ylh lo::fs10 lo
theorem Ysu(h:GZ P fm fs10 lo)(t:Ti P fm 187 Yst):GZ P fm fs11 lo:=
  h.p (Ylh lo) (Yss lo) t
def q11(lo:Lo)(x0:Int):Option Int:=
  YAZ (q10 lo x0) fun y49=>some y49
def Ysv:VFn:=⟨true,8,[.t 2],
 (Rg [oK 2 0]
 (.seq (.cond (kb false) (Rg [oM 3 0,o 4 (.conv .u32 3),oC 5 186 [4],oM 2 5]
 (Fr 2))
 .skip)
 (Rg [oM 6 0,oC 7 187 [6],oM 2 7]
 (Fr 2))))⟩
def Yli(lo:Lo):FnE:=Zfe 163 true (Zsg [0] [.i .u64] []) (.i .i64) [] (fun x=>q11 lo x:Int->Option Int)
def fs12(lo:Lo):List FnE:=Yli lo::fs11 lo
theorem Ysw(h:GZ P fm fs11 lo)(t:Ti P fm 163 Ysv):GZ P fm fs12 lo:=
  h.p (Yli lo) .n t
def q12(lo:Lo)(x0:Int):Option Bool:=
  some (!decide (x0=x0))
def Ysx:VFn:=⟨true,6,[.t 2],
 (Rg [oB 2 false]
 (Rg [oM 3 0,oM 4 0,oR 5 .neq 3 4,oM 2 5]
 (Fr 2)))⟩
def Ylj(lo:Lo):FnE:=Zfe 199 true (Zsg [0] [.j] []) .b [] (fun x=>q12 lo x:Int->Option Bool)
def fs13(lo:Lo):List FnE:=Ylj lo::fs12 lo
theorem Ysy(h:GZ P fm fs12 lo)(t:Ti P fm 199 Ysx):GZ P fm fs13 lo:=
  h.p (Ylj lo) .n t
def q13(lo:Lo)(x0:Int)(y1:Int):Option Bool:=
  YAZ (q12 lo x0) fun y51=>bif y51 then(YAZ (q12 lo y1) fun y52=>bif(!y52)then(some true)else(some (decide (x0<y1))))else(some (decide (x0<y1)))
def Ysz:VFn:=⟨true,17,[.t 4],
 (Rg [oB 4 false]
 (Rg [oM 5 0,oC 6 199 [5],oM 7 6,gT 8 7 (.mv 1),gT 9 7 (.call 199 [8]),gT 10 7 (.not 9),oP 11 7 10 (kb false),oM 12 11,gF 13 12 (.mv 0),gF 14 12 (.mv 1),gF 15 12 (.bin .lss 13 14),oP 16 12 (kb true) 15,oM 4 16]
 (Fr 4)))⟩
def Ylk(lo:Lo):FnE:=Zfe 183 true (Zsg [0,1] [.j,.j] []) .b [] (fun x=>q13 lo x.1 x.2:Int×Int->Option Bool)
def fs14(lo:Lo):List FnE:=Ylk lo::fs13 lo
theorem YsA(h:GZ P fm fs13 lo)(t:Ti P fm 183 Ysz):GZ P fm fs14 lo:=
  h.p (Ylk lo) .n t
def q14_L3_b:VCode:=
 (.seq (Rg [oM 16 7,oM 17 1,oR 18 .gtr 16 17,oM 19 18,gT 20 19 (.mv 0),gT 21 19 (.mv 7),gT 22 19 (.iad 1 20 21),gT 23 19 (.load false 1 22),gT 24 19 (.mv 0),gT 25 19 (.mv 7),gT 26 19 (.bin .sub 25 (k 1)),gT 27 19 (.iad 1 24 26),gT 28 19 (.load false 1 27),gT 29 19 (.call 183 [23,28]),oP 30 19 29 (kb false)]
 (Ce 30 2))
 (.seq (.blk 3 (.reg [oM 33 0,oM 34 7,oM 35 0,oM 36 7,oR 37 .sub 36 (k 1),oM 38 0,oM 39 7,oR 40 .sub 39 (k 1),oI 41 1 38 40,oL 42 41,oM 43 0,oM 44 7,oI 45 1 43 44,oL 46 45,oI 47 1 33 34,oS 1 47 42,oI 48 1 35 37,oS 1 48 46]))
 (.reg [oM 31 7,oR 32 .sub 31 (k 1),oM 7 32])))
def Yll(lo:Lo):Int×Int×Int×Int× (List Int)->Option ((Int×Int×Int×Int× (List Int))⊕ ((Int×Int×Int× (List Int)))):=fun x=>match x with
  | (a1,b2,i6,j7,data0)=>bif(decide (a1<j7))then(chk (0<=j7/\j7< (data0.length:Int)) (chk (0<=(YBh .i64 (j7-1))/\ (YBh .i64 (j7-1))< (data0.length:Int)) (YAZ (q13 lo (data0.getD j7.toNat (0:Int)) (data0.getD ((YBh .i64 (j7-1)).toNat) (0:Int))) fun y53=>bif y53 then(chk (0<=(YBh .i64 (j7-1))/\ (YBh .i64 (j7-1))< (data0.length:Int)) (chk (0<=j7/\j7< (data0.length:Int)) (chk (0<=j7/\j7< (data0.length:Int)) (chk (0<=(YBh .i64 (j7-1))/\ (YBh .i64 (j7-1))< ((data0.set j7.toNat (data0.getD ((YBh .i64 (j7-1)).toNat) (0:Int))).length:Int)) (some (.inl (a1,b2,i6,(YBh .i64 (j7-1)),((data0.set j7.toNat (data0.getD ((YBh .i64 (j7-1)).toNat) (0:Int))).set ((YBh .i64 (j7-1)).toNat) (data0.getD j7.toNat (0:Int))))))))))else(some (.inr (a1,b2,i6,data0))))))else(some (.inr (a1,b2,i6,data0)))
def Ylm(lo:Lo):Int×Int×Int×Int× (List Int)->Option ((Int×Int×Int× (List Int))):=lo.run (Yll lo)
def YsB(lo:Lo):LpE:=⟨3,[],(Zsg [0,1,2,6,7] [.ref 0,.j,.j,.j,.j] [.sq (cs [I])]),[⟨.exit 2,(Zsg [0,1,2,6] [.ref 0,.j,.j,.j] [.sq (cs [I])])⟩],Ylm lo⟩
def Yln(lo:Lo):LL:=(YsB lo,.loop q14_L3_b.er)::[]
theorem YsC(lo:Lo):Lk lo pf (fs14 lo) 1 (Yln lo):=.l .n (Yll lo)
def q14_L1_b:VCode:=
 (.seq (Rg [oM 10 6,oM 11 2,oR 12 .lss 10 11]
 (Ce 12 0))
 (.seq (.blk 1 (Rg [oM 15 6,oM 7 15]
 (.blk 2 (.loop 3 q14_L3_b))))
 (.reg [oM 13 6,oR 14 .add 13 (k 1),oM 6 14])))
def Ylo(lo:Lo):Int×Int×Int× (List Int)->Option ((Int×Int×Int× (List Int))⊕ (((List Int)))):=fun x=>match x with
  | (a1,b2,i6,data0)=>bif(decide (i6<b2))then(YAZ (Ylm lo (a1,b2,i6,i6,data0)) fun y54=>some (.inl (y54.1,y54.2.1,(YBh .i64 (y54.2.2.1+(1:Int))),y54.2.2.2)))else(some (.inr data0))
def Ylp(lo:Lo):Int×Int×Int× (List Int)->Option (((List Int))):=lo.run (Ylo lo)
def YsD(lo:Lo):LpE:=⟨1,[],(Zsg [0,1,2,6] [.ref 0,.j,.j,.j] [.sq (cs [I])]),[⟨.exit 0,(Zsg [] [] [.sq (cs [I])])⟩],Ylp lo⟩
def YsE(lo:Lo):LL:=(YsD lo,.loop q14_L1_b.er)::Yln lo
theorem YsF(lo:Lo):Lk lo pf (fs14 lo) 1 (YsE lo):=.l (YsC lo) (Ylo lo)
def q14(lo:Lo)(a1:Int)(b2:Int)(data0:List Int):Option ((List Int)):=
  YAZ (Ylp lo (a1,b2,(YBh .i64 (a1+1)),data0)) fun y55=>some y55
def YsG:VFn:=⟨true,49,[],
 (Rg [oM 8 1,oR 9 .add 8 (k 1),oM 6 9]
 (.blk 0 (.loop 1 q14_L1_b)))⟩
def Ylq(lo:Lo):FnE:=Zfe 177 false (Zsg [0,1,2] [.ref 0,.j,.j] [.sq (cs [I])]) (.tp []) [.sq (cs [I])] (fun x=>q14 lo x.1 x.2.1 x.2.2:Int×Int× (List Int)->Option ((List Int)))
def fs15(lo:Lo):List FnE:=Ylq lo::fs14 lo
theorem YsH(h:GZ P fm fs14 lo)(t:Ti P fm 177 YsG):GZ P fm fs15 lo:=
  h.i (Ylq lo) (YsF lo) t
def q15(lo:Lo)(x0:Int)(x1:Int)(x2:List Int):Option ((List Int)):=none
def Ylr(lo:Lo):FnE:=Zfe 178 false (Zsg [0,1,2] [.ref 0,.j,.j] [.sq (cs [I])]) (.tp []) [.sq (cs [I])] (fun x=>q15 lo x.1 x.2.1 x.2.2:Int×Int× (List Int)->Option ((List Int)))
def fs16(lo:Lo):List FnE:=Ylr lo::fs15 lo
theorem YsI(h:GZ P fm fs15 lo)(hN:True):GZ P fm fs16 lo:=
  ⟨h.1,h.2,Ybx h.S (Ylr lo) (fun _=>rfl)⟩
def q16(lo:Lo)(x0:Int)(x1:Int)(x2:List Int):Option ((List Int)):=none
def Yls(lo:Lo):FnE:=Zfe 179 false (Zsg [0,1,2] [.ref 0,.j,.j] [.sq (cs [I])]) (.tp []) [.sq (cs [I])] (fun x=>q16 lo x.1 x.2.1 x.2.2:Int×Int× (List Int)->Option ((List Int)))
def fs17(lo:Lo):List FnE:=Yls lo::fs16 lo
theorem YsJ(h:GZ P fm fs16 lo)(hN:True):GZ P fm fs17 lo:=
  ⟨h.1,h.2,Ybx h.S (Yls lo) (fun _=>rfl)⟩
def q17(lo:Lo)(x0:List Int)(x1:Int)(x2:Int):Option (Int×Int):=none
def Ylt(lo:Lo):FnE:=Zfe 180 true (Zsg [0,1,2] [.l (cs [I]),.j,.j] []) (.tp [.j,.j]) [] (fun x=>q17 lo x.1 x.2.1 x.2.2:(List Int)×Int×Int->Option (Int×Int))
def fs18(lo:Lo):List FnE:=Ylt lo::fs17 lo
theorem YsK(h:GZ P fm fs17 lo)(hN:True):GZ P fm fs18 lo:=
  ⟨h.1,h.2,Ybx h.S (Ylt lo) (fun _=>rfl)⟩
def q18(lo:Lo)(x0:Int)(x1:Int)(x2:List Int):Option ((List Int)):=none
def Ylu(lo:Lo):FnE:=Zfe 181 false (Zsg [0,1,2] [.ref 0,.j,.j] [.sq (cs [I])]) (.tp []) [.sq (cs [I])] (fun x=>q18 lo x.1 x.2.1 x.2.2:Int×Int× (List Int)->Option ((List Int)))
def fs19(lo:Lo):List FnE:=Ylu lo::fs18 lo
theorem YsL(h:GZ P fm fs18 lo)(hN:True):GZ P fm fs19 lo:=
  ⟨h.1,h.2,Ybx h.S (Ylu lo) (fun _=>rfl)⟩
def q19(lo:Lo)(x0:Int)(x1:Int)(x2:List Int):Option (Bool× (List Int)):=none
def Ylv(lo:Lo):FnE:=Zfe 182 false (Zsg [0,1,2] [.ref 0,.j,.j] [.sq (cs [I])]) .b [.sq (cs [I])] (fun x=>q19 lo x.1 x.2.1 x.2.2:Int×Int× (List Int)->Option (Bool× (List Int)))
def fs20(lo:Lo):List FnE:=Ylv lo::fs19 lo
theorem YsM(h:GZ P fm fs19 lo)(hN:True):GZ P fm fs20 lo:=
  ⟨h.1,h.2,Ybx h.S (Ylv lo) (fun _=>rfl)⟩
def q20(lo:Lo)(x0:Int)(x1:Int)(x2:Int)(x3:List Int):Option (Int× (List Int)):=none
def Ylw(lo:Lo):FnE:=Zfe 184 false (Zsg [0,1,2,3] [.ref 0,.j,.j,.j] [.sq (cs [I])]) (.i .i64) [.sq (cs [I])] (fun x=>q20 lo x.1 x.2.1 x.2.2.1 x.2.2.2:Int×Int×Int× (List Int)->Option (Int× (List Int)))
def fs21(lo:Lo):List FnE:=Ylw lo::fs20 lo
theorem YsN(h:GZ P fm fs20 lo)(hN:True):GZ P fm fs21 lo:=
  ⟨h.1,h.2,Ybx h.S (Ylw lo) (fun _=>rfl)⟩
def q21(lo:Lo)(x0:Int)(x1:Int)(x2:Int)(x3:List Int):Option (Int×Bool× (List Int)):=none
def Ylx(lo:Lo):FnE:=Zfe 185 false (Zsg [0,1,2,3] [.ref 0,.j,.j,.j] [.sq (cs [I])]) (.tp [.j,.b]) [.sq (cs [I])] (fun x=>q21 lo x.1 x.2.1 x.2.2.1 x.2.2.2:Int×Int×Int× (List Int)->Option (Int×Bool× (List Int)))
def fs22(lo:Lo):List FnE:=Ylx lo::fs21 lo
theorem YsO(h:GZ P fm fs21 lo)(hN:True):GZ P fm fs22 lo:=
  ⟨h.1,h.2,Ybx h.S (Ylx lo) (fun _=>rfl)⟩
end Go.Abs.G39
namespace Go.Abs.G39
open Go Go.Abs
set_option maxRecDepth 100000
set_option maxHeartbeats 1000000
variable{P:Program}{fm:FM}{lo:Lo}
def Ydj(F:Int×Int×Int× (List Int)->Option ((List Int))):FnE:=⟨162,false,(Zsg [0,1,2,3] [.ref 0,.j,.j,.j] [.sq (cs [I])]),.tp [],[.sq (cs [I])],Zc1,F⟩
def q22_J20_b:VCode:=
 (.seq (Rg [oM 73 1,oR 74 .gtr 73 (k 0),oM 75 74,gT 76 75 (.mv 0),gT 77 75 (.mv 1),gT 78 75 (.bin .sub 77 (k 1)),gT 79 75 (.iad 1 76 78),gT 80 75 (.load false 1 79),gT 81 75 (.mv 0),gT 82 75 (.mv 11),gT 83 75 (.iad 1 81 82),gT 84 75 (.load false 1 83),gT 85 75 (.call 183 [80,84]),gT 86 75 (.not 85),oP 87 75 86 (kb false)]
 (.cond 87 (Rg [oM 88 0,oM 89 1,oM 90 2,oM 91 11,oC 92 184 [88,89,90,91],oM 13 92]
 (Rg [oM 93 13,oM 1 93]
 (.exit 1)))
 .skip))
 (Rg [oM 95 0,oM 96 1,oM 97 2,oM 98 11,oC 99 185 [95,96,97,98],oM 94 99,oE 100 94 0,oE 101 94 1,oM 14 100,oM 15 101]
 (Rg [oM 102 15,oM 9 102]
 (Rg [oM 103 14,oM 104 1,oR 105 .sub 103 104,oM 106 2,oM 107 14,oR 108 .sub 106 107,oM 16 105,oM 17 108]
 (Rg [oM 109 10,oR 110 .quo 109 (k 8),oM 18 110]
 (Rg [oM 111 16,oM 112 17,oR 113 .lss 111 112]
 (.cond 113 (Rg [oM 114 16,oM 115 18,oR 116 .geq 114 115,oM 8 116]
 (Rg [oM 117 0,oM 118 1,oM 119 14,oM 120 3,oC 121 162 [117,118,119,120]]
 (.reg [oM 122 14,oR 123 .add 122 (k 1),oM 1 123])))
 (Rg [oM 124 17,oM 125 18,oR 126 .geq 124 125,oM 8 126]
 (Rg [oM 127 0,oM 128 14,oR 129 .add 128 (k 1),oM 130 2,oM 131 3,oC 132 162 [127,129,130,131]]
 (.reg [oM 133 14,oM 2 133]))))))))))
def Ydk(lo:Lo)(rec:Int×Int×Int× (List Int)->Option ((List Int))):Int×Int×Int×Bool×Bool×Int×Int× (List Int)->Option (Zp34⊕Zp34):=fun x=>match x with
  | (a1,b2,limit3,wasBalanced8,wasPartitioned9,length10,pivot11,data0)=>bif(decide (0<a1))then(chk (0<=(YBh .i64 (a1-1))/\ (YBh .i64 (a1-1))< (data0.length:Int)) (chk (0<=pivot11/\pivot11< (data0.length:Int)) (YAZ (q13 lo (data0.getD ((YBh .i64 (a1-1)).toNat) (0:Int)) (data0.getD pivot11.toNat (0:Int))) fun y62=>bif(!y62)then(YAZ (q20 lo a1 b2 pivot11 data0) fun y63=>chk (y63.2.length=data0.length) (some (.inl (y63.1,b2,limit3,wasBalanced8,wasPartitioned9,y63.2))))else(YAZ (q21 lo a1 b2 pivot11 data0) fun y64=>chk (y64.2.2.length=data0.length) (chk ((8:Int)≠0) (bif(decide ((YBh .i64 (y64.1-a1))< (YBh .i64 (b2-y64.1))))then(YAZ (rec (a1,y64.1,limit3,y64.2.2)) fun y65=>chk (y65.length=y64.2.2.length) (some (.inr ((YBh .i64 (y64.1+(1:Int))),b2,limit3,(decide ((YBh .i64 (length10.tdiv (8:Int)))<=(YBh .i64 (y64.1-a1)))),y64.2.1,y65))))else(YAZ (rec ((YBh .i64 (y64.1+(1:Int))),b2,limit3,y64.2.2)) fun y66=>chk (y66.length=y64.2.2.length) (some (.inr (a1,y64.1,limit3,(decide ((YBh .i64 (length10.tdiv (8:Int)))<=(YBh .i64 (b2-y64.1)))),y64.2.1,y66))))))))))else(YAZ (q21 lo a1 b2 pivot11 data0) fun y67=>chk (y67.2.2.length=data0.length) (chk ((8:Int)≠0) (bif(decide ((YBh .i64 (y67.1-a1))< (YBh .i64 (b2-y67.1))))then(YAZ (rec (a1,y67.1,limit3,y67.2.2)) fun y68=>chk (y68.length=y67.2.2.length) (some (.inr ((YBh .i64 (y67.1+(1:Int))),b2,limit3,(decide ((YBh .i64 (length10.tdiv (8:Int)))<=(YBh .i64 (y67.1-a1)))),y67.2.1,y68))))else(YAZ (rec ((YBh .i64 (y67.1+(1:Int))),b2,limit3,y67.2.2)) fun y69=>chk (y69.length=y67.2.2.length) (some (.inr (a1,y67.1,limit3,(decide ((YBh .i64 (length10.tdiv (8:Int)))<=(YBh .i64 (b2-y67.1)))),y67.2.1,y69)))))))
def YsP(lo:Lo)(rec:Int×Int×Int× (List Int)->Option ((List Int))):LpE:=⟨20,[],(Zsg [0,1,2,3,8,9,10,11] [.ref 0,.j,.j,.j,.b,.b,.j,.j] [.sq (cs [I])]),[⟨.exit 1,(Zsg [0,1,2,3,8,9] [.ref 0,.j,.j,.j,.b,.b] [.sq (cs [I])])⟩,⟨.nor,(Zsg [0,1,2,3,8,9] [.ref 0,.j,.j,.j,.b,.b] [.sq (cs [I])])⟩],Ydk lo rec⟩
def Yly(lo:Lo)(rec:Int×Int×Int× (List Int)->Option ((List Int))):LL:=(YsP lo rec,q22_J20_b.er)::[]
theorem YsQ(lo:Lo)(rec:Int×Int×Int× (List Int)->Option ((List Int))):Lk lo pf (Ydj rec::fs22 lo) 1 (Yly lo rec):=.j .n
def q22_J25_b:VCode:=
 (.seq (Rg [oM 61 8,oM 62 61,gT 63 62 (.mv 9),oP 64 62 63 (kb false),oM 65 64,gT 66 65 (.mv 12),gT 67 65 (.bin .eql 66 (k 1)),oP 68 65 67 (kb false)]
 (.cond 68 (Rg [oM 69 0,oM 70 1,oM 71 2,oC 72 182 [69,70,71]]
 (.cond 72 .ret
 .skip))
 .skip))
 (.jn 20 q22_J20_b))
def Ygw(lo:Lo)(rec:Int×Int×Int× (List Int)->Option ((List Int))):Int×Int×Int×Bool×Bool×Int×Int×Int× (List Int)->Option (((List Int))⊕Zp34⊕Zp34):=fun x=>match x with
  | (a1,b2,limit3,wasBalanced8,wasPartitioned9,length10,pivot11,hint12,data0)=>bif wasBalanced8 then(bif wasPartitioned9 then(bif(decide (hint12=1))then(YAZ (q19 lo a1 b2 data0) fun y61=>chk (y61.2.length=data0.length) (bif y61.1 then(some (.inl y61.2))else(YAZ (Ydk lo rec (a1,b2,limit3,wasBalanced8,wasPartitioned9,length10,pivot11,y61.2)) fun y70=>alt2 y70 (fun y71=>some (.inr (.inl (y71.1,y71.2.1,y71.2.2.1,y71.2.2.2.1,y71.2.2.2.2.1,y71.2.2.2.2.2)))) (fun y72=>some (.inr (.inr (y72.1,y72.2.1,y72.2.2.1,y72.2.2.2.1,y72.2.2.2.2.1,y72.2.2.2.2.2)))))))else(YAZ (Ydk lo rec (a1,b2,limit3,wasBalanced8,wasPartitioned9,length10,pivot11,data0)) fun y73=>alt2 y73 (fun y74=>some (.inr (.inl (y74.1,y74.2.1,y74.2.2.1,y74.2.2.2.1,y74.2.2.2.2.1,y74.2.2.2.2.2)))) (fun y75=>some (.inr (.inr (y75.1,y75.2.1,y75.2.2.1,y75.2.2.2.1,y75.2.2.2.2.1,y75.2.2.2.2.2))))))else(YAZ (Ydk lo rec (a1,b2,limit3,wasBalanced8,wasPartitioned9,length10,pivot11,data0)) fun y76=>alt2 y76 (fun y77=>some (.inr (.inl (y77.1,y77.2.1,y77.2.2.1,y77.2.2.2.1,y77.2.2.2.2.1,y77.2.2.2.2.2)))) (fun y78=>some (.inr (.inr (y78.1,y78.2.1,y78.2.2.1,y78.2.2.2.1,y78.2.2.2.2.1,y78.2.2.2.2.2))))))else(YAZ (Ydk lo rec (a1,b2,limit3,wasBalanced8,wasPartitioned9,length10,pivot11,data0)) fun y79=>alt2 y79 (fun y80=>some (.inr (.inl (y80.1,y80.2.1,y80.2.2.1,y80.2.2.2.1,y80.2.2.2.2.1,y80.2.2.2.2.2)))) (fun y81=>some (.inr (.inr (y81.1,y81.2.1,y81.2.2.1,y81.2.2.2.1,y81.2.2.2.2.1,y81.2.2.2.2.2)))))
def YsR(lo:Lo)(rec:Int×Int×Int× (List Int)->Option ((List Int))):LpE:=⟨25,[],(Zsg [0,1,2,3,8,9,10,11,12] [.ref 0,.j,.j,.j,.b,.b,.j,.j,.j] [.sq (cs [I])]),[⟨.ret,(Zsg [] [] [.sq (cs [I])])⟩,⟨.exit 1,(Zsg [0,1,2,3,8,9] [.ref 0,.j,.j,.j,.b,.b] [.sq (cs [I])])⟩,⟨.nor,(Zsg [0,1,2,3,8,9] [.ref 0,.j,.j,.j,.b,.b] [.sq (cs [I])])⟩],Ygw lo rec⟩
def Ylz(lo:Lo)(rec:Int×Int×Int× (List Int)->Option ((List Int))):LL:=(YsR lo rec,q22_J25_b.er)::Yly lo rec
theorem YsS(lo:Lo)(rec:Int×Int×Int× (List Int)->Option ((List Int))):Lk lo pf (Ydj rec::fs22 lo) 1 (Ylz lo rec):=.j (YsQ lo rec)
def q22_J30_b:VCode:=
 (Rg [oM 43 0,oM 44 1,oM 45 2,oC 46 180 [43,44,45],oM 42 46,oE 47 42 0,oE 48 42 1,oM 11 47,oM 12 48]
 (.seq (Rg [oM 49 12,oR 50 .eql 49 (k 2)]
 (.cond 50 (Rg [oM 51 0,oM 52 1,oM 53 2,oC 54 181 [51,52,53]]
 (Rg [oM 55 2,oR 56 .sub 55 (k 1),oM 57 11,oM 58 1,oR 59 .sub 57 58,oR 60 .sub 56 59,oM 11 60]
 (.reg [oK 12 1])))
 .skip))
 (.jn 25 q22_J25_b)))
def Ygx(lo:Lo)(rec:Int×Int×Int× (List Int)->Option ((List Int))):Int×Int×Int×Bool×Bool×Int× (List Int)->Option (((List Int))⊕Zp34⊕Zp34):=fun x=>match x with
  | (a1,b2,limit3,wasBalanced8,wasPartitioned9,length10,data0)=>YAZ (q17 lo data0 a1 b2) fun y59=>bif(decide (y59.2=(2:Int)))then(YAZ (q18 lo a1 b2 data0) fun y60=>chk (y60.length=data0.length) (YAZ (Ygw lo rec (a1,b2,limit3,wasBalanced8,wasPartitioned9,length10,(YBh .i64 ((YBh .i64 (b2-1))-(YBh .i64 (y59.1-a1)))),(1:Int),y60)) fun y82=>alt2 y82 (fun y83=>some (.inl y83)) (fun y84=>alt2 y84 (fun y85=>some (.inr (.inl (y85.1,y85.2.1,y85.2.2.1,y85.2.2.2.1,y85.2.2.2.2.1,y85.2.2.2.2.2)))) (fun y86=>some (.inr (.inr (y86.1,y86.2.1,y86.2.2.1,y86.2.2.2.1,y86.2.2.2.2.1,y86.2.2.2.2.2)))))))else(YAZ (Ygw lo rec (a1,b2,limit3,wasBalanced8,wasPartitioned9,length10,y59.1,y59.2,data0)) fun y87=>alt2 y87 (fun y88=>some (.inl y88)) (fun y89=>alt2 y89 (fun y90=>some (.inr (.inl (y90.1,y90.2.1,y90.2.2.1,y90.2.2.2.1,y90.2.2.2.2.1,y90.2.2.2.2.2)))) (fun y91=>some (.inr (.inr (y91.1,y91.2.1,y91.2.2.1,y91.2.2.2.1,y91.2.2.2.2.1,y91.2.2.2.2.2))))))
def YsT(lo:Lo)(rec:Int×Int×Int× (List Int)->Option ((List Int))):LpE:=⟨30,[],(Zsg [0,1,2,3,8,9,10] [.ref 0,.j,.j,.j,.b,.b,.j] [.sq (cs [I])]),[⟨.ret,(Zsg [] [] [.sq (cs [I])])⟩,⟨.exit 1,(Zsg [0,1,2,3,8,9] [.ref 0,.j,.j,.j,.b,.b] [.sq (cs [I])])⟩,⟨.nor,(Zsg [0,1,2,3,8,9] [.ref 0,.j,.j,.j,.b,.b] [.sq (cs [I])])⟩],Ygx lo rec⟩
def YlA(lo:Lo)(rec:Int×Int×Int× (List Int)->Option ((List Int))):LL:=(YsT lo rec,q22_J30_b.er)::Ylz lo rec
theorem YsU(lo:Lo)(rec:Int×Int×Int× (List Int)->Option ((List Int))):Lk lo pf (Ydj rec::fs22 lo) 1 (YlA lo rec):=.j (YsS lo rec)
def q22_L1_b:VCode:=
 (.blk 1 (Rg [oM 19 2,oM 20 1,oR 21 .sub 19 20,oM 10 21]
 (.seq (Rg [oM 22 10,oR 23 .leq 22 (k 12)]
 (.cond 23 (Rg [oM 24 0,oM 25 1,oM 26 2,oC 27 177 [24,25,26]]
 .ret)
 .skip))
 (.seq (Rg [oM 28 3,oR 29 .eql 28 (k 0)]
 (.cond 29 (Rg [oM 30 0,oM 31 1,oM 32 2,oC 33 178 [30,31,32]]
 .ret)
 .skip))
 (.seq (Rg [oM 34 8,oX 35 34]
 (.cond 35 (Rg [oM 36 0,oM 37 1,oM 38 2,oC 39 179 [36,37,38]]
 (.reg [oM 40 3,oR 41 .sub 40 (k 1),oM 3 41]))
 .skip))
 (.jn 30 q22_J30_b))))))
def YlB(lo:Lo)(rec:Int×Int×Int× (List Int)->Option ((List Int))):Zp34->Option (Zp34⊕ (((List Int)))):=fun x=>match x with
  | (a1,b2,limit3,wasBalanced8,wasPartitioned9,data0)=>bif(decide ((YBh .i64 (b2-a1))<=(12:Int)))then(YAZ (q14 lo a1 b2 data0) fun y56=>chk (y56.length=data0.length) (some (.inr y56)))else(bif(decide (limit3=0))then(YAZ (q15 lo a1 b2 data0) fun y57=>chk (y57.length=data0.length) (some (.inr y57)))else(bif(!wasBalanced8)then(YAZ (q16 lo a1 b2 data0) fun y58=>chk (y58.length=data0.length) (YAZ (Ygx lo rec (a1,b2,(YBh .i64 (limit3-1)),wasBalanced8,wasPartitioned9,(YBh .i64 (b2-a1)),y58)) fun y92=>alt2 y92 (fun y93=>some (.inr y93)) (fun y94=>alt2 y94 (fun y95=>some (.inl (y95.1,y95.2.1,y95.2.2.1,y95.2.2.2.1,y95.2.2.2.2.1,y95.2.2.2.2.2))) (fun y96=>some (.inl (y96.1,y96.2.1,y96.2.2.1,y96.2.2.2.1,y96.2.2.2.2.1,y96.2.2.2.2.2))))))else(YAZ (Ygx lo rec (a1,b2,limit3,wasBalanced8,wasPartitioned9,(YBh .i64 (b2-a1)),data0)) fun y97=>alt2 y97 (fun y98=>some (.inr y98)) (fun y99=>alt2 y99 (fun y100=>some (.inl (y100.1,y100.2.1,y100.2.2.1,y100.2.2.2.1,y100.2.2.2.2.1,y100.2.2.2.2.2))) (fun y101=>some (.inl (y101.1,y101.2.1,y101.2.2.1,y101.2.2.2.1,y101.2.2.2.2.1,y101.2.2.2.2.2)))))))
def YlC(lo:Lo)(rec:Int×Int×Int× (List Int)->Option ((List Int))):Zp34->Option (((List Int))):=lo.run (YlB lo rec)
def YsV(lo:Lo)(rec:Int×Int×Int× (List Int)->Option ((List Int))):LpE:=⟨1,[],(Zsg [0,1,2,3,8,9] [.ref 0,.j,.j,.j,.b,.b] [.sq (cs [I])]),[⟨.ret,(Zsg [] [] [.sq (cs [I])])⟩],YlC lo rec⟩
def YlD(lo:Lo)(rec:Int×Int×Int× (List Int)->Option ((List Int))):LL:=(YsV lo rec,.loop q22_L1_b.er)::YlA lo rec
theorem YsW(lo:Lo)(rec:Int×Int×Int× (List Int)->Option ((List Int))):Lk lo pf (Ydj rec::fs22 lo) 1 (YlD lo rec):=.l (YsU lo rec) (YlB lo rec)
def YsX(lo:Lo)(rec:Int×Int×Int× (List Int)->Option ((List Int)))(a1:Int)(b2:Int)(limit3:Int)(data0:List Int):Option ((List Int)):=
  YAZ (YlC lo rec (a1,b2,limit3,true,true,data0)) fun y102=>some y102
def Ygy(lo:Lo):Nat->Int×Int×Int× (List Int)->Option ((List Int))
  |0,_=>none
  |n+1,x=>YsX lo (Ygy lo n) x.1 x.2.1 x.2.2.1 x.2.2.2
def q22(lo:Lo)(a1:Int)(b2:Int)(limit3:Int)(data0:List Int):Option ((List Int)):=lo.run (fixS (Ygy lo)) (0,(a1,b2,limit3,data0))
def YsY:VFn:=⟨true,134,[],
 (Rg [oB 8 true]
 (Rg [oB 9 true]
 (.blk 0 (.loop 1 q22_L1_b))))⟩
def YlE(lo:Lo):FnE:=Ydj (fun x=>q22 lo x.1 x.2.1 x.2.2.1 x.2.2.2)
def fs23(lo:Lo):List FnE:=YlE lo::fs22 lo
theorem YsZ(h:GZ P fm fs22 lo)(t:Ti P fm 162 YsY):GZ P fm fs23 lo:=
  h.ir (YlE lo) (Ygy lo) (ls:=fun rec=>YlD lo rec) (fun rec=>(YsW lo rec)) t (by kernel_rfl) (fun _=>rfl) rfl (fun _=>by kernel_rfl) fun n x=>by kernel_rfl
def q23(lo:Lo)(x0:List Int):Option ((List Int)):=
  YAZ (q11 lo (YBh .u64 (x0.length:Int))) fun y50=>YAZ (q22 lo (0:Int) (x0.length:Int) y50 x0) fun y103=>chk (y103.length=x0.length) (some y103)
def Ys0:VFn:=⟨true,11,[],
 (Rg [oM 3 0,oN 4 3,oM 2 4]
 (.reg [oM 5 0,oM 6 2,oM 7 2,o 8 (.conv .u64 7),oC 9 163 [8],oC 10 162 [5,(k 0),6,9]]))⟩
def YlF(lo:Lo):FnE:=Zfe 147 false (Zsg [0] [.ref 0] [.sq (cs [I])]) (.tp []) [.sq (cs [I])] (fun x=>q23 lo x:(List Int)->Option ((List Int)))
def fs24(lo:Lo):List FnE:=YlF lo::fs23 lo
theorem Ys1(h:GZ P fm fs23 lo)(t:Ti P fm 147 Ys0):GZ P fm fs24 lo:=
  h.i (YlF lo) .n t
def q24(lo:Lo)(l:List Int):Option (List Int):=Yzv (q23 lo) l
def Ys2(lo:Lo):FnE:=vsortE 147 (.cons (.i .i64) .nil) (q24 lo)
def fs25(lo:Lo):List FnE:=Ys2 lo::fs24 lo
theorem Ys3(h:GZ P fm fs24 lo)(hG: ∀f,fm f=147->YwY P f=true/\ ∃ρ:Go.Shelf.Ren,Go.Proofs.Lays.n189 P ρ/\ρ.f 189=f):GZ P fm fs25 lo:=
  ⟨h.1,h.2,YrK h.S rfl (F0:=q23 lo) (YAq ..) hG⟩
def q25_L32_b:VCode:=
 (Rg [oR 47 .lss 46 45]
 (.seq (Ce 47 2)
 (.seq (.blk 3 (Rg [oI 48 1 44 46,oL 49 48,oM 10 49]
 (.reg [oM 50 6,oM 51 10,oM 52 6,oM 53 10,oI 54 1 52 53,oL 55 54,oM 56 7,o 57 (.bsl (cs [I]) 1 [(0,56)]),o 58 (.app (cs [I]) 0 55 57),oI 59 1 50 51,oS 1 59 58])))
 (.reg [oR 60 .add 46 (k 1),oM 46 60]))))
def YlG(lo:Lo):Zp9->Option (Zp9⊕ (Zp28)):=fun x=>match x with
  | (i7,v32,v33,v34,v44,v45,v46,in1_0,in1_1,at6,h3)=>bif(decide (v46<v45))then(chk (0<=v46/\v46< (v44.length:Int)) (chk (0<=(v44.getD v46.toNat (0:Int))/\ (v44.getD v46.toNat (0:Int))< (at6.length:Int)) (chk ((at6.getD ((v44.getD v46.toNat (0:Int)).toNat) []).length+[i7].length<=maxEl) (chk (0<=(v44.getD v46.toNat (0:Int))/\ (v44.getD v46.toNat (0:Int))< (at6.length:Int)) (chk ((v44.getD v46.toNat (0:Int)).toNat=(v44.getD v46.toNat (0:Int)).toNat) (some (.inl (i7,v32,v33,v34,v44,v45,(YBh .i64 (v46+1)),in1_0,in1_1,(at6.set ((v44.getD v46.toNat (0:Int)).toNat) ((at6.getD ((v44.getD v46.toNat (0:Int)).toNat) [])++[i7])),h3))))))))else(some (.inr (v32,v33,v34,in1_0,in1_1,at6,h3)))
def YlH(lo:Lo):Zp9->Option (Zp28):=lo.run (YlG lo)
def Ys4(lo:Lo):LpE:=⟨32,[],(Zsg [1,5,6,7,32,33,34,44,45,46] [.ptr 0 0 0,.ptr 1 0 0,.ref 2,.j,.l Zc1,.j,.j,.l (cs [I]),.j,.j] [.st [.l (cs [I]),.l Zc1],.st [.ref 3],.fm .nil false (cs [I]),.sq (cs [I])]),[⟨.exit 2,(Zsg [1,5,6,32,33,34] [.ptr 0 0 0,.ptr 1 0 0,.ref 2,.l Zc1,.j,.j] [.st [.l (cs [I]),.l Zc1],.st [.ref 3],.fm .nil false (cs [I]),.sq (cs [I])])⟩],YlH lo⟩
def YlI(lo:Lo):LL:=(Ys4 lo,.loop q25_L32_b.er)::[]
theorem Ys5(lo:Lo):Lk lo pf (fs25 lo) 0 (YlI lo):=.l .n (YlG lo)
def q25_L30_b:VCode:=
 (Rg [oR 35 .lss 34 33]
 (.seq (Ce 35 0)
 (.seq (.blk 1 (Rg [oM 36 34,oI 37 1 32 34,oL 38 37,oM 7 36,oM 8 38]
 (Rg [oL 39 5,oM 40 7,oM 41 8,oN 42 41,oI 43 1 39 40,oS 1 43 42]
 (Rg [oM 44 8,oN 45 44,oK 46 0]
 (.blk 2 (.loop 32 q25_L32_b))))))
 (.reg [oR 61 .add 34 (k 1),oM 34 61]))))
def YlJ(lo:Lo):Zp28->Option (Zp28⊕ (((List Int)×Zt0×Zt0× (List Int)))):=fun x=>match x with
  | (v32,v33,v34,in1_0,in1_1,at6,h3)=>bif(decide (v34<v33))then(chk (0<=v34/\v34< (v32.length:Int)) (chk (0<=v34/\v34< (h3.length:Int)) (YAZ (YlH lo (v34,v32,v33,v34,(v32.getD v34.toNat []),((v32.getD v34.toNat []).length:Int),(0:Int),in1_0,in1_1,at6,(h3.set v34.toNat ((v32.getD v34.toNat []).length:Int)))) fun y38=>some (.inl (y38.1,y38.2.1,(YBh .i64 (y38.2.2.1+(1:Int))),y38.2.2.2.1,y38.2.2.2.2.1,y38.2.2.2.2.2.1,y38.2.2.2.2.2.2)))))else(some (.inr (in1_0,in1_1,at6,h3)))
def YlK(lo:Lo):Zp28->Option (((List Int)×Zt0×Zt0× (List Int))):=lo.run (YlJ lo)
def Ys6(lo:Lo):LpE:=⟨30,[],(Zsg [1,5,6,32,33,34] [.ptr 0 0 0,.ptr 1 0 0,.ref 2,.l Zc1,.j,.j] [.st [.l (cs [I]),.l Zc1],.st [.ref 3],.fm .nil false (cs [I]),.sq (cs [I])]),[⟨.exit 0,(Zsg [1,5,6] [.ptr 0 0 0,.ptr 1 0 0,.ref 2] [.st [.l (cs [I]),.l Zc1],.st [.ref 3],.fm .nil false (cs [I]),.sq (cs [I])])⟩],YlK lo⟩
def YlL(lo:Lo):LL:=(Ys6 lo,.loop q25_L30_b.er)::YlI lo
theorem Ys7(lo:Lo):Lk lo pf (fs25 lo) 0 (YlL lo):=.l (Ys5 lo) (YlJ lo)
def q25_L22_b:VCode:=
 (Rg [oR 69 .lss 68 67]
 (.seq (Ce 69 4)
 (.seq (.blk 5 (Rg [oM 70 68,oM 12 70]
 (.reg [oM 71 11,oM 72 12,oM 73 12,oI 74 1 71 72,oS 1 74 73])))
 (.reg [oR 75 .add 68 (k 1),oM 68 75]))))
def YlM(lo:Lo):Zp21->Option (Zp21⊕ (((List Int)×Zt0×Zt0× (List Int)× (List Int)))):=fun x=>match x with
  | (v67,v68,in1_0,in1_1,at6,order11,h4)=>bif(decide (v68<v67))then(chk (0<=v68/\v68< (order11.length:Int)) (some (.inl (v67,(YBh .i64 (v68+1)),in1_0,in1_1,at6,(order11.set v68.toNat v68),h4))))else(some (.inr (in1_0,in1_1,at6,order11,h4)))
def YlN(lo:Lo):Zp21->Option (((List Int)×Zt0×Zt0× (List Int)× (List Int))):=lo.run (YlM lo)
def Ys8(lo:Lo):LpE:=⟨22,[],(Zsg [1,5,6,11,67,68] [.ptr 0 0 0,.ptr 1 0 0,.ref 2,.ref 3,.j,.j] [.st [.l (cs [I]),.l Zc1],.st [.ref 4],.fm .nil false (cs [I]),.sq (cs [I]),.sq (cs [I])]),[⟨.exit 4,(Zsg [1,5,6,11] [.ptr 0 0 0,.ptr 1 0 0,.ref 2,.ref 3] [.st [.l (cs [I]),.l Zc1],.st [.ref 4],.fm .nil false (cs [I]),.sq (cs [I]),.sq (cs [I])])⟩],YlN lo⟩
def YlO(lo:Lo):LL:=(Ys8 lo,.loop q25_L22_b.er)::YlL lo
theorem Ys9(lo:Lo):Lk lo pf (fs25 lo) 0 (YlO lo):=.l (Ys7 lo) (YlM lo)
def q25_L6_b:VCode:=
 (Rg [oR 101 .lss 100 99]
 (.seq (Ce 101 8)
 (.seq (.blk 9 (Rg [oI 102 1 98 100,oL 103 102,oM 17 103]
 (.reg [oL 104 5,oM 105 17,oI 106 1 104 105,oL 107 106,oR 108 .sub 107 (k 1),oI 109 1 104 105,oS 1 109 108])))
 (.reg [oR 110 .add 100 (k 1),oM 100 110]))))
def Ydl(lo:Lo):Zp10->Option (Zp10⊕ (Zp24)):=fun x=>match x with
  | (at6,v80,v81,v98,v99,v100,out13,v79,h3)=>bif(decide (v100<v99))then(chk (0<=v100/\v100< (v98.length:Int)) (chk (0<=(v98.getD v100.toNat (0:Int))/\ (v98.getD v100.toNat (0:Int))< (h3.length:Int)) (chk (0<=(v98.getD v100.toNat (0:Int))/\ (v98.getD v100.toNat (0:Int))< (h3.length:Int)) (some (.inl (at6,v80,v81,v98,v99,(YBh .i64 (v100+1)),out13,v79,(h3.set ((v98.getD v100.toNat (0:Int)).toNat) (YBh .i64 ((h3.getD ((v98.getD v100.toNat (0:Int)).toNat) (0:Int))-(1:Int))))))))))else(some (.inr (at6,v80,v81,out13,v79,h3)))
def Ygz(lo:Lo):Zp10->Option (Zp24):=lo.run (Ydl lo)
def Yta(lo:Lo):LpE:=⟨6,[],(Zsg [5,6,13,79,80,81,98,99,100] [.ptr 0 0 0,.l Zc1,.ref 1,.ref 2,.j,.j,.l (cs [I]),.j,.j] [.st [.ref 3],.sq (cs [I]),.sq (cs [I]),.sq (cs [I])]),[⟨.exit 8,(Zsg [5,6,13,79,80,81] [.ptr 0 0 0,.l Zc1,.ref 1,.ref 2,.j,.j] [.st [.ref 3],.sq (cs [I]),.sq (cs [I]),.sq (cs [I])])⟩],Ygz lo⟩
def YlP(lo:Lo):LL:=(Yta lo,.loop q25_L6_b.er)::YlO lo
theorem Ytb(lo:Lo):Lk lo pf (fs25 lo) 0 (YlP lo):=.l (Ys9 lo) (Ydl lo)
def q25_L4_b:VCode:=
 (Rg [oR 82 .lss 81 80]
 (.seq (Ce 82 6)
 (.seq (.blk 7 (Rg [oI 83 1 79 81,oL 84 83,oM 15 84]
 (.seq (.seq (.fz [6] (.reg [oM 85 6,oM 86 15,oI 87 1 85 86,oL 88 87,o 89 (.mkf 427 [5]),oC 90 426 [88,89]]))
 (.cond 90 (Rg [oM 91 13,oM 92 15,o 93 (.bsl (cs [I]) 1 [(0,92)]),o 94 (.app (cs [I]) 0 91 93),oM 13 94]
 (.exit 7))
 .skip))
 (Rg [oM 95 6,oM 96 15,oI 97 1 95 96,oL 98 97,oN 99 98,oK 100 0]
 (.blk 8 (.loop 6 q25_L6_b))))))
 (.reg [oR 111 .add 81 (k 1),oM 81 111]))))
def Ydm(lo:Lo):Zp24->Option (Zp24⊕ (((List Int)))):=fun x=>match x with
  | (at6,v80,v81,out13,v79,h3)=>bif(decide (v81<v80))then(chk (0<=v81/\v81< (v79.length:Int)) (chk (0<=v79.getD v81.toNat (0:Int)/\v79.getD v81.toNat (0:Int)< (at6.length:Int)) (YAZ (q9 lo (at6.getD ((v79.getD v81.toNat (0:Int)).toNat) []) h3) fun y42=>chk (y42.2.length=h3.length) (bif y42.1 then(chk (out13.length+([v79.getD v81.toNat (0:Int)]).length<=maxEl) (some (.inl (at6,v80,(YBh .i64 (v81+1)),(out13++([v79.getD v81.toNat (0:Int)])),v79,y42.2))))else(chk (0<=v79.getD v81.toNat (0:Int)/\v79.getD v81.toNat (0:Int)< (at6.length:Int)) (YAZ (Ygz lo (at6,v80,v81,(at6.getD ((v79.getD v81.toNat (0:Int)).toNat) []),((at6.getD ((v79.getD v81.toNat (0:Int)).toNat) []).length:Int),(0:Int),out13,v79,y42.2)) fun y43=>some (.inl (y43.1,y43.2.1,(YBh .i64 (y43.2.2.1+(1:Int))),y43.2.2.2.1,y43.2.2.2.2.1,y43.2.2.2.2.2))))))))else(some (.inr out13))
def Yct(lo:Lo):Zp24->Option (((List Int))):=lo.run (Ydm lo)
def Ytc(lo:Lo):LpE:=⟨4,[(13,none,false)],(Zsg [5,6,13,79,80,81] [.ptr 0 0 0,.l Zc1,.ref 1,.ref 2,.j,.j] [.st [.ref 3],.sq (cs [I]),.sq (cs [I]),.sq (cs [I])]),[⟨.exit 6,(Zsg [13] [.ref 0] [.sq (cs [I])])⟩],Yct lo⟩
def Ytd(lo:Lo):LL:=(Ytc lo,.loop q25_L4_b.er)::YlP lo
theorem Yte(lo:Lo):Lk lo pf (fs25 lo) 0 (Ytd lo):=.l (Ytb lo) (Ydm lo)
def q25(lo:Lo)(in0_0:List Int)(in0_1:List ((List Int))):Option ((List Int)×Int):=
  YAZ (q1 lo in0_0 in0_1) fun y37=>bif(!decide (y37=0))then(some (([]:List Int),y37))else(chk (0<=(in0_1.length:Int)/\ (in0_1.length:Int)<=(in0_1.length:Int)/\ (in0_1.length:Int)<=(maxEl:Nat)) (chk (0<=(in0_0.length:Int)/\ (in0_0.length:Int)<=(in0_0.length:Int)/\ (in0_0.length:Int)<=(maxEl:Nat)) (YAZ (YlK lo (in0_1,(in0_1.length:Int),(0:Int),in0_0,in0_1,(List.replicate (in0_0.length:Int).toNat ([]:List Int)),(List.replicate (in0_1.length:Int).toNat (0:Int)))) fun y39=>chk (0<=(y39.1.length:Int)/\ (y39.1.length:Int)<=(y39.1.length:Int)/\ (y39.1.length:Int)<=(maxEl:Nat)) (YAZ (YlN lo (((List.replicate (y39.1.length:Int).toNat (0:Int)).length:Int),(0:Int),y39.1,y39.2.1,y39.2.2.1,(List.replicate (y39.1.length:Int).toNat (0:Int)),y39.2.2.2)) fun y40=>YAZ (q6 lo y40.2.2.2.1 y40.1 y40.2.1) fun y41=>chk (y41.1.length=y40.2.2.2.1.length) (YAZ (Yct lo (y40.2.2.1,(y41.1.length:Int),(0:Int),[],y41.1,y40.2.2.2.2)) fun y44=>YAZ (q24 lo y44) fun y104=>chk (y104.length=y44.length) (some (y104,(0:Int))))))))
def Ytf:VFn:=⟨true,115,[.t 2,.t 3],
 (Rg [oG 1 0,o 2 (.mv (ke (cs [I]))),oK 3 0]
 (.seq (Rg [oT 18 2 1,oC 19 401 [18],oM 4 19]
 (Rg [oM 20 4,oR 21 .neq 20 (k 0)]
 (.cond 21 (Rg [oM 22 4,o 2 (.mv (ke (cs [I]))),oM 3 22]
 (.fz [2,3] .ret))
 .skip)))
 (Rg [oF 23 1 1,oL 24 23,oN 25 24,o 26 (.mksl (cs [I]) 0 25 25),o 5 (.alloc [.e (cs [I])]),oS 1 5 26]
 (Rg [oF 27 0 1,oL 28 27,oN 29 28,o 30 (.mksl Zc1 2 29 29),oM 6 30]
 (.seq (Rg [oF 31 1 1,oL 32 31,oN 33 32,oK 34 0]
 (.blk 0 (.loop 30 q25_L30_b)))
 (Rg [oF 62 0 1,oL 63 62,oN 64 63,o 65 (.mksl (cs [I]) 0 64 64),oM 11 65]
 (.seq (Rg [oM 66 11,oN 67 66,oK 68 0]
 (.blk 4 (.loop 22 q25_L22_b)))
 (Rg [oM 76 11,o 77 (.mkf 425 [1]),oC 78 424 [76,77]]
 (Rg [o 13 (.mv (ke (cs [I])))]
 (.seq (Rg [oM 79 11,oN 80 79,oK 81 0]
 (.blk 6 (.fz [6] (.loop 4 q25_L4_b))))
 (Rg [oM 112 13,oC 113 147 [112]]
 (Rg [oM 114 13,oM 2 114,oK 3 0]
 (.fz [2,3] .ret)))))))))))))⟩
def YlQ(lo:Lo):FnE:=Zfe 404 true (Zsg [0] [.ag [.l (cs [I]),.l Zc1]] []) (.tp [.l (cs [I]),.j]) [] (fun x=>q25 lo x.1 x.2:(List Int)×Zt0->Option ((List Int)×Int))
def fs26(lo:Lo):List FnE:=YlQ lo::fs25 lo
theorem Ytg(h:GZ P fm fs25 lo)(t:Ti P fm 404 Ytf):GZ P fm fs26 lo:=
  h.p (YlQ lo) (Yte lo) t
def q26_L3_b:VCode:=
 (Rg [oR 9 .lss 8 7]
 (.seq (Ce 9 0)
 (.seq (.blk 1 (Rg [oM 10 8,oM 5 10]
 (Rg [oM 11 1,oM 12 0,oM 13 5,oI 14 1 12 13,oL 15 14,oR 16 .eql 11 15]
 (.cond 16 (Rg [oM 17 5,oM 4 17]
 (Fr 4))
 .skip))))
 (.reg [oR 18 .add 8 (k 1),oM 8 18]))))
def YlR(lo:Lo):(List Int)×Int×Int×Int->Option (((List Int)×Int×Int×Int)⊕ (Int⊕Unit)):=fun x=>match x with
  | (s0,v1,v7,v8)=>bif(decide (v8<v7))then(chk (0<=v8/\v8< (s0.length:Int)) (bif(decide (v1=(s0.getD v8.toNat (0:Int))))then(some (.inr (.inl v8)))else(some (.inl (s0,v1,v7,(YBh .i64 (v8+1)))))))else(some (.inr (.inr ())))
def YlS(lo:Lo):(List Int)×Int×Int×Int->Option (Int⊕Unit):=lo.run (YlR lo)
def Yth(lo:Lo):LpE:=⟨3,[],(Zsg [0,1,7,8] [.l (cs [I]),.j,.j,.j] []),[⟨.ret,(Zsg [4] [.j] [])⟩,⟨.exit 0,(Zsg [] [] [])⟩],YlS lo⟩
def Yti(lo:Lo):LL:=(Yth lo,.loop q26_L3_b.er)::[]
theorem Ytj(lo:Lo):Lk lo pf (fs26 lo) 0 (Yti lo):=.l .n (YlR lo)
def q26(lo:Lo)(s0:List Int)(v1:Int):Option Int:=
  YAZ (YlS lo (s0,v1,(s0.length:Int),(0:Int))) fun y107=>alt2 y107 (fun y108=>some y108) (fun y109=>some (-1:Int))
def Ytk:VFn:=⟨true,19,[.t 4],
 (Rg [oK 4 0]
 (.seq (Rg [oM 6 0,oN 7 6,oK 8 0]
 (.blk 0 (.loop 3 q26_L3_b)))
 (Rg [oK 4 (-1)]
 (Fr 4))))⟩
def YlT(lo:Lo):FnE:=Zfe 448 true (Zsg [0,1] [.l (cs [I]),.j] []) (.i .i64) [] (fun x=>q26 lo x.1 x.2:(List Int)×Int->Option Int)
def fs27(lo:Lo):List FnE:=YlT lo::fs26 lo
theorem Ytl(h:GZ P fm fs26 lo)(t:Ti P fm 448 Ytk):GZ P fm fs27 lo:=
  h.p (YlT lo) (Ytj lo) t
def q27(lo:Lo)(s0:List Int)(v1:Int):Option Bool:=
  YAZ (q26 lo s0 v1) fun y110=>some (decide (0<=y110))
def Ytm:VFn:=⟨true,9,[.t 4],
 (Rg [oB 4 false]
 (Rg [oM 5 0,oM 6 1,oC 7 448 [5,6],oR 8 .geq 7 (k 0),oM 4 8]
 (Fr 4)))⟩
def YlU(lo:Lo):FnE:=Zfe 434 true (Zsg [0,1] [.l (cs [I]),.j] []) .b [] (fun x=>q27 lo x.1 x.2:(List Int)×Int->Option Bool)
def fs28(lo:Lo):List FnE:=YlU lo::fs27 lo
theorem Ytn(h:GZ P fm fs27 lo)(t:Ti P fm 434 Ytm):GZ P fm fs28 lo:=
  h.p (YlU lo) .n t
def q28_L3_b:VCode:=
 (Rg [oR 18 .lss 17 16]
 (.seq (Ce 18 0)
 (.seq (.blk 1 (Rg [oM 19 17,oI 20 1 15 17,oL 21 20,oM 8 19,oM 9 21]
 (.seq (Rg [oM 22 9,oR 23 .lss 22 (k 0),oM 24 23,gF 25 24 (.mv 9),gF 26 24 (.fad 0 2),gF 27 24 (.load false 1 26),gF 28 24 (.len 27),gF 29 24 (.bin .geq 25 28),oP 30 24 (kb true) 29,oM 31 30,gF 32 31 (.mv 1),gF 33 31 (.mv 8),gF 34 31 (.slcR 1 32 none (some 33)),gF 35 31 (.mv 9),gF 36 31 (.call 434 [34,35]),oP 37 31 (kb true) 36]
 (.cond 37 (Rg [oK 4 0,oK 5 1]
 (.fz [4,5] .ret))
 .skip))
 (.reg [oM 38 7,oF 39 0 2,oL 40 39,oM 41 9,oI 42 1 40 41,oL 43 42,oR 44 .add 38 43,oM 7 44]))))
 (.reg [oR 45 .add 17 (k 1),oM 17 45]))))
def YlV(lo:Lo):Zp22->Option (Zp22⊕ ((Int×Int)⊕Int)):=fun x=>match x with
  | (l1,sum7,v15,v16,v17,in2_0,in2_1)=>bif(decide (v17<v16))then(chk (0<=v17/\v17< (v15.length:Int)) (bif(decide ((v15.getD v17.toNat (0:Int))< (0:Int)))then(some (.inr (.inl ((0:Int),(1:Int)))))else(bif(decide ((in2_0.length:Int)<=(v15.getD v17.toNat (0:Int))))then(some (.inr (.inl ((0:Int),(1:Int)))))else(chk (0<=(0:Int)/\0<=v17/\v17<=(l1.length:Int)) (YAZ (q27 lo ((l1.take v17.toNat).drop 0) (v15.getD v17.toNat (0:Int))) fun y111=>bif y111 then(some (.inr (.inl ((0:Int),(1:Int)))))else(chk (0<=(v15.getD v17.toNat (0:Int))/\ (v15.getD v17.toNat (0:Int))< (in2_0.length:Int)) (some (.inl (l1,(YBh .i64 (sum7+(in2_0.getD ((v15.getD v17.toNat (0:Int)).toNat) (0:Int)))),v15,v16,(YBh .i64 (v17+1)),in2_0,in2_1)))))))))else(some (.inr (.inr sum7)))
def YlW(lo:Lo):Zp22->Option ((Int×Int)⊕Int):=lo.run (YlV lo)
def Yto(lo:Lo):LpE:=⟨3,[],(Zsg [1,2,7,15,16,17] [.l (cs [I]),.ptr 0 0 0,.j,.l (cs [I]),.j,.j] [.st [.l (cs [I]),.l Zc1]]),[⟨.ret,(Zsg [4,5] [.j,.j] [])⟩,⟨.exit 0,(Zsg [7] [.j] [])⟩],YlW lo⟩
def Ytp(lo:Lo):LL:=(Yto lo,.loop q28_L3_b.er)::[]
theorem Ytq(lo:Lo):Lk lo pf (fs28 lo) 0 (Ytp lo):=.l .n (YlV lo)
def q28(lo:Lo)(in0_0:List Int)(in0_1:List ((List Int)))(l1:List Int):Option (Int×Int):=
  YAZ (q1 lo in0_0 in0_1) fun y106=>bif(!decide (y106=0))then(some ((0:Int),y106))else(YAZ (YlW lo (l1,(0:Int),l1,(l1.length:Int),(0:Int),in0_0,in0_1)) fun y112=>alt2 y112 (fun y113=>some (y113.1,y113.2)) (fun y114=>some (y114,(0:Int))))
def Ytr:VFn:=⟨true,47,[.t 4,.t 5],
 (Rg [oG 2 0,oK 4 0,oK 5 0]
 (.seq (Rg [oT 10 2 2,oC 11 401 [10],oM 6 11]
 (Rg [oM 12 6,oR 13 .neq 12 (k 0)]
 (.cond 13 (Rg [oM 14 6,oK 4 0,oM 5 14]
 (.fz [4,5] .ret))
 .skip)))
 (Rg [oK 7 0]
 (.seq (Rg [oM 15 1,oN 16 15,oK 17 0]
 (.blk 0 (.loop 3 q28_L3_b)))
 (Rg [oM 46 7,oM 4 46,oK 5 0]
 (.fz [4,5] .ret))))))⟩
def YlX(lo:Lo):FnE:=Zfe 413 true (Zsg [0,1] [.ag [.l (cs [I]),.l Zc1],.l (cs [I])] []) (.tp [.j,.j]) [] (fun x=>q28 lo x.1 x.2.1 x.2.2:(List Int)×Zt0× (List Int)->Option (Int×Int))
def fs29(lo:Lo):List FnE:=YlX lo::fs28 lo
theorem Yts(h:GZ P fm fs28 lo)(t:Ti P fm 413 Ytr):GZ P fm fs29 lo:=
  h.p (YlX lo) (Ytq lo) t
def q29(lo:Lo)(in0_0:List Int)(in0_1:List ((List Int)))(budget1:Int):Option Zp39:=
  chk (0<=(in0_0.length:Int)/\ (in0_0.length:Int)<=(in0_0.length:Int)/\ (in0_0.length:Int)<=(maxEl:Nat)) (some (in0_0,in0_1,budget1,(List.replicate (in0_0.length:Int).toNat (0:Int))))
def Ytt:VFn:=⟨true,13,[.t 4],
 (Rg [oG 2 0,o 4 (.mv (.c (.one .nl)))]
 (Rg [⟨some 5,.load true 2 2,none,true,false⟩,oF 6 0 2,oL 7 6,oN 8 7,o 9 (.mksl (cs [I]) 0 8 8),oM 10 1,o 11 (.build [.e (cs [I]),.e Zc1,.e (cs [I]),.i .i64 0] [(0,2,5),(2,1,9),(3,1,10)]),oG 12 11,oM 4 12]
 .ret))⟩
def YlY(lo:Lo):FnE:=Zfe 429 false (Zsg [0,1] [.ag [.l (cs [I]),.l Zc1],.j] []) (.ptr 0 0 0) [.st [.l (cs [I]),.l Zc1,.ref 1,.j],.sq (cs [I])] (fun x=>q29 lo x.1 x.2.1 x.2.2:(List Int)×Zt0×Int->Option Zp39)
def fs30(lo:Lo):List FnE:=YlY lo::fs29 lo
theorem Ytu(h:GZ P fm fs29 lo)(t:Ti P fm 429 Ytt):GZ P fm fs30 lo:=
  h.i (YlY lo) .n t
def q30(lo:Lo)(s0_0:List Int)(s0_1:List ((List Int)))(s0_2:Int)(h1:List Int):Option (Bool× (List Int)×Zt0×Int× (List Int)):=
  some ((decide ((0:Int)<=(YBh .i64 (s0_2-1)))),s0_0,s0_1,(YBh .i64 (s0_2-1)),h1)
def Ytv:VFn:=⟨true,15,[.t 2],
 (Rg [oB 2 false]
 (Rg [oM 3 0,o 4 (.nilc 3),oF 5 3 4,oL 6 5,oR 7 .sub 6 (k 1),o 8 (.nilc 3),oF 9 3 8,oS 1 9 7]
 (Rg [oM 10 0,o 11 (.nilc 10),oF 12 3 11,oL 13 12,oR 14 .geq 13 (k 0),oM 2 14]
 .ret)))⟩
def YlZ(lo:Lo):FnE:=Zfe 443 false (Zsg [0] [.ptr 0 0 0] [.st [.l (cs [I]),.l Zc1,.ref 1,.j],.sq (cs [I])]) .b [.st [.l (cs [I]),.l Zc1,.ref 1,.j],.sq (cs [I])] (fun x=>q30 lo x.1 x.2.1 x.2.2.1 x.2.2.2:Zp39->Option (Bool× (List Int)×Zt0×Int× (List Int)))
def fs31(lo:Lo):List FnE:=YlZ lo::fs30 lo
theorem Ytw(h:GZ P fm fs30 lo)(t:Ti P fm 443 Ytv):GZ P fm fs31 lo:=
  h.i (YlZ lo) .n t
def q31(lo:Lo)(v0:Int)(v2:Int)(h2_0:List Int)(h2_1:List ((List Int)))(h2_2:Int)(h3:List Int):Option (Bool×Int× (List Int)×Zt0×Int× (List Int)):=
  chk (0<=v0/\v0< (h3.length:Int)) (some ((decide (h3.getD v0.toNat 0=v2)),v2,h2_0,h2_1,h2_2,h3))
def Ytx:VFn:=⟨true,14,[.t 4],
 (Rg [oB 4 false]
 (Rg [oL 5 1,o 6 (.nilc 5),oF 7 2 6,oL 8 7,oM 9 0,oI 10 1 8 9,oL 11 10,oL 12 2,oR 13 .eql 11 12,oM 4 13]
 .ret))⟩
def Yl0(lo:Lo):FnE:=Zfe 455 false (Zsg [0,1,2] [.j,.ptr 0 0 0,.ptr 1 0 0] [.st [.ptr 2 0 0],.st [.j],.st [.l (cs [I]),.l Zc1,.ref 3,.j],.sq (cs [I]),.st [.ptr 2 0 0]]) .b [.st [.ptr 2 0 0],.st [.j],.st [.l (cs [I]),.l Zc1,.ref 3,.j],.sq (cs [I]),.st [.ptr 2 0 0]] (fun x=>q31 lo x.1 x.2.1 x.2.2.1 x.2.2.2.1 x.2.2.2.2.1 x.2.2.2.2.2:Zp31->Option (Bool×Int× (List Int)×Zt0×Int× (List Int)))
def fs32(lo:Lo):List FnE:=Yl0 lo::fs31 lo
theorem Yty(h:GZ P fm fs31 lo)(t:Ti P fm 455 Ytx):GZ P fm fs32 lo:=
  h.i (Yl0 lo) .n t
def q32_L3_b:VCode:=
 (Rg [oR 9 .lss 8 7]
 (.seq (Ce 9 0)
 (.seq (.blk 1 (Rg [oM 10 8,oM 5 10]
 (Rg [oM 11 1,oM 12 0,oM 13 5,oI 14 1 12 13,oL 15 14,o 16 (.dyn 11 [15])]
 (.cond 16 (Rg [oM 17 5,oM 4 17]
 .ret)
 .skip))))
 (.reg [oR 18 .add 8 (k 1),oM 8 18]))))
def Ycu(lo:Lo):Zp18->Option (Zp18⊕ (Zp31⊕Zp37)):=fun x=>match x with
  | (s0,v7,v8,h1,h2_0,h2_1,h2_2,h3)=>bif(decide (v8<v7))then(chk (0<=v8/\v8< (s0.length:Int)) (YAZ (q31 lo (s0.getD v8.toNat (0:Int)) h1 h2_0 h2_1 h2_2 h3) fun y118=>chk (y118.2.2.2.2.2.length=h3.length) (bif y118.1 then(some (.inr (.inl (v8,y118.2.1,y118.2.2.1,y118.2.2.2.1,y118.2.2.2.2.1,y118.2.2.2.2.2))))else(some (.inl (s0,v7,(YBh .i64 (v8+1)),y118.2.1,y118.2.2.1,y118.2.2.2.1,y118.2.2.2.2.1,y118.2.2.2.2.2))))))else(some (.inr (.inr (h1,h2_0,h2_1,h2_2,h3))))
def YgA(lo:Lo):Zp18->Option (Zp31⊕Zp37):=lo.run (Ycu lo)
def Ytz(lo:Lo):LpE:=⟨3,[],(Zsg [0,1,7,8] [.l (cs [I]),.clo 455 [.ptr 0 0 0,.ptr 1 0 0],.j,.j] [.st [.ptr 2 0 0],.st [.j],.st [.l (cs [I]),.l Zc1,.ref 3,.j],.sq (cs [I]),.st [.ptr 2 0 0]]),[⟨.ret,(Zsg [4] [.j] [.st [.ptr 2 0 0],.st [.j],.st [.l (cs [I]),.l Zc1,.ref 3,.j],.sq (cs [I]),.st [.ptr 2 0 0]])⟩,⟨.exit 0,(Zsg [] [] [.st [.ptr 2 0 0],.st [.j],.st [.l (cs [I]),.l Zc1,.ref 3,.j],.sq (cs [I]),.st [.ptr 2 0 0]])⟩],YgA lo⟩
def YtA(lo:Lo):LL:=(Ytz lo,.loop q32_L3_b.er)::[]
theorem YtB(lo:Lo):Lk lo pf (fs32 lo) 5 (YtA lo):=.l .n (Ycu lo)
def q32(lo:Lo)(s0:List Int)(h1:Int)(h2_0:List Int)(h2_1:List ((List Int)))(h2_2:Int)(h3:List Int):Option Zp31:=
  YAZ (YgA lo (s0,(s0.length:Int),(0:Int),h1,h2_0,h2_1,h2_2,h3)) fun y119=>alt2 y119 (fun y120=>some (y120.1,y120.2.1,y120.2.2.1,y120.2.2.2.1,y120.2.2.2.2.1,y120.2.2.2.2.2)) (fun y121=>some ((-1:Int),y121.1,y121.2.1,y121.2.2.1,y121.2.2.2.1,y121.2.2.2.2))
def YtC:VFn:=⟨true,19,[.t 4],
 (Rg [oK 4 0]
 (.seq (Rg [oM 6 0,oN 7 6,oK 8 0]
 (.blk 0 (.loop 3 q32_L3_b)))
 (Rg [oK 4 (-1)]
 .ret)))⟩
def Yl1(lo:Lo):FnE:=Zfe 442 false (Zsg [0,1] [.l (cs [I]),.clo 455 [.ptr 0 0 0,.ptr 1 0 0]] [.st [.ptr 2 0 0],.st [.j],.st [.l (cs [I]),.l Zc1,.ref 3,.j],.sq (cs [I]),.st [.ptr 2 0 0]]) (.i .i64) [.st [.ptr 2 0 0],.st [.j],.st [.l (cs [I]),.l Zc1,.ref 3,.j],.sq (cs [I]),.st [.ptr 2 0 0]] (fun x=>q32 lo x.1 x.2.1 x.2.2.1 x.2.2.2.1 x.2.2.2.2.1 x.2.2.2.2.2:Zp25->Option Zp31)
def fs33(lo:Lo):List FnE:=Yl1 lo::fs32 lo
theorem YtD(h:GZ P fm fs32 lo)(t:Ti P fm 442 YtC):GZ P fm fs33 lo:=
  h.i (Yl1 lo) (YtB lo) t
def q33(lo:Lo)(s0:List Int)(h1:Int)(h2_0:List Int)(h2_1:List ((List Int)))(h2_2:Int)(h3:List Int):Option (Bool×Int× (List Int)×Zt0×Int× (List Int)):=
  YAZ (q32 lo s0 h1 h2_0 h2_1 h2_2 h3) fun y122=>chk (y122.2.2.2.2.2.length=h3.length) (some ((decide ((0:Int)<=y122.1)),y122.2.1,y122.2.2.1,y122.2.2.2.1,y122.2.2.2.2.1,y122.2.2.2.2.2))
def YtE:VFn:=⟨true,9,[.t 4],
 (Rg [oB 4 false]
 (Rg [oM 5 0,oM 6 1,oC 7 442 [5,6],oR 8 .geq 7 (k 0),oM 4 8]
 .ret))⟩
def Yl2(lo:Lo):FnE:=Zfe 426 false (Zsg [0,1] [.l (cs [I]),.clo 455 [.ptr 0 0 0,.ptr 1 0 0]] [.st [.ptr 2 0 0],.st [.j],.st [.l (cs [I]),.l Zc1,.ref 3,.j],.sq (cs [I]),.st [.ptr 2 0 0]]) .b [.st [.ptr 2 0 0],.st [.j],.st [.l (cs [I]),.l Zc1,.ref 3,.j],.sq (cs [I]),.st [.ptr 2 0 0]] (fun x=>q33 lo x.1 x.2.1 x.2.2.1 x.2.2.2.1 x.2.2.2.2.1 x.2.2.2.2.2:Zp25->Option (Bool×Int× (List Int)×Zt0×Int× (List Int)))
def fs34(lo:Lo):List FnE:=Yl2 lo::fs33 lo
theorem YtF(h:GZ P fm fs33 lo)(t:Ti P fm 426 YtE):GZ P fm fs34 lo:=
  h.i (Yl2 lo) .n t
def q34(lo:Lo)(e1:List Int)(mark2:Int)(s0_0:List Int)(s0_1:List ((List Int)))(s0_2:Int)(h1:List Int):Option (Bool× (List Int)×Zt0×Int× (List Int)):=
  YAZ (q33 lo e1 mark2 s0_0 s0_1 s0_2 h1) fun y123=>chk (y123.2.2.2.2.2.length=h1.length) (some (y123.1,y123.2.2.1,y123.2.2.2.1,y123.2.2.2.2.1,y123.2.2.2.2.2))
def YtG:VFn:=⟨true,10,[.t 6],
 (Rg [oG 3 0,oG 5 2,oB 6 false]
 (Rg [oM 7 1,o 8 (.mkf 455 [3,5]),oC 9 426 [7,8],oM 6 9]
 .ret))⟩
def Yl3(lo:Lo):FnE:=Zfe 450 false (Zsg [0,1,2] [.ptr 0 0 0,.l (cs [I]),.j] [.st [.l (cs [I]),.l Zc1,.ref 1,.j],.sq (cs [I]),.st [.ptr 0 0 0]]) .b [.st [.l (cs [I]),.l Zc1,.ref 1,.j],.sq (cs [I]),.st [.ptr 0 0 0]] (fun x=>q34 lo x.1 x.2.1 x.2.2.1 x.2.2.2.1 x.2.2.2.2.1 x.2.2.2.2.2:Zp25->Option (Bool× (List Int)×Zt0×Int× (List Int)))
def fs35(lo:Lo):List FnE:=Yl3 lo::fs34 lo
theorem YtH(h:GZ P fm fs34 lo)(t:Ti P fm 450 YtG):GZ P fm fs35 lo:=
  h.i (Yl3 lo) .n t
end Go.Abs.G39
namespace Go.Abs.G39
open Go Go.Abs
set_option maxRecDepth 100000
set_option maxHeartbeats 1000000
variable{P:Program}{fm:FM}{lo:Lo}
def q35(lo:Lo)(e0:List Int)(h1_0:List Int)(h1_1:List ((List Int)))(h1_2:Int)(h2:List Int):Option (Bool× (List Int)×Zt0×Int× (List Int)):=
  YAZ (q34 lo e0 (1:Int) h1_0 h1_1 h1_2 h2) fun y124=>chk (y124.2.2.2.2.length=h2.length) (bif(!y124.1)then(YAZ (q34 lo e0 (0:Int) y124.2.1 y124.2.2.1 y124.2.2.2.1 y124.2.2.2.2) fun y125=>chk (y125.2.2.2.2.length=y124.2.2.2.2.length) (some ((!y125.1),y125.2.1,y125.2.2.1,y125.2.2.2.1,y125.2.2.2.2)))else(some (false,y124.2.1,y124.2.2.1,y124.2.2.2.1,y124.2.2.2.2)))
def YtI:VFn:=⟨true,14,[.t 3],
 (Rg [oB 3 false]
 (Rg [oL 4 1,oM 5 0,oC 6 450 [4,5,(k 1)],oX 7 6,oM 8 7,gT 9 8 (.load false 1 1),gT 10 8 (.mv 0),gT 11 8 (.call 450 [9,10,(k 0)]),gT 12 8 (.not 11),oP 13 8 12 (kb false),oM 3 13]
 .ret))⟩
def Yl4(lo:Lo):FnE:=Zfe 454 false (Zsg [0,1] [.l (cs [I]),.ptr 0 0 0] [.st [.ptr 1 0 0],.st [.l (cs [I]),.l Zc1,.ref 2,.j],.sq (cs [I])]) .b [.st [.ptr 1 0 0],.st [.l (cs [I]),.l Zc1,.ref 2,.j],.sq (cs [I])] (fun x=>q35 lo x.1 x.2.1 x.2.2.1 x.2.2.2.1 x.2.2.2.2:(List Int)× (List Int)×Zt0×Int× (List Int)->Option (Bool× (List Int)×Zt0×Int× (List Int)))
def fs36(lo:Lo):List FnE:=Yl4 lo::fs35 lo
theorem YtJ(h:GZ P fm fs35 lo)(t:Ti P fm 454 YtI):GZ P fm fs36 lo:=
  h.i (Yl4 lo) .n t
def q36_L3_b:VCode:=
 (Rg [oR 9 .lss 8 7]
 (.seq (Ce 9 0)
 (.seq (.blk 1 (Rg [oM 10 8,oM 5 10]
 (Rg [oM 11 1,oM 12 0,oM 13 5,oI 14 1 12 13,oL 15 14,o 16 (.dyn 11 [15])]
 (.cond 16 (Rg [oM 17 5,oM 4 17]
 .ret)
 .skip))))
 (.reg [oR 18 .add 8 (k 1),oM 8 18]))))
def Ycv(lo:Lo):Zp29->Option (Zp29⊕ (Zp37⊕Zp39)):=fun x=>match x with
  | (s0,v7,v8,h1_0,h1_1,h1_2,h2)=>bif(decide (v8<v7))then(chk (0<=v8/\v8< (s0.length:Int)) (YAZ (q35 lo (s0.getD v8.toNat []) h1_0 h1_1 h1_2 h2) fun y126=>chk (y126.2.2.2.2.length=h2.length) (bif y126.1 then(some (.inr (.inl (v8,y126.2.1,y126.2.2.1,y126.2.2.2.1,y126.2.2.2.2))))else(some (.inl (s0,v7,(YBh .i64 (v8+1)),y126.2.1,y126.2.2.1,y126.2.2.2.1,y126.2.2.2.2))))))else(some (.inr (.inr (h1_0,h1_1,h1_2,h2))))
def YgB(lo:Lo):Zp29->Option (Zp37⊕Zp39):=lo.run (Ycv lo)
def YtK(lo:Lo):LpE:=⟨3,[],(Zsg [0,1,7,8] [.l Zc1,.clo 454 [.ptr 0 0 0],.j,.j] [.st [.ptr 1 0 0],.st [.l (cs [I]),.l Zc1,.ref 2,.j],.sq (cs [I])]),[⟨.ret,(Zsg [4] [.j] [.st [.ptr 1 0 0],.st [.l (cs [I]),.l Zc1,.ref 2,.j],.sq (cs [I])])⟩,⟨.exit 0,(Zsg [] [] [.st [.ptr 1 0 0],.st [.l (cs [I]),.l Zc1,.ref 2,.j],.sq (cs [I])])⟩],YgB lo⟩
def YtL(lo:Lo):LL:=(YtK lo,.loop q36_L3_b.er)::[]
theorem YtM(lo:Lo):Lk lo pf (fs36 lo) 3 (YtL lo):=.l .n (Ycv lo)
def q36(lo:Lo)(s0:List ((List Int)))(h1_0:List Int)(h1_1:List ((List Int)))(h1_2:Int)(h2:List Int):Option Zp37:=
  YAZ (YgB lo (s0,(s0.length:Int),(0:Int),h1_0,h1_1,h1_2,h2)) fun y127=>alt2 y127 (fun y128=>some (y128.1,y128.2.1,y128.2.2.1,y128.2.2.2.1,y128.2.2.2.2)) (fun y129=>some ((-1:Int),y129.1,y129.2.1,y129.2.2.1,y129.2.2.2))
def YtN:VFn:=⟨true,19,[.t 4],
 (Rg [oK 4 0]
 (.seq (Rg [oM 6 0,oN 7 6,oK 8 0]
 (.blk 0 (.loop 3 q36_L3_b)))
 (Rg [oK 4 (-1)]
 .ret)))⟩
def Yl5(lo:Lo):FnE:=Zfe 449 false (Zsg [0,1] [.l Zc1,.clo 454 [.ptr 0 0 0]] [.st [.ptr 1 0 0],.st [.l (cs [I]),.l Zc1,.ref 2,.j],.sq (cs [I])]) (.i .i64) [.st [.ptr 1 0 0],.st [.l (cs [I]),.l Zc1,.ref 2,.j],.sq (cs [I])] (fun x=>q36 lo x.1 x.2.1 x.2.2.1 x.2.2.2.1 x.2.2.2.2:Zt0× (List Int)×Zt0×Int× (List Int)->Option Zp37)
def fs37(lo:Lo):List FnE:=Yl5 lo::fs36 lo
theorem YtO(h:GZ P fm fs36 lo)(t:Ti P fm 449 YtN):GZ P fm fs37 lo:=
  h.i (Yl5 lo) (YtM lo) t
def q37(lo:Lo)(s0:List ((List Int)))(h1_0:List Int)(h1_1:List ((List Int)))(h1_2:Int)(h2:List Int):Option (Bool× (List Int)×Zt0×Int× (List Int)):=
  YAZ (q36 lo s0 h1_0 h1_1 h1_2 h2) fun y130=>chk (y130.2.2.2.2.length=h2.length) (some ((decide ((0:Int)<=y130.1)),y130.2.1,y130.2.2.1,y130.2.2.2.1,y130.2.2.2.2))
def YtP:VFn:=⟨true,9,[.t 4],
 (Rg [oB 4 false]
 (Rg [oM 5 0,oM 6 1,oC 7 449 [5,6],oR 8 .geq 7 (k 0),oM 4 8]
 .ret))⟩
def Yl6(lo:Lo):FnE:=Zfe 435 false (Zsg [0,1] [.l Zc1,.clo 454 [.ptr 0 0 0]] [.st [.ptr 1 0 0],.st [.l (cs [I]),.l Zc1,.ref 2,.j],.sq (cs [I])]) .b [.st [.ptr 1 0 0],.st [.l (cs [I]),.l Zc1,.ref 2,.j],.sq (cs [I])] (fun x=>q37 lo x.1 x.2.1 x.2.2.1 x.2.2.2.1 x.2.2.2.2:Zt0× (List Int)×Zt0×Int× (List Int)->Option (Bool× (List Int)×Zt0×Int× (List Int)))
def fs38(lo:Lo):List FnE:=Yl6 lo::fs37 lo
theorem YtQ(h:GZ P fm fs37 lo)(t:Ti P fm 435 YtP):GZ P fm fs38 lo:=
  h.i (Yl6 lo) .n t
def q38(lo:Lo)(s0_0:List Int)(s0_1:List ((List Int)))(s0_2:Int)(h1:List Int):Option (Bool× (List Int)×Zt0×Int× (List Int)):=
  YAZ (q37 lo s0_1 s0_0 s0_1 s0_2 h1) fun y131=>chk (y131.2.2.2.2.length=h1.length) (some (y131.1,y131.2.1,y131.2.2.1,y131.2.2.2.1,y131.2.2.2.2))
def YtR:VFn:=⟨true,10,[.t 2],
 (Rg [oG 1 0,oB 2 false]
 (Rg [oL 3 1,o 4 (.nilc 3),oF 5 0 4,oF 6 1 5,oL 7 6,o 8 (.mkf 454 [1]),oC 9 435 [7,8],oM 2 9]
 .ret))⟩
def Yl7(lo:Lo):FnE:=Zfe 444 false (Zsg [0] [.ptr 0 0 0] [.st [.l (cs [I]),.l Zc1,.ref 1,.j],.sq (cs [I])]) .b [.st [.l (cs [I]),.l Zc1,.ref 1,.j],.sq (cs [I])] (fun x=>q38 lo x.1 x.2.1 x.2.2.1 x.2.2.2:Zp39->Option (Bool× (List Int)×Zt0×Int× (List Int)))
def fs39(lo:Lo):List FnE:=Yl7 lo::fs38 lo
theorem YtS(h:GZ P fm fs38 lo)(t:Ti P fm 444 YtR):GZ P fm fs39 lo:=
  h.i (Yl7 lo) .n t
def q39(lo:Lo)(l:List Int):Option (List Int):=bif YAR l.length maxEl&&YAR 1 1 then some l else none
def YtT(lo:Lo):FnE:=vcloneE 245 (cs [I])
def fs40(lo:Lo):List FnE:=YtT lo::fs39 lo
theorem YtU(h:GZ P fm fs39 lo)(htie: ∀f,fm f=245->fnTr P fm pf f=some (8,[.t 2],YxC 1 [(.int .i64 0)])):GZ P fm fs40 lo:=
  ⟨h.1,h.2,Yks h.S h.mx (cs [I]) rfl [(.int .i64 0)] 8 (by decide) htie⟩
def q40(lo:Lo)(v0:Int)(v2:Int)(h2_0:List Int)(h2_1:List ((List Int)))(h2_2:Int)(h3:List Int):Option (Bool×Int× (List Int)×Zt0×Int× (List Int)):=
  chk (0<=v0/\v0< (h3.length:Int)) (some ((decide (h3.getD v0.toNat 0=v2)),v2,h2_0,h2_1,h2_2,h3))
def YtV:VFn:=⟨true,14,[.t 4],
 (Rg [oB 4 false]
 (Rg [oL 5 1,o 6 (.nilc 5),oF 7 2 6,oL 8 7,oM 9 0,oI 10 1 8 9,oL 11 10,oL 12 2,oR 13 .eql 11 12,oM 4 13]
 .ret))⟩
def Yl8(lo:Lo):FnE:=Zfe 455 false (Zsg [0,1,2] [.j,.ptr 0 0 0,.ptr 1 0 0] [.st [.ptr 2 0 0],.st [.j],.st [.l (cs [I]),.l Zc1,.ref 3,.j],.sq (cs [I])]) .b [.st [.ptr 2 0 0],.st [.j],.st [.l (cs [I]),.l Zc1,.ref 3,.j],.sq (cs [I])] (fun x=>q40 lo x.1 x.2.1 x.2.2.1 x.2.2.2.1 x.2.2.2.2.1 x.2.2.2.2.2:Zp31->Option (Bool×Int× (List Int)×Zt0×Int× (List Int)))
def fs41(lo:Lo):List FnE:=Yl8 lo::fs40 lo
theorem YtW(h:GZ P fm fs40 lo)(t:Ti P fm 455 YtV):GZ P fm fs41 lo:=
  h.i (Yl8 lo) .n t
def q41_L3_b:VCode:=
 (Rg [oR 9 .lss 8 7]
 (.seq (Ce 9 0)
 (.seq (.blk 1 (Rg [oM 10 8,oM 5 10]
 (Rg [oM 11 1,oM 12 0,oM 13 5,oI 14 1 12 13,oL 15 14,o 16 (.dyn 11 [15])]
 (.cond 16 (Rg [oM 17 5,oM 4 17]
 .ret)
 .skip))))
 (.reg [oR 18 .add 8 (k 1),oM 8 18]))))
def Ycw(lo:Lo):Zp18->Option (Zp18⊕ (Zp31⊕Zp37)):=fun x=>match x with
  | (s0,v7,v8,h1,h2_0,h2_1,h2_2,h3)=>bif(decide (v8<v7))then(chk (0<=v8/\v8< (s0.length:Int)) (YAZ (q40 lo (s0.getD v8.toNat (0:Int)) h1 h2_0 h2_1 h2_2 h3) fun y134=>chk (y134.2.2.2.2.2.length=h3.length) (bif y134.1 then(some (.inr (.inl (v8,y134.2.1,y134.2.2.1,y134.2.2.2.1,y134.2.2.2.2.1,y134.2.2.2.2.2))))else(some (.inl (s0,v7,(YBh .i64 (v8+1)),y134.2.1,y134.2.2.1,y134.2.2.2.1,y134.2.2.2.2.1,y134.2.2.2.2.2))))))else(some (.inr (.inr (h1,h2_0,h2_1,h2_2,h3))))
def YgC(lo:Lo):Zp18->Option (Zp31⊕Zp37):=lo.run (Ycw lo)
def YtX(lo:Lo):LpE:=⟨3,[],(Zsg [0,1,7,8] [.l (cs [I]),.clo 455 [.ptr 0 0 0,.ptr 1 0 0],.j,.j] [.st [.ptr 2 0 0],.st [.j],.st [.l (cs [I]),.l Zc1,.ref 3,.j],.sq (cs [I])]),[⟨.ret,(Zsg [4] [.j] [.st [.ptr 2 0 0],.st [.j],.st [.l (cs [I]),.l Zc1,.ref 3,.j],.sq (cs [I])])⟩,⟨.exit 0,(Zsg [] [] [.st [.ptr 2 0 0],.st [.j],.st [.l (cs [I]),.l Zc1,.ref 3,.j],.sq (cs [I])])⟩],YgC lo⟩
def YtY(lo:Lo):LL:=(YtX lo,.loop q41_L3_b.er)::[]
theorem YtZ(lo:Lo):Lk lo pf (fs41 lo) 4 (YtY lo):=.l .n (Ycw lo)
def q41(lo:Lo)(s0:List Int)(h1:Int)(h2_0:List Int)(h2_1:List ((List Int)))(h2_2:Int)(h3:List Int):Option Zp31:=
  YAZ (YgC lo (s0,(s0.length:Int),(0:Int),h1,h2_0,h2_1,h2_2,h3)) fun y135=>alt2 y135 (fun y136=>some (y136.1,y136.2.1,y136.2.2.1,y136.2.2.2.1,y136.2.2.2.2.1,y136.2.2.2.2.2)) (fun y137=>some ((-1:Int),y137.1,y137.2.1,y137.2.2.1,y137.2.2.2.1,y137.2.2.2.2))
def Yt0:VFn:=⟨true,19,[.t 4],
 (Rg [oK 4 0]
 (.seq (Rg [oM 6 0,oN 7 6,oK 8 0]
 (.blk 0 (.loop 3 q41_L3_b)))
 (Rg [oK 4 (-1)]
 .ret)))⟩
def Yl9(lo:Lo):FnE:=Zfe 442 false (Zsg [0,1] [.l (cs [I]),.clo 455 [.ptr 0 0 0,.ptr 1 0 0]] [.st [.ptr 2 0 0],.st [.j],.st [.l (cs [I]),.l Zc1,.ref 3,.j],.sq (cs [I])]) (.i .i64) [.st [.ptr 2 0 0],.st [.j],.st [.l (cs [I]),.l Zc1,.ref 3,.j],.sq (cs [I])] (fun x=>q41 lo x.1 x.2.1 x.2.2.1 x.2.2.2.1 x.2.2.2.2.1 x.2.2.2.2.2:Zp25->Option Zp31)
def fs42(lo:Lo):List FnE:=Yl9 lo::fs41 lo
theorem Yt1(h:GZ P fm fs41 lo)(t:Ti P fm 442 Yt0):GZ P fm fs42 lo:=
  h.i (Yl9 lo) (YtZ lo) t
def q42(lo:Lo)(s0:List Int)(h1:Int)(h2_0:List Int)(h2_1:List ((List Int)))(h2_2:Int)(h3:List Int):Option (Bool×Int× (List Int)×Zt0×Int× (List Int)):=
  YAZ (q41 lo s0 h1 h2_0 h2_1 h2_2 h3) fun y138=>chk (y138.2.2.2.2.2.length=h3.length) (some ((decide ((0:Int)<=y138.1)),y138.2.1,y138.2.2.1,y138.2.2.2.1,y138.2.2.2.2.1,y138.2.2.2.2.2))
def Yt2:VFn:=⟨true,9,[.t 4],
 (Rg [oB 4 false]
 (Rg [oM 5 0,oM 6 1,oC 7 442 [5,6],oR 8 .geq 7 (k 0),oM 4 8]
 .ret))⟩
def Yma(lo:Lo):FnE:=Zfe 426 false (Zsg [0,1] [.l (cs [I]),.clo 455 [.ptr 0 0 0,.ptr 1 0 0]] [.st [.ptr 2 0 0],.st [.j],.st [.l (cs [I]),.l Zc1,.ref 3,.j],.sq (cs [I])]) .b [.st [.ptr 2 0 0],.st [.j],.st [.l (cs [I]),.l Zc1,.ref 3,.j],.sq (cs [I])] (fun x=>q42 lo x.1 x.2.1 x.2.2.1 x.2.2.2.1 x.2.2.2.2.1 x.2.2.2.2.2:Zp25->Option (Bool×Int× (List Int)×Zt0×Int× (List Int)))
def fs43(lo:Lo):List FnE:=Yma lo::fs42 lo
theorem Yt3(h:GZ P fm fs42 lo)(t:Ti P fm 426 Yt2):GZ P fm fs43 lo:=
  h.i (Yma lo) .n t
def q43(lo:Lo)(e1:List Int)(mark2:Int)(s0_0:List Int)(s0_1:List ((List Int)))(s0_2:Int)(h1:List Int):Option (Bool× (List Int)×Zt0×Int× (List Int)):=
  YAZ (q42 lo e1 mark2 s0_0 s0_1 s0_2 h1) fun y139=>chk (y139.2.2.2.2.2.length=h1.length) (some (y139.1,y139.2.2.1,y139.2.2.2.1,y139.2.2.2.2.1,y139.2.2.2.2.2))
def Yt4:VFn:=⟨true,10,[.t 6],
 (Rg [oG 3 0,oG 5 2,oB 6 false]
 (Rg [oM 7 1,o 8 (.mkf 455 [3,5]),oC 9 426 [7,8],oM 6 9]
 .ret))⟩
def Ymb(lo:Lo):FnE:=Zfe 450 false (Zsg [0,1,2] [.ptr 0 0 0,.l (cs [I]),.j] [.st [.l (cs [I]),.l Zc1,.ref 1,.j],.sq (cs [I])]) .b [.st [.l (cs [I]),.l Zc1,.ref 1,.j],.sq (cs [I])] (fun x=>q43 lo x.1 x.2.1 x.2.2.1 x.2.2.2.1 x.2.2.2.2.1 x.2.2.2.2.2:Zp25->Option (Bool× (List Int)×Zt0×Int× (List Int)))
def fs44(lo:Lo):List FnE:=Ymb lo::fs43 lo
theorem Yt5(h:GZ P fm fs43 lo)(t:Ti P fm 450 Yt4):GZ P fm fs44 lo:=
  h.i (Ymb lo) .n t
def q44_L16_b:VCode:=
 (Rg [oR 37 .lss 36 35]
 (.seq (Ce 37 2)
 (.seq (.blk 3 (Rg [oI 38 1 34 36,oL 39 38,oM 11 39]
 (Rg [oM 40 0,o 41 (.nilc 40),oF 42 2 41,oL 43 42,oM 44 11,oI 45 1 43 44,oL 46 45,oR 47 .eql 46 (k 0)]
 (.cond 47 (.reg [oM 48 9,oM 49 4,oM 50 11,oI 51 1 49 50,oL 52 51,o 53 (.mm false [48,52]),oM 9 53])
 .skip))))
 (.reg [oR 54 .add 36 (k 1),oM 36 54]))))
def Ydn(lo:Lo):Zp5->Option (Zp5⊕ ((Int×Int× (List Int)×Int×Zt0×Int×Int× (List Int)×Zt0×Int× (List Int)× (List Int)×Zt2))):=fun x=>match x with
  | (sum6,i7,e8,amount9,v24,v25,v26,v34,v35,v36,s0_0,s0_1,s0_2,h1,room4,out5)=>bif(decide (v36<v35))then(chk (0<=v36/\v36< (v34.length:Int)) (chk (0<=(v34.getD v36.toNat (0:Int))/\ (v34.getD v36.toNat (0:Int))< (h1.length:Int)) (bif(decide (h1.getD ((v34.getD v36.toNat (0:Int)).toNat) (0:Int)=(0:Int)))then(chk (0<=(v34.getD v36.toNat (0:Int))/\ (v34.getD v36.toNat (0:Int))< (room4.length:Int)) (some (.inl (sum6,i7,e8,(min amount9 (room4.getD ((v34.getD v36.toNat (0:Int)).toNat) (0:Int))),v24,v25,v26,v34,v35,(YBh .i64 (v36+1)),s0_0,s0_1,s0_2,h1,room4,out5))))else(some (.inl (sum6,i7,e8,amount9,v24,v25,v26,v34,v35,(YBh .i64 (v36+1)),s0_0,s0_1,s0_2,h1,room4,out5))))))else(some (.inr (sum6,i7,e8,amount9,v24,v25,v26,s0_0,s0_1,s0_2,h1,room4,out5)))
def Yby(lo:Lo):Zp5->Option ((Int×Int× (List Int)×Int×Zt0×Int×Int× (List Int)×Zt0×Int× (List Int)× (List Int)×Zt2)):=lo.run (Ydn lo)
def Yt6(lo:Lo):LpE:=⟨16,[],(Zsg [0,4,5,6,7,8,9,24,25,26,34,35,36] [.ptr 0 0 0,.ref 2,.ref 3,.j,.j,.l (cs [I]),.j,.l Zc1,.j,.j,.l (cs [I]),.j,.j] [.st [.l (cs [I]),.l Zc1,.ref 1,.j],.sq (cs [I]),.sq (cs [I]),.sq (cs [I,I])]),[⟨.exit 2,(Zsg [0,4,5,6,7,8,9,24,25,26] [.ptr 0 0 0,.ref 2,.ref 3,.j,.j,.l (cs [I]),.j,.l Zc1,.j,.j] [.st [.l (cs [I]),.l Zc1,.ref 1,.j],.sq (cs [I]),.sq (cs [I]),.sq (cs [I,I])])⟩],Yby lo⟩
def Ymc(lo:Lo):LL:=(Yt6 lo,.loop q44_L16_b.er)::[]
theorem Yt7(lo:Lo):Lk lo pf (fs44 lo) 2 (Ymc lo):=.l .n (Ydn lo)
def q44_L7_b:VCode:=
 (Rg [oR 60 .lss 59 58]
 (.seq (Ce 60 4)
 (.seq (.blk 5 (Rg [oI 61 1 57 59,oL 62 61,oM 13 62]
 (.reg [oM 63 4,oM 64 13,oI 65 1 63 64,oL 66 65,oM 67 9,oR 68 .sub 66 67,oI 69 1 63 64,oS 1 69 68])))
 (.reg [oR 70 .add 59 (k 1),oM 59 70]))))
def Ydo(lo:Lo):Zp6->Option (Zp6⊕ ((Int×Int×Int×Zt0×Int×Int× (List Int)×Zt0×Int× (List Int)× (List Int)×Zt2))):=fun x=>match x with
  | (sum6,i7,amount9,v24,v25,v26,v57,v58,v59,s0_0,s0_1,s0_2,h1,room4,out5)=>bif(decide (v59<v58))then(chk (0<=v59/\v59< (v57.length:Int)) (chk (0<=(v57.getD v59.toNat (0:Int))/\ (v57.getD v59.toNat (0:Int))< (room4.length:Int)) (chk (0<=(v57.getD v59.toNat (0:Int))/\ (v57.getD v59.toNat (0:Int))< (room4.length:Int)) (some (.inl (sum6,i7,amount9,v24,v25,v26,v57,v58,(YBh .i64 (v59+1)),s0_0,s0_1,s0_2,h1,(room4.set ((v57.getD v59.toNat (0:Int)).toNat) (YBh .i64 ((room4.getD ((v57.getD v59.toNat (0:Int)).toNat) (0:Int))-amount9))),out5))))))else(some (.inr (sum6,i7,amount9,v24,v25,v26,s0_0,s0_1,s0_2,h1,room4,out5)))
def YgD(lo:Lo):Zp6->Option ((Int×Int×Int×Zt0×Int×Int× (List Int)×Zt0×Int× (List Int)× (List Int)×Zt2)):=lo.run (Ydo lo)
def Yt8(lo:Lo):LpE:=⟨7,[],(Zsg [0,4,5,6,7,9,24,25,26,57,58,59] [.ptr 0 0 0,.ref 2,.ref 3,.j,.j,.j,.l Zc1,.j,.j,.l (cs [I]),.j,.j] [.st [.l (cs [I]),.l Zc1,.ref 1,.j],.sq (cs [I]),.sq (cs [I]),.sq (cs [I,I])]),[⟨.exit 4,(Zsg [0,4,5,6,7,9,24,25,26] [.ptr 0 0 0,.ref 2,.ref 3,.j,.j,.j,.l Zc1,.j,.j] [.st [.l (cs [I]),.l Zc1,.ref 1,.j],.sq (cs [I]),.sq (cs [I]),.sq (cs [I,I])])⟩],YgD lo⟩
def Ymd(lo:Lo):LL:=(Yt8 lo,.loop q44_L7_b.er)::Ymc lo
theorem Yt9(lo:Lo):Lk lo pf (fs44 lo) 2 (Ymd lo):=.l (Yt7 lo) (Ydo lo)
def q44_L3_b:VCode:=
 (Rg [oR 27 .lss 26 25]
 (.seq (Ce 27 0)
 (.seq (.blk 1 (Rg [oM 28 26,oI 29 1 24 26,oL 30 29,oM 7 28,oM 8 30]
 (.seq (Rg [oM 31 0,oM 32 8,oC 33 450 [31,32,(k 1)]]
 (.cond 33 (.exit 1)
 .skip))
 (Rg [oK 9 1000000]
 (.seq (Rg [oM 34 8,oN 35 34,oK 36 0]
 (.blk 2 (.loop 16 q44_L16_b)))
 (.seq (Rg [oM 55 9,oR 56 .eql 55 (k 0)]
 (.cond 56 (.exit 1)
 .skip))
 (.seq (Rg [oM 57 8,oN 58 57,oK 59 0]
 (.blk 4 (.loop 7 q44_L7_b)))
 (Rg [oM 71 5,oM 72 7,oM 73 9,o 74 (.build [.i .i64 0,.i .i64 0] [(0,1,72),(1,1,73)]),o 75 (.bsl (cs [I,I]) 1 [(0,74)]),o 76 (.app (cs [I,I]) 0 71 75),oM 5 76]
 (.reg [oM 77 6,oM 78 9,oR 79 .add 77 78,oM 6 79])))))))))
 (.reg [oR 80 .add 26 (k 1),oM 26 80]))))
def Ycx(lo:Lo):Zp12->Option (Zp12⊕ ((Int× (List Int)×Zt0×Int× (List Int)×Zt2))):=fun x=>match x with
  | (sum6,v24,v25,v26,s0_0,s0_1,s0_2,h1,room4,out5)=>bif(decide (v26<v25))then(chk (0<=v26/\v26< (v24.length:Int)) (YAZ (q43 lo (v24.getD v26.toNat []) (1:Int) s0_0 s0_1 s0_2 h1) fun y140=>chk (y140.2.2.2.2.length=h1.length) (bif y140.1 then(some (.inl (sum6,v24,v25,(YBh .i64 (v26+1)),y140.2.1,y140.2.2.1,y140.2.2.2.1,y140.2.2.2.2,room4,out5)))else(YAZ (Yby lo (sum6,v26,(v24.getD v26.toNat []),(1000000:Int),v24,v25,v26,(v24.getD v26.toNat []),((v24.getD v26.toNat []).length:Int),(0:Int),y140.2.1,y140.2.2.1,y140.2.2.2.1,y140.2.2.2.2,room4,out5)) fun y141=>bif(decide (y141.2.2.2.1=(0:Int)))then(some (.inl (y141.1,y141.2.2.2.2.1,y141.2.2.2.2.2.1,(YBh .i64 (y141.2.2.2.2.2.2.1+(1:Int))),y141.2.2.2.2.2.2.2.1,y141.2.2.2.2.2.2.2.2.1,y141.2.2.2.2.2.2.2.2.2.1,y141.2.2.2.2.2.2.2.2.2.2.1,y141.2.2.2.2.2.2.2.2.2.2.2.1,y141.2.2.2.2.2.2.2.2.2.2.2.2)))else(YAZ (YgD lo (y141.1,y141.2.1,y141.2.2.2.1,y141.2.2.2.2.1,y141.2.2.2.2.2.1,y141.2.2.2.2.2.2.1,y141.2.2.1,(y141.2.2.1.length:Int),(0:Int),y141.2.2.2.2.2.2.2.1,y141.2.2.2.2.2.2.2.2.1,y141.2.2.2.2.2.2.2.2.2.1,y141.2.2.2.2.2.2.2.2.2.2.1,y141.2.2.2.2.2.2.2.2.2.2.2.1,y141.2.2.2.2.2.2.2.2.2.2.2.2)) fun y142=>chk (y142.2.2.2.2.2.2.2.2.2.2.2.length+([(y142.2.1,y142.2.2.1)]).length<=maxEl) (some (.inl ((YBh .i64 (y142.1+y142.2.2.1)),y142.2.2.2.1,y142.2.2.2.2.1,(YBh .i64 (y142.2.2.2.2.2.1+(1:Int))),y142.2.2.2.2.2.2.1,y142.2.2.2.2.2.2.2.1,y142.2.2.2.2.2.2.2.2.1,y142.2.2.2.2.2.2.2.2.2.1,y142.2.2.2.2.2.2.2.2.2.2.1,(y142.2.2.2.2.2.2.2.2.2.2.2++([(y142.2.1,y142.2.2.1)]))))))))))else(some (.inr (sum6,s0_0,s0_1,s0_2,h1,out5)))
def Ybz(lo:Lo):Zp12->Option ((Int× (List Int)×Zt0×Int× (List Int)×Zt2)):=lo.run (Ycx lo)
def Yua(lo:Lo):LpE:=⟨3,[(5,none,false)],(Zsg [0,4,5,6,24,25,26] [.ptr 0 0 0,.ref 2,.ref 3,.j,.l Zc1,.j,.j] [.st [.l (cs [I]),.l Zc1,.ref 1,.j],.sq (cs [I]),.sq (cs [I]),.sq (cs [I,I])]),[⟨.exit 0,(Zsg [0,5,6] [.ptr 0 0 0,.ref 2,.j] [.st [.l (cs [I]),.l Zc1,.ref 1,.j],.sq (cs [I]),.sq (cs [I,I])])⟩],Ybz lo⟩
def Yub(lo:Lo):LL:=(Yua lo,.loop q44_L3_b.er)::Ymd lo
theorem Yuc(lo:Lo):Lk lo pf (fs44 lo) 2 (Yub lo):=.l (Yt9 lo) (Ycx lo)
def q44(lo:Lo)(s0_0:List Int)(s0_1:List ((List Int)))(s0_2:Int)(h1:List Int):Option (Int× (List Int)×Zt0×Int× (List Int)×Zt2):=
  YAZ (q39 lo s0_0) fun y133=>YAZ (Ybz lo ((0:Int),s0_1,(s0_1.length:Int),(0:Int),s0_0,s0_1,s0_2,h1,y133,[])) fun y143=>some (y143.1,y143.2.1,y143.2.2.1,y143.2.2.2.1,y143.2.2.2.2.1,y143.2.2.2.2.2)
def Yud:VFn:=⟨true,83,[.t 2,.t 3],
 (Rg [o 2 (.mv (ke (cs [I,I]))),oK 3 0]
 (Rg [oM 14 0,o 15 (.nilc 14),oF 16 0 15,oF 17 0 16,oL 18 17,oC 19 245 [18],oM 4 19]
 (Rg [o 5 (.mv (ke (cs [I,I])))]
 (Rg [oK 6 0]
 (.seq (Rg [oM 20 0,o 21 (.nilc 20),oF 22 0 21,oF 23 1 22,oL 24 23,oN 25 24,oK 26 0]
 (.blk 0 (.loop 3 q44_L3_b)))
 (Rg [oM 81 5,oM 82 6,oM 2 81,oM 3 82]
 .ret))))))⟩
def Yme(lo:Lo):FnE:=Zfe 438 false (Zsg [0] [.ptr 0 0 0] [.st [.l (cs [I]),.l Zc1,.ref 1,.j],.sq (cs [I])]) (.tp [.ref 2,.j]) [.st [.l (cs [I]),.l Zc1,.ref 1,.j],.sq (cs [I]),.sq (cs [I,I])] (fun x=>q44 lo x.1 x.2.1 x.2.2.1 x.2.2.2:Zp39->Option (Int× (List Int)×Zt0×Int× (List Int)×Zt2))
def fs45(lo:Lo):List FnE:=Yme lo::fs44 lo
theorem Yue(h:GZ P fm fs44 lo)(t:Ti P fm 438 Yud):GZ P fm fs45 lo:=
  h.i (Yme lo) (Yuc lo) t
def q45_L5_b:VCode:=
 (Rg [oR 31 .lss 30 29]
 (.seq (Ce 31 2)
 (.seq (.blk 3 (Rg [oI 32 1 28 30,oL 33 32,oM 8 33]
 (.seq (Rg [oM 34 0,o 35 (.nilc 34),oF 36 2 35,oL 37 36,oM 38 8,oI 39 1 37 38,oL 40 39,oR 41 .neq 40 (k 0)]
 (.cond 41 (.exit 3)
 .skip))
 (Rg [oM 42 3,oM 43 8,oI 44 1 42 43,oL 45 44,oR 46 .add 45 (k 1),oI 47 1 42 43,oS 1 47 46]
 (Rg [oM 48 4,oR 49 .lss 48 (k 0),oM 50 49,gF 51 50 (.mv 3),gF 52 50 (.mv 8),gF 53 50 (.iad 1 51 52),gF 54 50 (.load false 1 53),gF 55 50 (.mv 3),gF 56 50 (.mv 4),gF 57 50 (.iad 1 55 56),gF 58 50 (.load false 1 57),gF 59 50 (.bin .gtr 54 58),oP 60 50 (kb true) 59]
 (.cond 60 (.reg [oM 61 8,oM 4 61])
 .skip))))))
 (.reg [oR 62 .add 30 (k 1),oM 30 62]))))
def Ydp(lo:Lo):Zp8->Option (Zp8⊕ (Zp15)):=fun x=>match x with
  | (best4,v19,v20,v21,v28,v29,v30,s0_0,s0_1,s0_2,h1,count3)=>bif(decide (v30<v29))then(chk (0<=v30/\v30< (v28.length:Int)) (chk (0<=(v28.getD v30.toNat (0:Int))/\ (v28.getD v30.toNat (0:Int))< (h1.length:Int)) (bif(!decide (h1.getD ((v28.getD v30.toNat (0:Int)).toNat) (0:Int)=(0:Int)))then(some (.inl (best4,v19,v20,v21,v28,v29,(YBh .i64 (v30+1)),s0_0,s0_1,s0_2,h1,count3)))else(chk (0<=(v28.getD v30.toNat (0:Int))/\ (v28.getD v30.toNat (0:Int))< (count3.length:Int)) (chk (0<=(v28.getD v30.toNat (0:Int))/\ (v28.getD v30.toNat (0:Int))< (count3.length:Int)) (bif(decide (best4<0))then(some (.inl ((v28.getD v30.toNat (0:Int)),v19,v20,v21,v28,v29,(YBh .i64 (v30+1)),s0_0,s0_1,s0_2,h1,(count3.set ((v28.getD v30.toNat (0:Int)).toNat) (YBh .i64 ((count3.getD ((v28.getD v30.toNat (0:Int)).toNat) (0:Int))+(1:Int)))))))else(chk (0<=(v28.getD v30.toNat (0:Int))/\ (v28.getD v30.toNat (0:Int))< ((count3.set ((v28.getD v30.toNat (0:Int)).toNat) (YBh .i64 ((count3.getD ((v28.getD v30.toNat (0:Int)).toNat) (0:Int))+(1:Int)))).length:Int)) (chk (0<=best4/\best4< ((count3.set ((v28.getD v30.toNat (0:Int)).toNat) (YBh .i64 ((count3.getD ((v28.getD v30.toNat (0:Int)).toNat) (0:Int))+(1:Int)))).length:Int)) (bif(decide ((count3.set ((v28.getD v30.toNat (0:Int)).toNat) (YBh .i64 ((count3.getD ((v28.getD v30.toNat (0:Int)).toNat) (0:Int))+(1:Int)))).getD best4.toNat (0:Int)< (count3.set ((v28.getD v30.toNat (0:Int)).toNat) (YBh .i64 ((count3.getD ((v28.getD v30.toNat (0:Int)).toNat) (0:Int))+(1:Int)))).getD ((v28.getD v30.toNat (0:Int)).toNat) (0:Int)))then(some (.inl ((v28.getD v30.toNat (0:Int)),v19,v20,v21,v28,v29,(YBh .i64 (v30+1)),s0_0,s0_1,s0_2,h1,(count3.set ((v28.getD v30.toNat (0:Int)).toNat) (YBh .i64 ((count3.getD ((v28.getD v30.toNat (0:Int)).toNat) (0:Int))+(1:Int)))))))else(some (.inl (best4,v19,v20,v21,v28,v29,(YBh .i64 (v30+1)),s0_0,s0_1,s0_2,h1,(count3.set ((v28.getD v30.toNat (0:Int)).toNat) (YBh .i64 ((count3.getD ((v28.getD v30.toNat (0:Int)).toNat) (0:Int))+(1:Int))))))))))))))))else(some (.inr (best4,v19,v20,v21,s0_0,s0_1,s0_2,h1,count3)))
def YbA(lo:Lo):Zp8->Option (Zp15):=lo.run (Ydp lo)
def Yuf(lo:Lo):LpE:=⟨5,[],(Zsg [0,3,4,19,20,21,28,29,30] [.ptr 0 0 0,.ref 2,.j,.l Zc1,.j,.j,.l (cs [I]),.j,.j] [.st [.l (cs [I]),.l Zc1,.ref 1,.j],.sq (cs [I]),.sq (cs [I])]),[⟨.exit 2,(Zsg [0,3,4,19,20,21] [.ptr 0 0 0,.ref 2,.j,.l Zc1,.j,.j] [.st [.l (cs [I]),.l Zc1,.ref 1,.j],.sq (cs [I]),.sq (cs [I])])⟩],YbA lo⟩
def Ymf(lo:Lo):LL:=(Yuf lo,.loop q45_L5_b.er)::[]
theorem Yug(lo:Lo):Lk lo pf (fs45 lo) 2 (Ymf lo):=.l .n (Ydp lo)
def q45_L3_b:VCode:=
 (Rg [oR 22 .lss 21 20]
 (.seq (Ce 22 0)
 (.seq (.blk 1 (Rg [oI 23 1 19 21,oL 24 23,oM 6 24]
 (.seq (Rg [oM 25 0,oM 26 6,oC 27 450 [25,26,(k 1)]]
 (.cond 27 (.exit 1)
 .skip))
 (Rg [oM 28 6,oN 29 28,oK 30 0]
 (.blk 2 (.loop 5 q45_L5_b))))))
 (.reg [oR 63 .add 21 (k 1),oM 21 63]))))
def Ydq(lo:Lo):Zp15->Option (Zp15⊕ (Zp37)):=fun x=>match x with
  | (best4,v19,v20,v21,s0_0,s0_1,s0_2,h1,count3)=>bif(decide (v21<v20))then(chk (0<=v21/\v21< (v19.length:Int)) (YAZ (q43 lo (v19.getD v21.toNat []) (1:Int) s0_0 s0_1 s0_2 h1) fun y145=>chk (y145.2.2.2.2.length=h1.length) (bif y145.1 then(some (.inl (best4,v19,v20,(YBh .i64 (v21+1)),y145.2.1,y145.2.2.1,y145.2.2.2.1,y145.2.2.2.2,count3)))else(YAZ (YbA lo (best4,v19,v20,v21,(v19.getD v21.toNat []),((v19.getD v21.toNat []).length:Int),(0:Int),y145.2.1,y145.2.2.1,y145.2.2.2.1,y145.2.2.2.2,count3)) fun y146=>some (.inl (y146.1,y146.2.1,y146.2.2.1,(YBh .i64 (y146.2.2.2.1+(1:Int))),y146.2.2.2.2.1,y146.2.2.2.2.2.1,y146.2.2.2.2.2.2.1,y146.2.2.2.2.2.2.2.1,y146.2.2.2.2.2.2.2.2))))))else(some (.inr (best4,s0_0,s0_1,s0_2,h1)))
def YbW(lo:Lo):Zp15->Option (Zp37):=lo.run (Ydq lo)
def Yuh(lo:Lo):LpE:=⟨3,[],(Zsg [0,3,4,19,20,21] [.ptr 0 0 0,.ref 2,.j,.l Zc1,.j,.j] [.st [.l (cs [I]),.l Zc1,.ref 1,.j],.sq (cs [I]),.sq (cs [I])]),[⟨.exit 0,(Zsg [0,4] [.ptr 0 0 0,.j] [.st [.l (cs [I]),.l Zc1,.ref 1,.j],.sq (cs [I])])⟩],YbW lo⟩
def Yui(lo:Lo):LL:=(Yuh lo,.loop q45_L3_b.er)::Ymf lo
theorem Yuj(lo:Lo):Lk lo pf (fs45 lo) 2 (Yui lo):=.l (Yug lo) (Ydq lo)
def q45(lo:Lo)(s0_0:List Int)(s0_1:List ((List Int)))(s0_2:Int)(h1:List Int):Option Zp37:=
  chk (0<=(h1.length:Int)/\ (h1.length:Int)<=(h1.length:Int)/\ (h1.length:Int)<=(maxEl:Nat)) (YAZ (YbW lo ((-1:Int),s0_1,(s0_1.length:Int),(0:Int),s0_0,s0_1,s0_2,h1,(List.replicate (h1.length:Int).toNat (0:Int)))) fun y147=>some (y147.1,y147.2.1,y147.2.2.1,y147.2.2.2.1,y147.2.2.2.2))
def Yuk:VFn:=⟨true,65,[.t 2],
 (Rg [oK 2 0]
 (Rg [oM 9 0,o 10 (.nilc 9),oF 11 2 10,oL 12 11,oN 13 12,o 14 (.mksl (cs [I]) 0 13 13),oM 3 14]
 (Rg [oK 4 (-1)]
 (.seq (Rg [oM 15 0,o 16 (.nilc 15),oF 17 0 16,oF 18 1 17,oL 19 18,oN 20 19,oK 21 0]
 (.blk 0 (.loop 3 q45_L3_b)))
 (Rg [oM 64 4,oM 2 64]
 .ret)))))⟩
def Ymg(lo:Lo):FnE:=Zfe 445 false (Zsg [0] [.ptr 0 0 0] [.st [.l (cs [I]),.l Zc1,.ref 1,.j],.sq (cs [I])]) (.i .i64) [.st [.l (cs [I]),.l Zc1,.ref 1,.j],.sq (cs [I])] (fun x=>q45 lo x.1 x.2.1 x.2.2.1 x.2.2.2:Zp39->Option Zp37)
def fs46(lo:Lo):List FnE:=Ymg lo::fs45 lo
theorem Yul(h:GZ P fm fs45 lo)(t:Ti P fm 445 Yuk):GZ P fm fs46 lo:=
  h.i (Ymg lo) (Yuj lo) t
def Ymh(F:Zp23->Option (Bool× (List Int)×Zt0×Int× (List Int)×Int× (List Int))):FnE:=⟨430,false,(Zsg [0,1,2] [.ptr 0 0 0,.ptr 1 0 0,.j] [.st [.l (cs [I]),.l Zc1,.ref 2,.j],.st [.l (cs [I]),.j],.sq (cs [I])]),.b,[.st [.l (cs [I]),.l Zc1,.ref 2,.j],.st [.l (cs [I]),.j],.sq (cs [I])],(cs [.b,.l (cs [I]),.l Zc1,I,.l (cs [I]),I,.l (cs [I])]),F⟩
def q46_L10_b:VCode:=
 (Rg [oR 48 .lss 47 46]
 (.seq (Ce 48 0)
 (.seq (.blk 1 (Rg [oM 49 47,oI 50 1 45 47,oL 51 50,oM 10 49,oM 11 51]
 (Rg [oM 52 11,oR 53 .eql 52 (k 1)]
 (.cond 53 (.reg [oM 54 1,oM 55 1,o 56 (.nilc 55),oF 57 0 56,oL 58 57,oM 59 10,o 60 (.bsl (cs [I]) 1 [(0,59)]),o 61 (.app (cs [I]) 0 58 60),o 62 (.nilc 54),oF 63 0 62,oS 1 63 61])
 .skip))))
 (.reg [oR 64 .add 47 (k 1),oM 47 64]))))
def Ymi(lo:Lo)(rec:Zp23->Option (Bool× (List Int)×Zt0×Int× (List Int)×Int× (List Int))):Zp19->Option (Zp19⊕ (((List Int)×Zt0×Int×Int× (List Int)× (List Int)))):=fun x=>match x with
  | (v46,v47,s0_0,s0_1,s0_2,b1,v45,h3)=>bif(decide (v47<v46))then(chk (0<=v47/\v47< (v45.length:Int)) (bif(decide (v45.getD v47.toNat (0:Int)=(1:Int)))then(chk (h3.length+[v47].length<=maxEl) (some (.inl (v46,(YBh .i64 (v47+1)),s0_0,s0_1,s0_2,b1,v45,(h3++[v47])))))else(some (.inl (v46,(YBh .i64 (v47+1)),s0_0,s0_1,s0_2,b1,v45,h3)))))else(some (.inr (s0_0,s0_1,s0_2,b1,v45,h3)))
def Ymj(lo:Lo)(rec:Zp23->Option (Bool× (List Int)×Zt0×Int× (List Int)×Int× (List Int))):Zp19->Option (((List Int)×Zt0×Int×Int× (List Int)× (List Int))):=lo.run (Ymi lo rec)
def Yum(lo:Lo)(rec:Zp23->Option (Bool× (List Int)×Zt0×Int× (List Int)×Int× (List Int))):LpE:=⟨10,[(1,some 0,false)],(Zsg [0,1,45,46,47] [.ptr 0 0 0,.ptr 1 0 0,.ref 2,.j,.j] [.st [.l (cs [I]),.l Zc1,.ref 2,.j],.st [.ref 3,.j],.sq (cs [I]),.sq (cs [I])]),[⟨.exit 0,(Zsg [0,1] [.ptr 0 0 0,.ptr 1 0 0] [.st [.l (cs [I]),.l Zc1,.ref 2,.j],.st [.ref 3,.j],.sq (cs [I]),.sq (cs [I])])⟩],Ymj lo rec⟩
def Ymk(lo:Lo)(rec:Zp23->Option (Bool× (List Int)×Zt0×Int× (List Int)×Int× (List Int))):LL:=(Yum lo rec,.loop q46_L10_b.er)::[]
theorem Yun(lo:Lo)(rec:Zp23->Option (Bool× (List Int)×Zt0×Int× (List Int)×Int× (List Int))):Lk lo pf (Ymh rec::fs46 lo) 3 (Ymk lo rec):=.l .n (Ymi lo rec)
def Yuo(lo:Lo)(rec:Zp23->Option (Bool× (List Int)×Zt0×Int× (List Int)×Int× (List Int)))(weight2:Int)(s0_0:List Int)(s0_1:List ((List Int)))(s0_2:Int)(b1_0:List Int)(b1_1:Int)(h2:List Int):Option (Bool× (List Int)×Zt0×Int× (List Int)×Int× (List Int)):=
  YAZ (q30 lo s0_0 s0_1 s0_2 h2) fun y150=>chk (y150.2.2.2.2.length=h2.length) (bif(!y150.1)then(some (false,y150.2.1,y150.2.2.1,y150.2.2.2.1,b1_0,b1_1,y150.2.2.2.2))else(YAZ (q38 lo y150.2.1 y150.2.2.1 y150.2.2.2.1 y150.2.2.2.2) fun y151=>chk (y151.2.2.2.2.length=y150.2.2.2.2.length) (bif y151.1 then(some (true,y151.2.1,y151.2.2.1,y151.2.2.2.1,b1_0,b1_1,y151.2.2.2.2))else(YAZ (q44 lo y151.2.1 y151.2.2.1 y151.2.2.2.1 y151.2.2.2.2) fun y152=>chk (y152.2.2.2.2.1.length=y151.2.2.2.2.length) (bif(decide (b1_1<=(YBh .i64 (weight2+y152.1))))then(some (true,y152.2.1,y152.2.2.1,y152.2.2.2.1,b1_0,b1_1,y152.2.2.2.2.1))else(YAZ (q45 lo y152.2.1 y152.2.2.1 y152.2.2.2.1 y152.2.2.2.2.1) fun y153=>chk (y153.2.2.2.2.length=y152.2.2.2.2.1.length) (bif(decide (y153.1< (0:Int)))then(YAZ (Ymj lo rec ((y153.2.2.2.2.length:Int),(0:Int),y153.2.1,y153.2.2.1,y153.2.2.2.1,weight2,y153.2.2.2.2,[])) fun y154=>some (true,y154.1,y154.2.1,y154.2.2.1,y154.2.2.2.2.2,y154.2.2.2.1,y154.2.2.2.2.1))else(chk (0<=y153.1/\y153.1< (y153.2.2.2.2.length:Int)) (chk (0<=y153.1/\y153.1< (y153.2.1.length:Int)) (YAZ (rec ((YBh .i64 (weight2+(y153.2.1.getD y153.1.toNat (0:Int)))),y153.2.1,y153.2.2.1,y153.2.2.2.1,b1_0,b1_1,(y153.2.2.2.2.set y153.1.toNat (1:Int)))) fun y155=>chk (y155.2.2.2.2.2.2.length=(y153.2.2.2.2.set y153.1.toNat (1:Int)).length) (chk (0<=y153.1/\y153.1< (y155.2.2.2.2.2.2.length:Int)) (bif y155.1 then(YAZ (rec (weight2,y155.2.1,y155.2.2.1,y155.2.2.2.1,y155.2.2.2.2.1,y155.2.2.2.2.2.1,(y155.2.2.2.2.2.2.set y153.1.toNat (2:Int)))) fun y156=>chk (y156.2.2.2.2.2.2.length=(y155.2.2.2.2.2.2.set y153.1.toNat (2:Int)).length) (chk (0<=y153.1/\y153.1< (y156.2.2.2.2.2.2.length:Int)) (some (y156.1,y156.2.1,y156.2.2.1,y156.2.2.2.1,y156.2.2.2.2.1,y156.2.2.2.2.2.1,(y156.2.2.2.2.2.2.set y153.1.toNat (0:Int))))))else(chk (0<=y153.1/\y153.1< ((y155.2.2.2.2.2.2.set y153.1.toNat (2:Int)).length:Int)) (some (false,y155.2.1,y155.2.2.1,y155.2.2.2.1,y155.2.2.2.2.1,y155.2.2.2.2.2.1,((y155.2.2.2.2.2.2.set y153.1.toNat (2:Int)).set y153.1.toNat (0:Int)))))))))))))))))
def YgE(lo:Lo):Nat->Int× (List Int)×Zt0×Int× (List Int)×Int× (List Int)->Option (Bool× (List Int)×Zt0×Int× (List Int)×Int× (List Int))
  |0,_=>none
  |n+1,x=>Yuo lo (YgE lo n) x.1 x.2.1 x.2.2.1 x.2.2.2.1 x.2.2.2.2.1 x.2.2.2.2.2.1 x.2.2.2.2.2.2
def q46(lo:Lo)(weight2:Int)(s0_0:List Int)(s0_1:List ((List Int)))(s0_2:Int)(b1_0:List Int)(b1_1:Int)(h2:List Int):Option (Bool× (List Int)×Zt0×Int× (List Int)×Int× (List Int)):=lo.run (fixS (YgE lo)) (0,(weight2,s0_0,s0_1,s0_2,b1_0,b1_1,h2))
def Yup:VFn:=⟨true,104,[.t 6],
 (Rg [oB 6 false]
 (.seq (Rg [oM 13 0,oC 14 443 [13],oX 15 14]
 (.cond 15 (Rg [oB 6 false]
 (.fz [1] (.ow [(1,some 0,false)] .ret)))
 .skip))
 (.seq (Rg [oM 16 0,oC 17 444 [16]]
 (.cond 17 (Rg [oB 6 true]
 (.fz [1] (.ow [(1,some 0,false)] .ret)))
 .skip))
 (.seq (Rg [oM 19 0,oC 20 438 [19],oM 18 20,oE 21 18 0,oE 22 18 1,oM 7 21,oM 8 22]
 (Rg [oM 23 2,oM 24 8,oR 25 .add 23 24,oM 26 1,o 27 (.nilc 26),oF 28 1 27,oL 29 28,oR 30 .geq 25 29]
 (.cond 30 (Rg [oB 6 true]
 (.fz [1] (.ow [(1,some 0,false)] .ret)))
 .skip)))
 (Rg [oM 31 0,oC 32 445 [31],oM 9 32]
 (.seq (Rg [oM 33 9,oR 34 .lss 33 (k 0)]
 (.cond 34 (Rg [oM 35 1,oM 36 1,oM 37 2,o 38 (.nilc 35),oF 39 0 38,on (.store 1 39 (ke (cs [I]))),o 40 (.nilc 36),oF 41 1 40,oS 1 41 37]
 (.seq (Rg [oM 42 0,o 43 (.nilc 42),oF 44 2 43,oL 45 44,oN 46 45,oK 47 0]
 (.blk 0 (.loop 10 q46_L10_b)))
 (Rg [oB 6 true]
 (.fz [1] (.ow [(1,some 0,false)] .ret)))))
 .skip))
 (Rg [oM 65 0,o 66 (.nilc 65),oF 67 2 66,oL 68 67,oM 69 9,oI 70 1 68 69,on (.store 1 70 (k 1))]
 (Rg [oM 71 0,oM 72 1,oM 73 2,oM 74 0,o 75 (.nilc 74),oF 76 0 75,oF 77 0 76,oL 78 77,oM 79 9,oI 80 1 78 79,oL 81 80,oR 82 .add 73 81,oC 83 430 [71,72,82],oM 12 83]
 (Rg [oM 84 0,o 85 (.nilc 84),oF 86 2 85,oL 87 86,oM 88 9,oI 89 1 87 88,on (.store 1 89 (k 2))]
 (Rg [oM 90 12,oM 91 90,gT 92 91 (.mv 0),gT 93 91 (.mv 1),gT 94 91 (.mv 2),gT 95 91 (.call 430 [92,93,94]),oP 96 91 95 (kb false),oM 12 96]
 (Rg [oM 97 0,o 98 (.nilc 97),oF 99 2 98,oL 100 99,oM 101 9,oI 102 1 100 101,on (.store 1 102 (k 0))]
 (Rg [oM 103 12,oM 6 103]
 (.fz [1] (.ow [(1,some 0,false)] .ret))))))))))))))⟩
def Yml(lo:Lo):FnE:=Ymh (fun x=>q46 lo x.1 x.2.1 x.2.2.1 x.2.2.2.1 x.2.2.2.2.1 x.2.2.2.2.2.1 x.2.2.2.2.2.2)
def fs47(lo:Lo):List FnE:=Yml lo::fs46 lo
theorem Yuq(h:GZ P fm fs46 lo)(t:Ti P fm 430 Yup):GZ P fm fs47 lo:=
  h.ir (Yml lo) (YgE lo) (ls:=fun rec=>Ymk lo rec) (fun rec=>(Yun lo rec)) t (by kernel_rfl) (fun _=>rfl) rfl (fun _=>by kernel_rfl) fun n x=>by kernel_rfl
end Go.Abs.G39
namespace Go.Abs.G39
open Go Go.Abs
set_option maxRecDepth 100000
set_option maxHeartbeats 1000000
variable{P:Program}{fm:FM}{lo:Lo}
def q47(lo:Lo)(in0_0:List Int)(in0_1:List ((List Int)))(budget1:Int):Option ((List Int)×Int×Int):=
  YAZ (q25 lo in0_0 in0_1) fun y105=>bif(!decide (y105.2=(0:Int)))then(some (([]:List Int),(0:Int),y105.2))else(bif(decide (budget1<1))then(some (([]:List Int),(0:Int),(1:Int)))else(YAZ (q28 lo in0_0 in0_1 y105.1) fun y115=>YAZ (q29 lo in0_0 in0_1 budget1) fun y116=>YAZ (q46 lo (0:Int) y116.1 y116.2.1 y116.2.2.1 y105.1 y115.1 y116.2.2.2) fun y157=>chk (y157.2.2.2.2.2.2.length=y116.2.2.2.length) (bif(!y157.1)then(some (([]:List Int),(0:Int),(13:Int)))else(some (y157.2.2.2.2.1,y157.2.2.2.2.2.1,(0:Int))))))
def Yur:VFn:=⟨true,46,[.t 4,.t 5,.t 6],
 (Rg [oG 2 0,o 4 (.mv (ke (cs [I]))),oK 5 0,oK 6 0]
 (Rg [oT 13 2 2,oC 14 404 [13],oM 12 14,oE 15 12 0,oE 16 12 1,oM 7 15,oM 8 16]
 (.seq (Rg [oM 17 8,oR 18 .neq 17 (k 0)]
 (.cond 18 (Rg [oM 19 8,o 4 (.mv (ke (cs [I]))),oK 5 0,oM 6 19]
 (.fz [4,5,6] .ret))
 .skip))
 (.seq (Rg [oM 20 1,oR 21 .lss 20 (k 1)]
 (.cond 21 (Rg [o 4 (.mv (ke (cs [I]))),oK 5 0,oK 6 1]
 (.fz [4,5,6] .ret))
 .skip))
 (Rg [oT 23 2 2,oM 24 7,oC 25 413 [23,24],oM 22 25,oE 26 22 0,oE 27 22 1,oM 9 26,oM 10 27]
 (Rg [oM 28 7,oM 29 9,o 30 (.build [.e (cs [I]),.i .i64 0] [(0,1,28),(1,1,29)]),oG 31 30,oM 11 31]
 (.seq (Rg [oT 32 2 2,oM 33 1,oC 34 429 [32,33],oM 35 11,oC 36 430 [34,35,(k 0)],oX 37 36]
 (.cond 37 (Rg [o 4 (.mv (ke (cs [I]))),oK 5 0,oK 6 13]
 (.fz [4,5,6] .ret))
 .skip))
 (Rg [oM 38 11,o 39 (.nilc 38),oF 40 0 39,oL 41 40,oM 42 11,o 43 (.nilc 42),oF 44 1 43,oL 45 44,oM 4 41,oM 5 45,oK 6 0]
 (.fz [4,5,6] .ret)))))))))⟩
def Ymm(lo:Lo):FnE:=Zfe 409 true (Zsg [0,1] [.ag [.l (cs [I]),.l Zc1],.j] []) (.tp [.l (cs [I]),.j,.j]) [] (fun x=>q47 lo x.1 x.2.1 x.2.2:(List Int)×Zt0×Int->Option ((List Int)×Int×Int))
def fs48(lo:Lo):List FnE:=Ymm lo::fs47 lo
theorem Yus(h:GZ P fm fs47 lo)(t:Ti P fm 409 Yur):GZ P fm fs48 lo:=
  h.p (Ymm lo) .n t
def q48_L3_b:VCode:=
 (Rg [oR 14 .lss 13 12]
 (.seq (Ce 14 0)
 (.seq (.blk 1 (Rg [oM 15 13,oM 5 15]
 (Rg [oM 16 0,oM 17 5,oI 18 1 16 17,oL 19 18,oM 20 1,oM 21 5,oI 22 1 20 21,oL 23 22,oR 24 .neq 19 23]
 (.cond 24 (Rg [oB 4 false]
 (Fr 4))
 .skip))))
 (.reg [oR 25 .add 13 (k 1),oM 13 25]))))
def Ymn(lo:Lo):(List Int)× (List Int)×Int×Int->Option (((List Int)× (List Int)×Int×Int)⊕ (Bool⊕Unit)):=fun x=>match x with
  | (s10,s21,v12,v13)=>bif(decide (v13<v12))then(chk (0<=v13/\v13< (s10.length:Int)) (chk (0<=v13/\v13< (s21.length:Int)) (bif(!decide ((s10.getD v13.toNat (0:Int))=(s21.getD v13.toNat (0:Int))))then(some (.inr (.inl false)))else(some (.inl (s10,s21,v12,(YBh .i64 (v13+1))))))))else(some (.inr (.inr ())))
def Ymo(lo:Lo):(List Int)× (List Int)×Int×Int->Option (Bool⊕Unit):=lo.run (Ymn lo)
def Yut(lo:Lo):LpE:=⟨3,[],(Zsg [0,1,12,13] [.l (cs [I]),.l (cs [I]),.j,.j] []),[⟨.ret,(Zsg [4] [.b] [])⟩,⟨.exit 0,(Zsg [] [] [])⟩],Ymo lo⟩
def Yuu(lo:Lo):LL:=(Yut lo,.loop q48_L3_b.er)::[]
theorem Yuv(lo:Lo):Lk lo pf (fs48 lo) 0 (Yuu lo):=.l .n (Ymn lo)
def q48(lo:Lo)(s10:List Int)(s21:List Int):Option Bool:=
  bif(!decide ((s10.length:Int)=(s21.length:Int)))then(some false)else(YAZ (Ymo lo (s10,s21,(s10.length:Int),(0:Int))) fun y159=>alt2 y159 (fun y160=>some y160) (fun y161=>some true))
def Yuw:VFn:=⟨true,26,[.t 4],
 (Rg [oB 4 false]
 (.seq (Rg [oM 6 0,oN 7 6,oM 8 1,oN 9 8,oR 10 .neq 7 9]
 (.cond 10 (Rg [oB 4 false]
 (Fr 4))
 .skip))
 (.seq (Rg [oM 11 0,oN 12 11,oK 13 0]
 (.blk 0 (.loop 3 q48_L3_b)))
 (Rg [oB 4 true]
 (Fr 4)))))⟩
def Ymp(lo:Lo):FnE:=Zfe 421 true (Zsg [0,1] [.l (cs [I]),.l (cs [I])] []) .b [] (fun x=>q48 lo x.1 x.2:(List Int)× (List Int)->Option Bool)
def fs49(lo:Lo):List FnE:=Ymp lo::fs48 lo
theorem Yux(h:GZ P fm fs48 lo)(t:Ti P fm 421 Yuw):GZ P fm fs49 lo:=
  h.p (Ymp lo) (Yuv lo) t
def q49(lo:Lo):Option (Zt4):=
  some ([((1:Int),([]:List (Int×Int))),((-1:Int),[((2:Int),(2:Int))]),((-1:Int),[((0:Int),(2:Int)),((1:Int),(4:Int))])])
def Yuy:VFn:=⟨true,10,[.t 0],
 (Rg [o 0 (.mv (ke Zc3))]
 (Rg [o 1 (.build [.i .i64 0,.e (cs [I,I])] [(0,1,(k 1))]),o 2 (.build [.i .i64 0,.i .i64 0] [(0,1,(k 2)),(1,1,(k 2))]),o 3 (.bsl (cs [I,I]) 1 [(0,2)]),o 4 (.build [.i .i64 0,.e (cs [I,I])] [(0,1,(k (-1))),(1,1,3)]),o 5 (.build [.i .i64 0,.i .i64 0] [(0,1,(k 0)),(1,1,(k 2))]),o 6 (.build [.i .i64 0,.i .i64 0] [(0,1,(k 1)),(1,1,(k 4))]),o 7 (.bsl (cs [I,I]) 2 [(0,5),(1,6)]),o 8 (.build [.i .i64 0,.e (cs [I,I])] [(0,1,(k (-1))),(1,1,7)]),o 9 (.bsl Zc3 3 [(0,1),(1,4),(2,8)]),oM 0 9]
 (Fr 0)))⟩
def Ymq(lo:Lo):FnE:=Zfe 422 true (Zsg [] [] []) (.l Zc3) [] (fun x=>q49 lo:Unit->Option (Zt4))
def fs50(lo:Lo):List FnE:=Ymq lo::fs49 lo
theorem Yuz(h:GZ P fm fs49 lo)(t:Ti P fm 422 Yuy):GZ P fm fs50 lo:=
  h.p (Ymq lo) .n t
def q50_L5_b:VCode:=
 (Rg [oR 80 .lss 79 78]
 (.seq (Ce 80 2)
 (.seq (.blk 3 (Rg [oI 81 1 77 79,oL 82 81,oM 12 82]
 (Rg [oM 83 7,oM 84 12,oI 85 1 83 84,oL 86 85,oF 87 1 10,oL 88 87,oR 89 .add 86 88,oI 90 1 83 84,oS 1 90 89]
 (Rg [oM 91 0,o 92 (.nilc 91),oF 93 2 92,oL 94 93,oM 95 12,oI 96 1 94 95,oL 97 96,oR 98 .eql 97 (k 0),oM 99 98,gT 100 99 (.mv 7),gT 101 99 (.mv 12),gT 102 99 (.iad 1 100 101),gT 103 99 (.load false 1 102),gT 104 99 (.mv 0),gT 105 99 (.nilc 104),gT 106 99 (.fad 0 105),gT 107 99 (.fad 0 106),gT 108 99 (.load false 1 107),gT 109 99 (.mv 12),gT 110 99 (.iad 1 108 109),gT 111 99 (.load false 1 110),gT 112 99 (.bin .gtr 103 111),oP 113 99 112 (kb false)]
 (.cond 113 (Rg [oB 6 false]
 .ret)
 .skip)))))
 (.reg [oR 114 .add 79 (k 1),oM 79 114]))))
def Ycy(lo:Lo):Zp7->Option (Zp7⊕ ((Bool× (List Int)×Zt0×Int× (List Int))⊕Zp13)):=fun x=>match x with
  | (bound2,sum8,v22,v23,v24,v77,v78,v79,s0_0,s0_1,s0_2,h1,load7,x10_0,x10_1)=>bif(decide (v79<v78))then(chk (0<=v79/\v79< (v77.length:Int)) (chk (0<=(v77.getD v79.toNat (0:Int))/\ (v77.getD v79.toNat (0:Int))< (load7.length:Int)) (chk (0<=(v77.getD v79.toNat (0:Int))/\ (v77.getD v79.toNat (0:Int))< (load7.length:Int)) (chk (0<=(v77.getD v79.toNat (0:Int))/\ (v77.getD v79.toNat (0:Int))< (h1.length:Int)) (bif(decide (h1.getD ((v77.getD v79.toNat (0:Int)).toNat) (0:Int)=(0:Int)))then(chk (0<=(v77.getD v79.toNat (0:Int))/\ (v77.getD v79.toNat (0:Int))< ((load7.set ((v77.getD v79.toNat (0:Int)).toNat) (YBh .i64 ((load7.getD ((v77.getD v79.toNat (0:Int)).toNat) (0:Int))+x10_1))).length:Int)) (chk (0<=(v77.getD v79.toNat (0:Int))/\ (v77.getD v79.toNat (0:Int))< (s0_0.length:Int)) (bif(decide ((s0_0.getD ((v77.getD v79.toNat (0:Int)).toNat) (0:Int))< (load7.set ((v77.getD v79.toNat (0:Int)).toNat) (YBh .i64 ((load7.getD ((v77.getD v79.toNat (0:Int)).toNat) (0:Int))+x10_1))).getD ((v77.getD v79.toNat (0:Int)).toNat) (0:Int)))then(some (.inr (.inl (false,s0_0,s0_1,s0_2,h1))))else(some (.inl (bound2,sum8,v22,v23,v24,v77,v78,(YBh .i64 (v79+1)),s0_0,s0_1,s0_2,h1,(load7.set ((v77.getD v79.toNat (0:Int)).toNat) (YBh .i64 ((load7.getD ((v77.getD v79.toNat (0:Int)).toNat) (0:Int))+x10_1))),x10_0,x10_1))))))else(some (.inl (bound2,sum8,v22,v23,v24,v77,v78,(YBh .i64 (v79+1)),s0_0,s0_1,s0_2,h1,(load7.set ((v77.getD v79.toNat (0:Int)).toNat) (YBh .i64 ((load7.getD ((v77.getD v79.toNat (0:Int)).toNat) (0:Int))+x10_1))),x10_0,x10_1))))))))else(some (.inr (.inr (bound2,sum8,v22,v23,v24,s0_0,s0_1,s0_2,h1,load7))))
def YbX(lo:Lo):Zp7->Option ((Bool× (List Int)×Zt0×Int× (List Int))⊕Zp13):=lo.run (Ycy lo)
def YuA(lo:Lo):LpE:=⟨5,[],(Zsg [0,2,7,8,10,22,23,24,77,78,79] [.ptr 0 0 0,.j,.ref 2,.j,.ptr 3 0 0,.l (cs [I,I]),.j,.j,.l (cs [I]),.j,.j] [.st [.l (cs [I]),.l Zc1,.ref 1,.j],.sq (cs [I]),.sq (cs [I]),.st [.j,.j]]),[⟨.ret,(Zsg [6,0] [.b,.ptr 0 0 0] [.st [.l (cs [I]),.l Zc1,.ref 1,.j],.sq (cs [I])])⟩,⟨.exit 2,(Zsg [0,2,7,8,22,23,24] [.ptr 0 0 0,.j,.ref 2,.j,.l (cs [I,I]),.j,.j] [.st [.l (cs [I]),.l Zc1,.ref 1,.j],.sq (cs [I]),.sq (cs [I])])⟩],YbX lo⟩
def Ymr(lo:Lo):LL:=(YuA lo,.loop q50_L5_b.er)::[]
theorem YuB(lo:Lo):Lk lo pf (fs50 lo) 2 (Ymr lo):=.l .n (Ycy lo)
def q50_L3_b:VCode:=
 (Rg [oR 25 .lss 24 23]
 (.seq (Ce 25 0)
 (.seq (.blk 1 (Rg [oI 26 2 22 24,oT 27 2 26,o 10 (.alloc [.i .i64 0,.i .i64 0]),oS 2 10 27]
 (.seq (Rg [oF 28 0 10,oL 29 28,oR 30 .lss 29 (k 0),oM 31 30,gF 32 31 (.fad 0 10),gF 33 31 (.load false 1 32),gF 34 31 (.mv 0),gF 35 31 (.nilc 34),gF 36 31 (.fad 0 35),gF 37 31 (.fad 1 36),gF 38 31 (.load false 1 37),gF 39 31 (.len 38),gF 40 31 (.bin .geq 33 39),oP 41 31 (kb true) 40,oM 42 41,gF 43 42 (.fad 1 10),gF 44 42 (.load false 1 43),gF 45 42 (.bin .lss 44 (k 1)),oP 46 42 (kb true) 45,oM 47 46,gF 48 47 (.fad 1 10),gF 49 47 (.load false 1 48),gF 50 47 (.bin .gtr 49 (k 1000000000000)),oP 51 47 (kb true) 50,oM 52 51,gF 53 52 (.mv 0),gF 54 52 (.mv 0),gF 55 52 (.nilc 54),gF 56 52 (.fad 0 55),gF 57 52 (.fad 1 56),gF 58 52 (.load false 1 57),gF 59 52 (.fad 0 10),gF 60 52 (.load false 1 59),gF 61 52 (.iad 1 58 60),gF 62 52 (.load false 1 61),gF 63 52 (.call 450 [53,62,(k 1)]),oP 64 52 (kb true) 63]
 (.cond 64 (Rg [oB 6 false]
 .ret)
 .skip))
 (Rg [oM 65 8,oF 66 1 10,oL 67 66,oR 68 .add 65 67,oM 8 68]
 (Rg [oM 69 0,o 70 (.nilc 69),oF 71 0 70,oF 72 1 71,oL 73 72,oF 74 0 10,oL 75 74,oI 76 1 73 75,oL 77 76,oN 78 77,oK 79 0]
 (.blk 2 (.loop 5 q50_L5_b)))))))
 (.reg [oR 115 .add 24 (k 1),oM 24 115]))))
def Ydr(lo:Lo):Zp13->Option (Zp13⊕ ((Bool× (List Int)×Zt0×Int× (List Int))⊕Zp31)):=fun x=>match x with
  | (bound2,sum8,v22,v23,v24,s0_0,s0_1,s0_2,h1,load7)=>bif(decide (v24<v23))then(chk (0<=v24/\v24< (v22.length:Int)) (bif(decide ((v22.getD v24.toNat ((0:Int),(0:Int))).1< (0:Int)))then(some (.inr (.inl (false,s0_0,s0_1,s0_2,h1))))else(bif(decide ((s0_1.length:Int)<=(v22.getD v24.toNat ((0:Int),(0:Int))).1))then(some (.inr (.inl (false,s0_0,s0_1,s0_2,h1))))else(bif(decide ((v22.getD v24.toNat ((0:Int),(0:Int))).2< (1:Int)))then(some (.inr (.inl (false,s0_0,s0_1,s0_2,h1))))else(bif(decide ((1000000000000:Int)< (v22.getD v24.toNat ((0:Int),(0:Int))).2))then(some (.inr (.inl (false,s0_0,s0_1,s0_2,h1))))else(chk (0<=(v22.getD v24.toNat ((0:Int),(0:Int))).1/\ (v22.getD v24.toNat ((0:Int),(0:Int))).1< (s0_1.length:Int)) (YAZ (q43 lo (s0_1.getD (((v22.getD v24.toNat ((0:Int),(0:Int))).1).toNat) []) (1:Int) s0_0 s0_1 s0_2 h1) fun y168=>chk (y168.2.2.2.2.length=h1.length) (bif y168.1 then(some (.inr (.inl (false,y168.2.1,y168.2.2.1,y168.2.2.2.1,y168.2.2.2.2))))else(chk (0<=(v22.getD v24.toNat ((0:Int),(0:Int))).1/\ (v22.getD v24.toNat ((0:Int),(0:Int))).1< (y168.2.2.1.length:Int)) (YAZ (YbX lo (bound2,(YBh .i64 (sum8+((v22.getD v24.toNat ((0:Int),(0:Int))).2))),v22,v23,v24,(y168.2.2.1.getD (((v22.getD v24.toNat ((0:Int),(0:Int))).1).toNat) []),((y168.2.2.1.getD (((v22.getD v24.toNat ((0:Int),(0:Int))).1).toNat) []).length:Int),(0:Int),y168.2.1,y168.2.2.1,y168.2.2.2.1,y168.2.2.2.2,load7,(v22.getD v24.toNat ((0:Int),(0:Int))).1,(v22.getD v24.toNat ((0:Int),(0:Int))).2)) fun y169=>alt2 y169 (fun y170=>some (.inr (.inl (y170.1,y170.2.1,y170.2.2.1,y170.2.2.2.1,y170.2.2.2.2)))) (fun y171=>some (.inl (y171.1,y171.2.1,y171.2.2.1,y171.2.2.2.1,(YBh .i64 (y171.2.2.2.2.1+(1:Int))),y171.2.2.2.2.2.1,y171.2.2.2.2.2.2.1,y171.2.2.2.2.2.2.2.1,y171.2.2.2.2.2.2.2.2.1,y171.2.2.2.2.2.2.2.2.2)))))))))))))else(some (.inr (.inr (bound2,sum8,s0_0,s0_1,s0_2,h1))))
def Yds(lo:Lo):Zp13->Option ((Bool× (List Int)×Zt0×Int× (List Int))⊕Zp31):=lo.run (Ydr lo)
def YuC(lo:Lo):LpE:=⟨3,[],(Zsg [0,2,7,8,22,23,24] [.ptr 0 0 0,.j,.ref 2,.j,.l (cs [I,I]),.j,.j] [.st [.l (cs [I]),.l Zc1,.ref 1,.j],.sq (cs [I]),.sq (cs [I])]),[⟨.ret,(Zsg [6,0] [.b,.ptr 0 0 0] [.st [.l (cs [I]),.l Zc1,.ref 1,.j],.sq (cs [I])])⟩,⟨.exit 0,(Zsg [0,2,8] [.ptr 0 0 0,.j,.j] [.st [.l (cs [I]),.l Zc1,.ref 1,.j],.sq (cs [I])])⟩],Yds lo⟩
def YuD(lo:Lo):LL:=(YuC lo,.loop q50_L3_b.er)::Ymr lo
theorem YuE(lo:Lo):Lk lo pf (fs50 lo) 2 (YuD lo):=.l (YuB lo) (Ydr lo)
def q50(lo:Lo)(l1:List (Int×Int))(bound2:Int)(s0_0:List Int)(s0_1:List ((List Int)))(s0_2:Int)(h1:List Int):Option (Bool× (List Int)×Zt0×Int× (List Int)):=
  bif(decide ((10000:Int)< (l1.length:Int)))then(some (false,s0_0,s0_1,s0_2,h1))else(chk (0<=(h1.length:Int)/\ (h1.length:Int)<=(h1.length:Int)/\ (h1.length:Int)<=(maxEl:Nat)) (YAZ (Yds lo (bound2,(0:Int),l1,(l1.length:Int),(0:Int),s0_0,s0_1,s0_2,h1,(List.replicate (h1.length:Int).toNat (0:Int)))) fun y172=>alt2 y172 (fun y173=>some (y173.1,y173.2.1,y173.2.2.1,y173.2.2.2.1,y173.2.2.2.2)) (fun y174=>some ((decide (y174.1<=y174.2.1)),y174.2.2.1,y174.2.2.2.1,y174.2.2.2.2.1,y174.2.2.2.2.2))))
def YuF:VFn:=⟨true,119,[.t 6],
 (Rg [oB 6 false]
 (.seq (Rg [oM 13 1,oN 14 13,oR 15 .gtr 14 (k 10000)]
 (.cond 15 (Rg [oB 6 false]
 .ret)
 .skip))
 (Rg [oM 16 0,o 17 (.nilc 16),oF 18 2 17,oL 19 18,oN 20 19,o 21 (.mksl (cs [I]) 0 20 20),oM 7 21]
 (Rg [oK 8 0]
 (.seq (Rg [oM 22 1,oN 23 22,oK 24 0]
 (.blk 0 (.loop 3 q50_L3_b)))
 (Rg [oM 116 8,oM 117 2,oR 118 .geq 116 117,oM 6 118]
 .ret))))))⟩
def Yms(lo:Lo):FnE:=Zfe 446 false (Zsg [0,1,2] [.ptr 0 0 0,.l (cs [I,I]),.j] [.st [.l (cs [I]),.l Zc1,.ref 1,.j],.sq (cs [I])]) .b [.st [.l (cs [I]),.l Zc1,.ref 1,.j],.sq (cs [I])] (fun x=>q50 lo x.1 x.2.1 x.2.2.1 x.2.2.2.1 x.2.2.2.2.1 x.2.2.2.2.2:Zt2×Int× (List Int)×Zt0×Int× (List Int)->Option (Bool× (List Int)×Zt0×Int× (List Int)))
def fs51(lo:Lo):List FnE:=Yms lo::fs50 lo
theorem YuG(h:GZ P fm fs50 lo)(t:Ti P fm 446 YuF):GZ P fm fs51 lo:=
  h.i (Yms lo) (YuE lo) t
def YuH(F:Zp32->Option (Zt4×Bool× (List Int)×Zt0×Int× (List Int))):FnE:=⟨432,false,(Zsg [0,1,2] [.ptr 0 0 0,.l Zc3,.j] [.st [.l (cs [I]),.l Zc1,.ref 1,.j],.sq (cs [I])]),.tp [.l Zc3,.b],[.st [.l (cs [I]),.l Zc1,.ref 1,.j],.sq (cs [I])],(cs [.l Zc3,.b,.l (cs [I]),.l Zc1,I,.l (cs [I])]),F⟩
def Ycz(lo:Lo)(rec:Zp32->Option (Zt4×Bool× (List Int)×Zt0×Int× (List Int)))(proof1:List (Int×Zt2))(bound2:Int)(s0_0:List Int)(s0_1:List ((List Int)))(s0_2:Int)(h1:List Int):Option (Zt4×Bool× (List Int)×Zt0×Int× (List Int)):=
  bif(decide ((proof1.length:Int)=0))then(some (([]:List (Int×Zt2)),false,s0_0,s0_1,s0_2,h1))else(chk (0<=(0:Int)/\ (0:Int)< (proof1.length:Int)) (chk (0<=(1:Int)/\ (1:Int)<=(proof1.length:Int)/\ (proof1.length:Int)<=(proof1.length:Int)) (bif(decide ((proof1.getD 0 ((0:Int),[])).1=(-1:Int)))then(bif(decide ((((proof1.getD 0 ((0:Int),[])).2).length:Int)=(0:Int)))then(bif(decide (bound2<=0))then(some (((proof1.take (proof1.length:Int).toNat).drop 1),true,s0_0,s0_1,s0_2,h1))else(YAZ (q38 lo s0_0 s0_1 s0_2 h1) fun y167=>chk (y167.2.2.2.2.length=h1.length) (some (((proof1.take (proof1.length:Int).toNat).drop 1),y167.1,y167.2.1,y167.2.2.1,y167.2.2.2.1,y167.2.2.2.2))))else(bif(decide ((proof1.getD 0 ((0:Int),[])).1=(-1:Int)))then(YAZ (q50 lo ((proof1.getD 0 ((0:Int),[])).2) bound2 s0_0 s0_1 s0_2 h1) fun y175=>chk (y175.2.2.2.2.length=h1.length) (some (((proof1.take (proof1.length:Int).toNat).drop 1),y175.1,y175.2.1,y175.2.2.1,y175.2.2.2.1,y175.2.2.2.2)))else(bif(decide ((proof1.getD 0 ((0:Int),[])).1< (0:Int)))then(some (([]:List (Int×Zt2)),false,s0_0,s0_1,s0_2,h1))else(bif(decide ((h1.length:Int)<=(proof1.getD 0 ((0:Int),[])).1))then(some (([]:List (Int×Zt2)),false,s0_0,s0_1,s0_2,h1))else(bif(decide ((0:Int)< (((proof1.getD 0 ((0:Int),[])).2).length:Int)))then(some (([]:List (Int×Zt2)),false,s0_0,s0_1,s0_2,h1))else(chk (0<=(proof1.getD 0 ((0:Int),[])).1/\ (proof1.getD 0 ((0:Int),[])).1< (h1.length:Int)) (bif(!decide (h1.getD (((proof1.getD 0 ((0:Int),[])).1).toNat) (0:Int)=(0:Int)))then(some (([]:List (Int×Zt2)),false,s0_0,s0_1,s0_2,h1))else(chk (0<=(proof1.getD 0 ((0:Int),[])).1/\ (proof1.getD 0 ((0:Int),[])).1< (h1.length:Int)) (chk (0<=(proof1.getD 0 ((0:Int),[])).1/\ (proof1.getD 0 ((0:Int),[])).1< (s0_0.length:Int)) (YAZ (rec (((proof1.take (proof1.length:Int).toNat).drop 1),(YBh .i64 (bound2-(s0_0.getD (((proof1.getD 0 ((0:Int),[])).1).toNat) (0:Int)))),s0_0,s0_1,s0_2,(h1.set (((proof1.getD 0 ((0:Int),[])).1).toNat) (1:Int)))) fun y176=>chk (y176.2.2.2.2.2.length=(h1.set (((proof1.getD 0 ((0:Int),[])).1).toNat) (1:Int)).length) (bif y176.2.1 then(chk (0<=(proof1.getD 0 ((0:Int),[])).1/\ (proof1.getD 0 ((0:Int),[])).1< (y176.2.2.2.2.2.length:Int)) (YAZ (rec (y176.1,bound2,y176.2.2.1,y176.2.2.2.1,y176.2.2.2.2.1,(y176.2.2.2.2.2.set (((proof1.getD 0 ((0:Int),[])).1).toNat) (2:Int)))) fun y177=>chk (y177.2.2.2.2.2.length=(y176.2.2.2.2.2.set (((proof1.getD 0 ((0:Int),[])).1).toNat) (2:Int)).length) (chk (0<=(proof1.getD 0 ((0:Int),[])).1/\ (proof1.getD 0 ((0:Int),[])).1< (y177.2.2.2.2.2.length:Int)) (some (y177.1,y177.2.1,y177.2.2.1,y177.2.2.2.1,y177.2.2.2.2.1,(y177.2.2.2.2.2.set (((proof1.getD 0 ((0:Int),[])).1).toNat) (0:Int)))))))else(chk (0<=(proof1.getD 0 ((0:Int),[])).1/\ (proof1.getD 0 ((0:Int),[])).1< (y176.2.2.2.2.2.length:Int)) (some (y176.1,y176.2.1,y176.2.2.1,y176.2.2.2.1,y176.2.2.2.2.1,(y176.2.2.2.2.2.set (((proof1.getD 0 ((0:Int),[])).1).toNat) (0:Int))))))))))))))))else(bif(decide ((proof1.getD 0 ((0:Int),[])).1=(-1:Int)))then(YAZ (q50 lo ((proof1.getD 0 ((0:Int),[])).2) bound2 s0_0 s0_1 s0_2 h1) fun y178=>chk (y178.2.2.2.2.length=h1.length) (some (((proof1.take (proof1.length:Int).toNat).drop 1),y178.1,y178.2.1,y178.2.2.1,y178.2.2.2.1,y178.2.2.2.2)))else(bif(decide ((proof1.getD 0 ((0:Int),[])).1< (0:Int)))then(some (([]:List (Int×Zt2)),false,s0_0,s0_1,s0_2,h1))else(bif(decide ((h1.length:Int)<=(proof1.getD 0 ((0:Int),[])).1))then(some (([]:List (Int×Zt2)),false,s0_0,s0_1,s0_2,h1))else(bif(decide ((0:Int)< (((proof1.getD 0 ((0:Int),[])).2).length:Int)))then(some (([]:List (Int×Zt2)),false,s0_0,s0_1,s0_2,h1))else(chk (0<=(proof1.getD 0 ((0:Int),[])).1/\ (proof1.getD 0 ((0:Int),[])).1< (h1.length:Int)) (bif(!decide (h1.getD (((proof1.getD 0 ((0:Int),[])).1).toNat) (0:Int)=(0:Int)))then(some (([]:List (Int×Zt2)),false,s0_0,s0_1,s0_2,h1))else(chk (0<=(proof1.getD 0 ((0:Int),[])).1/\ (proof1.getD 0 ((0:Int),[])).1< (h1.length:Int)) (chk (0<=(proof1.getD 0 ((0:Int),[])).1/\ (proof1.getD 0 ((0:Int),[])).1< (s0_0.length:Int)) (YAZ (rec (((proof1.take (proof1.length:Int).toNat).drop 1),(YBh .i64 (bound2-(s0_0.getD (((proof1.getD 0 ((0:Int),[])).1).toNat) (0:Int)))),s0_0,s0_1,s0_2,(h1.set (((proof1.getD 0 ((0:Int),[])).1).toNat) (1:Int)))) fun y179=>chk (y179.2.2.2.2.2.length=(h1.set (((proof1.getD 0 ((0:Int),[])).1).toNat) (1:Int)).length) (bif y179.2.1 then(chk (0<=(proof1.getD 0 ((0:Int),[])).1/\ (proof1.getD 0 ((0:Int),[])).1< (y179.2.2.2.2.2.length:Int)) (YAZ (rec (y179.1,bound2,y179.2.2.1,y179.2.2.2.1,y179.2.2.2.2.1,(y179.2.2.2.2.2.set (((proof1.getD 0 ((0:Int),[])).1).toNat) (2:Int)))) fun y180=>chk (y180.2.2.2.2.2.length=(y179.2.2.2.2.2.set (((proof1.getD 0 ((0:Int),[])).1).toNat) (2:Int)).length) (chk (0<=(proof1.getD 0 ((0:Int),[])).1/\ (proof1.getD 0 ((0:Int),[])).1< (y180.2.2.2.2.2.length:Int)) (some (y180.1,y180.2.1,y180.2.2.1,y180.2.2.2.1,y180.2.2.2.2.1,(y180.2.2.2.2.2.set (((proof1.getD 0 ((0:Int),[])).1).toNat) (0:Int)))))))else(chk (0<=(proof1.getD 0 ((0:Int),[])).1/\ (proof1.getD 0 ((0:Int),[])).1< (y179.2.2.2.2.2.length:Int)) (some (y179.1,y179.2.1,y179.2.2.1,y179.2.2.2.1,y179.2.2.2.2.1,(y179.2.2.2.2.2.set (((proof1.getD 0 ((0:Int),[])).1).toNat) (0:Int))))))))))))))))))
def Ybi(lo:Lo):Nat->Zt4×Int× (List Int)×Zt0×Int× (List Int)->Option (Zt4×Bool× (List Int)×Zt0×Int× (List Int))
  |0,_=>none
  |n+1,x=>Ycz lo (Ybi lo n) x.1 x.2.1 x.2.2.1 x.2.2.2.1 x.2.2.2.2.1 x.2.2.2.2.2
def q51(lo:Lo)(proof1:List (Int×Zt2))(bound2:Int)(s0_0:List Int)(s0_1:List ((List Int)))(s0_2:Int)(h1:List Int):Option (Zt4×Bool× (List Int)×Zt0×Int× (List Int)):=lo.run (fixS (Ybi lo)) (0,(proof1,bound2,s0_0,s0_1,s0_2,h1))
def YuI:VFn:=⟨true,125,[.t 6,.t 7],
 (Rg [o 6 (.mv (ke Zc3)),oB 7 false]
 (.seq (Rg [oM 11 1,oN 12 11,oR 13 .eql 12 (k 0)]
 (.cond 13 (Rg [o 6 (.mv (ke Zc3)),oB 7 false]
 .ret)
 .skip))
 (Rg [oM 14 1,⟨some 15,.iad 2 14 (k 0),none,true,false⟩,⟨some 16,.load true 2 15,none,true,false⟩,oM 17 1,o 18 (.slcR 2 17 (some (k 1)) none),o 8 (.alloc [.i .i64 0,.e (cs [I,I])]),oS 2 8 16,oM 9 18]
 (.seq (.blk 0 (Rg [oF 20 0 8,oL 21 20,oR 22 .eql 21 (k (-1)),oM 23 22,gT 24 23 (.fad 1 8),gT 25 23 (.load false 1 24),gT 26 23 (.len 25),gT 27 23 (.bin .eql 26 (k 0)),oP 28 23 27 (kb false),oM 19 28]
 (.cond 19 (Rg [oM 29 9,oM 30 2,oR 31 .leq 30 (k 0),oM 32 31,gF 33 32 (.mv 0),gF 34 32 (.call 444 [33]),oP 35 32 (kb true) 34,oM 6 29,oM 7 35]
 .ret)
 (Rg [oF 37 0 8,oL 38 37,oR 39 .eql 38 (k (-1)),oM 36 39]
 (.cond 36 (Rg [oM 40 9,oM 41 0,oF 42 1 8,oL 43 42,oM 44 2,oC 45 446 [41,43,44],oM 6 40,oM 7 45]
 .ret)
 (Rg [oF 47 0 8,oL 48 47,oR 49 .lss 48 (k 0),oM 50 49,gF 51 50 (.fad 0 8),gF 52 50 (.load false 1 51),gF 53 50 (.mv 0),gF 54 50 (.nilc 53),gF 55 50 (.fad 2 54),gF 56 50 (.load false 1 55),gF 57 50 (.len 56),gF 58 50 (.bin .geq 52 57),oP 59 50 (kb true) 58,oM 60 59,gF 61 60 (.fad 1 8),gF 62 60 (.load false 1 61),gF 63 60 (.len 62),gF 64 60 (.bin .gtr 63 (k 0)),oP 65 60 (kb true) 64,oM 66 65,gF 67 66 (.mv 0),gF 68 66 (.nilc 67),gF 69 66 (.fad 2 68),gF 70 66 (.load false 1 69),gF 71 66 (.fad 0 8),gF 72 66 (.load false 1 71),gF 73 66 (.iad 1 70 72),gF 74 66 (.load false 1 73),gF 75 66 (.bin .neq 74 (k 0)),oP 76 66 (kb true) 75,oM 46 76]
 (.cond 46 (Rg [o 6 (.mv (ke Zc3)),oB 7 false]
 .ret)
 .skip)))))))
 (Rg [oM 77 0,o 78 (.nilc 77),oF 79 2 78,oL 80 79,oF 81 0 8,oL 82 81,oI 83 1 80 82,on (.store 1 83 (k 1))]
 (Rg [oM 85 0,oM 86 9,oM 87 2,oM 88 0,o 89 (.nilc 88),oF 90 0 89,oF 91 0 90,oL 92 91,oF 93 0 8,oL 94 93,oI 95 1 92 94,oL 96 95,oR 97 .sub 87 96,oC 98 432 [85,86,97],oM 84 98,oE 99 84 0,oE 100 84 1,oM 9 99,oM 10 100]
 (.seq (Rg [oM 101 10]
 (.cond 101 (Rg [oM 102 0,o 103 (.nilc 102),oF 104 2 103,oL 105 104,oF 106 0 8,oL 107 106,oI 108 1 105 107,on (.store 1 108 (k 2))]
 (.reg [oM 110 0,oM 111 9,oM 112 2,oC 113 432 [110,111,112],oM 109 113,oE 114 109 0,oE 115 109 1,oM 9 114,oM 10 115]))
 .skip))
 (Rg [oM 116 0,o 117 (.nilc 116),oF 118 2 117,oL 119 118,oF 120 0 8,oL 121 120,oI 122 1 119 121,on (.store 1 122 (k 0))]
 (Rg [oM 123 9,oM 124 10,oM 6 123,oM 7 124]
 .ret)))))))))⟩
def Ymt(lo:Lo):FnE:=YuH (fun x=>q51 lo x.1 x.2.1 x.2.2.1 x.2.2.2.1 x.2.2.2.2.1 x.2.2.2.2.2)
def fs52(lo:Lo):List FnE:=Ymt lo::fs51 lo
theorem YuJ(h:GZ P fm fs51 lo)(t:Ti P fm 432 YuI):GZ P fm fs52 lo:=
  h.ir (Ymt lo) (Ybi lo) (ls:=fun _=>[]) (fun _=>.n) t (by kernel_rfl) (fun _=>rfl) rfl (fun _=>by kernel_rfl) fun n x=>by kernel_rfl
def q52(lo:Lo)(in0_0:List Int)(in0_1:List ((List Int)))(bound1:Int)(proof2:List (Int×Zt2)):Option Bool:=
  YAZ (q1 lo in0_0 in0_1) fun y165=>bif(!decide (y165=0))then(some false)else(bif(decide (bound1< (-1000000000000000:Int)))then(some false)else(bif(decide (1000000000000000<bound1))then(some false)else(YAZ (q29 lo in0_0 in0_1 (0:Int)) fun y166=>YAZ (q51 lo proof2 bound1 y166.1 y166.2.1 y166.2.2.1 y166.2.2.2) fun y181=>chk (y181.2.2.2.2.2.length=y166.2.2.2.length) (bif y181.2.1 then(some (decide ((y181.1.length:Int)=0)))else(some false)))))
def YuK:VFn:=⟨true,34,[.t 6],
 (Rg [oG 3 0,oB 6 false]
 (.seq (Rg [oT 9 2 3,oC 10 401 [9],oR 11 .neq 10 (k 0),oM 12 11,gF 13 12 (.mv 1),gF 14 12 (.bin .lss 13 (k (-1000000000000000))),oP 15 12 (kb true) 14,oM 16 15,gF 17 16 (.mv 1),gF 18 16 (.bin .gtr 17 (k 1000000000000000)),oP 19 16 (kb true) 18]
 (.cond 19 (Rg [oB 6 false]
 (Fr 6))
 .skip))
 (Rg [oT 21 2 3,oC 22 429 [21,(k 0)],oM 23 2,oM 24 1,oC 25 432 [22,23,24],oM 20 25,oE 26 20 0,oE 27 20 1,oM 7 26,oM 8 27]
 (Rg [oM 28 8,oM 29 28,gT 30 29 (.mv 7),gT 31 29 (.len 30),gT 32 29 (.bin .eql 31 (k 0)),oP 33 29 32 (kb false),oM 6 33]
 (Fr 6)))))⟩
def Ymu(lo:Lo):FnE:=Zfe 411 true (Zsg [0,1,2] [.ag [.l (cs [I]),.l Zc1],.j,.l Zc3] []) .b [] (fun x=>q52 lo x.1 x.2.1 x.2.2.1 x.2.2.2:(List Int)×Zt0×Int×Zt4->Option Bool)
def fs53(lo:Lo):List FnE:=Ymu lo::fs52 lo
theorem YuL(h:GZ P fm fs52 lo)(t:Ti P fm 411 YuK):GZ P fm fs53 lo:=
  h.p (Ymu lo) .n t
def q53(lo:Lo):Option Bool:=
  YAZ (q0 lo) fun y0=>YAZ (q47 lo y0.1 y0.2 (10000:Int)) fun y158=>bif(decide (y158.2.2=(0:Int)))then(bif(decide (y158.2.1=(5:Int)))then(YAZ (q48 lo y158.1 ([(0:Int),(1:Int)])) fun y162=>bif y162 then(YAZ (q0 lo) fun y163=>YAZ (q49 lo) fun y164=>YAZ (q52 lo y163.1 y163.2 (5:Int) y164) fun y182=>bif y182 then(YAZ (q0 lo) fun y183=>YAZ (q49 lo) fun y184=>YAZ (q52 lo y183.1 y183.2 (6:Int) y184) fun y185=>bif(!y185)then(YAZ (q0 lo) fun y186=>YAZ (q52 lo y186.1 y186.2 (4:Int) ([((-1:Int),[((0:Int),(1:Int)),((1:Int),(2:Int)),((2:Int),(1:Int))])])) fun y187=>bif y187 then(YAZ (q0 lo) fun y188=>YAZ (q52 lo y188.1 y188.2 (5:Int) ([((-1:Int),[((0:Int),(1:Int)),((1:Int),(2:Int)),((2:Int),(1:Int))])])) fun y189=>some (!y189))else(some false))else(some false))else(some false))else(some false))else(some false))else(some false)
def YuM:VFn:=⟨true,50,[.t 0],
 (Rg [oB 0 false]
 (Rg [oC 6 420 [],oC 7 409 [6,(k 10000)],oM 5 7,oE 8 5 0,oE 9 5 1,oE 10 5 2,oM 1 8,oM 2 9,oM 3 10]
 (Rg [o 11 (.build [.i .i64 0,.i .i64 0] [(0,1,(k 0)),(1,1,(k 1))]),o 12 (.build [.i .i64 0,.i .i64 0] [(0,1,(k 1)),(1,1,(k 2))]),o 13 (.build [.i .i64 0,.i .i64 0] [(0,1,(k 2)),(1,1,(k 1))]),o 14 (.bsl (cs [I,I]) 3 [(0,11),(1,12),(2,13)]),o 15 (.build [.i .i64 0,.e (cs [I,I])] [(0,1,(k (-1))),(1,1,14)]),o 16 (.bsl Zc3 1 [(0,15)]),oM 4 16]
 (Rg [oM 17 3,oR 18 .eql 17 (k 0),oM 19 18,gT 20 19 (.mv 2),gT 21 19 (.bin .eql 20 (k 5)),oP 22 19 21 (kb false),oM 23 22,gT 24 23 (.mv 1),gT 25 23 (.bsl (cs [I]) 2 [(0,(k 0)),(1,(k 1))]),gT 26 23 (.call 421 [24,25]),oP 27 23 26 (kb false),oM 28 27,gT 29 28 (.call 420 []),gT 30 28 (.call 422 []),gT 31 28 (.call 411 [29,(k 5),30]),oP 32 28 31 (kb false),oM 33 32,gT 34 33 (.call 420 []),gT 35 33 (.call 422 []),gT 36 33 (.call 411 [34,(k 6),35]),gT 37 33 (.not 36),oP 38 33 37 (kb false),oM 39 38,gT 40 39 (.call 420 []),gT 41 39 (.mv 4),gT 42 39 (.call 411 [40,(k 4),41]),oP 43 39 42 (kb false),oM 44 43,gT 45 44 (.call 420 []),gT 46 44 (.mv 4),gT 47 44 (.call 411 [45,(k 5),46]),gT 48 44 (.not 47),oP 49 44 48 (kb false),oM 0 49]
 (Fr 0)))))⟩
def Ymv(lo:Lo):FnE:=Zfe 400 true (Zsg [] [] []) .b [] (fun x=>q53 lo:Unit->Option Bool)
def fs54(lo:Lo):List FnE:=Ymv lo::fs53 lo
theorem YuN(h:GZ P fm fs53 lo)(t:Ti P fm 400 YuM):GZ P fm fs54 lo:=
  h.p (Ymv lo) .n t
def q54_L22_b:VCode:=
 (.seq (Rg [oM 18 3,oF 19 0 1,oL 20 19,oN 21 20,oR 22 .lss 18 21]
 (Ce 22 0))
 (.seq (.blk 1 (Rg [oF 25 0 1,oL 26 25,oM 27 3,oI 28 1 26 27,oL 29 28,oR 30 .lss 29 (k 1),oM 31 30,gF 32 31 (.fad 0 1),gF 33 31 (.load false 1 32),gF 34 31 (.mv 3),gF 35 31 (.iad 1 33 34),gF 36 31 (.load false 1 35),gF 37 31 (.bin .gtr 36 (k 1000000)),oP 38 31 (kb true) 37]
 (.cond 38 (Rg [oK 2 1]
 (Fr 2))
 .skip)))
 (.reg [oM 23 3,oR 24 .add 23 (k 1),oM 3 24])))
def Ydt(lo:Lo):Int× (List Int)×Zt0->Option ((Int× (List Int)×Zt0)⊕ (Int⊕ ((List Int)×Zt0))):=fun x=>match x with
  | (i3,in1_0,in1_1)=>bif(decide (i3< (in1_0.length:Int)))then(chk (0<=i3/\i3< (in1_0.length:Int)) (bif(decide ((in1_0.getD i3.toNat (0:Int))< (1:Int)))then(some (.inr (.inl (1:Int))))else(chk (0<=i3/\i3< (in1_0.length:Int)) (bif(decide ((1000000:Int)< (in1_0.getD i3.toNat (0:Int))))then(some (.inr (.inl (1:Int))))else(some (.inl ((YBh .i64 (i3+1)),in1_0,in1_1)))))))else(some (.inr (.inr (in1_0,in1_1))))
def YgF(lo:Lo):Int× (List Int)×Zt0->Option (Int⊕ ((List Int)×Zt0)):=lo.run (Ydt lo)
def YuO(lo:Lo):LpE:=⟨22,[],(Zsg [1,3] [.ptr 0 0 0,.j] [.st [.l (cs [I]),.l Zc1]]),[⟨.ret,(Zsg [2] [.j] [])⟩,⟨.exit 0,(Zsg [1] [.ptr 0 0 0] [.st [.l (cs [I]),.l Zc1]])⟩],YgF lo⟩
def Ymw(lo:Lo):LL:=(YuO lo,.loop q54_L22_b.er)::[]
theorem YuP(lo:Lo):Lk lo pf (fs54 lo) 0 (Ymw lo):=.l .n (Ydt lo)
def q54_L8_b:VCode:=
 (.seq (Rg [oM 46 6,oF 47 1 1,oL 48 47,oM 49 4,oI 50 1 48 49,oL 51 50,oN 52 51,oR 53 .lss 46 52]
 (Ce 53 4))
 (.seq (.blk 5 (Rg [oF 56 1 1,oL 57 56,oM 58 4,oI 59 1 57 58,oL 60 59,oM 61 6,oI 62 1 60 61,oL 63 62,oM 7 63]
 (.seq (Rg [oM 64 7,oM 65 5,oR 66 .leq 64 65,oM 67 66,gF 68 67 (.mv 7),gF 69 67 (.fad 0 1),gF 70 67 (.load false 1 69),gF 71 67 (.len 70),gF 72 67 (.bin .geq 68 71),oP 73 67 (kb true) 72]
 (.cond 73 (Rg [oK 2 1]
 (Fr 2))
 .skip))
 (.reg [oM 74 7,oM 5 74]))))
 (.reg [oM 54 6,oR 55 .add 54 (k 1),oM 6 55])))
def Ydu(lo:Lo):Int×Int×Int× (List Int)×Zt0->Option ((Int×Int×Int× (List Int)×Zt0)⊕ (Int⊕ (Int×Int× (List Int)×Zt0))):=fun x=>match x with
  | (i4,before5,k6,in1_0,in1_1)=>chk (0<=i4/\i4< (in1_1.length:Int)) (bif(decide (k6< ((in1_1.getD i4.toNat []).length:Int)))then(chk (0<=i4/\i4< (in1_1.length:Int)) (chk (0<=k6/\k6< ((in1_1.getD i4.toNat []).length:Int)) (bif(decide (((in1_1.getD i4.toNat []).getD k6.toNat (0:Int))<=before5))then(some (.inr (.inl (1:Int))))else(bif(decide ((in1_0.length:Int)<=((in1_1.getD i4.toNat []).getD k6.toNat (0:Int))))then(some (.inr (.inl (1:Int))))else(some (.inl (i4,((in1_1.getD i4.toNat []).getD k6.toNat (0:Int)),(YBh .i64 (k6+1)),in1_0,in1_1)))))))else(some (.inr (.inr (i4,before5,in1_0,in1_1)))))
def YgG(lo:Lo):Int×Int×Int× (List Int)×Zt0->Option (Int⊕ (Int×Int× (List Int)×Zt0)):=lo.run (Ydu lo)
def YuQ(lo:Lo):LpE:=⟨8,[],(Zsg [1,4,5,6] [.ptr 0 0 0,.j,.j,.j] [.st [.l (cs [I]),.l Zc1]]),[⟨.ret,(Zsg [2] [.j] [])⟩,⟨.exit 4,(Zsg [1,4,5] [.ptr 0 0 0,.j,.j] [.st [.l (cs [I]),.l Zc1]])⟩],YgG lo⟩
def Ymx(lo:Lo):LL:=(YuQ lo,.loop q54_L8_b.er)::Ymw lo
theorem YuR(lo:Lo):Lk lo pf (fs54 lo) 0 (Ymx lo):=.l (YuP lo) (Ydu lo)
def q54_L3_b:VCode:=
 (.seq (Rg [oM 39 4,oF 40 1 1,oL 41 40,oN 42 41,oR 43 .lss 39 42]
 (Ce 43 2))
 (.seq (.blk 3 (Rg [oK 5 (-1)]
 (.seq (Rg [oK 6 0]
 (.blk 4 (.loop 8 q54_L8_b)))
 (Rg [oM 75 5,oR 76 .lss 75 (k 0)]
 (.cond 76 (Rg [oK 2 1]
 (Fr 2))
 .skip)))))
 (.reg [oM 44 4,oR 45 .add 44 (k 1),oM 4 45])))
def Ydv(lo:Lo):Int× (List Int)×Zt0->Option ((Int× (List Int)×Zt0)⊕ (Int⊕Unit)):=fun x=>match x with
  | (i4,in1_0,in1_1)=>bif(decide (i4< (in1_1.length:Int)))then(YAZ (YgG lo (i4,(-1:Int),(0:Int),in1_0,in1_1)) fun y198=>alt2 y198 (fun y199=>some (.inr (.inl y199))) (fun y200=>bif(decide (y200.2.1< (0:Int)))then(some (.inr (.inl (1:Int))))else(some (.inl ((YBh .i64 (y200.1+(1:Int))),y200.2.2.1,y200.2.2.2)))))else(some (.inr (.inr ())))
def YgH(lo:Lo):Int× (List Int)×Zt0->Option (Int⊕Unit):=lo.run (Ydv lo)
def YuS(lo:Lo):LpE:=⟨3,[],(Zsg [1,4] [.ptr 0 0 0,.j] [.st [.l (cs [I]),.l Zc1]]),[⟨.ret,(Zsg [2] [.j] [])⟩,⟨.exit 2,(Zsg [] [] [])⟩],YgH lo⟩
def YuT(lo:Lo):LL:=(YuS lo,.loop q54_L3_b.er)::Ymx lo
theorem YuU(lo:Lo):Lk lo pf (fs54 lo) 0 (YuT lo):=.l (YuR lo) (Ydv lo)
def q54(lo:Lo)(in0_0:List Int)(in0_1:List ((List Int))):Option Int:=
  bif(decide ((200:Int)< (in0_0.length:Int)))then(some (3:Int))else(bif(decide ((2000:Int)< (in0_1.length:Int)))then(some (3:Int))else(YAZ (YgF lo ((0:Int),in0_0,in0_1)) fun y195=>alt2 y195 (fun y196=>some y196) (fun y197=>YAZ (YgH lo ((0:Int),y197.1,y197.2)) fun y201=>alt2 y201 (fun y202=>some y202) (fun y203=>some (0:Int)))))
def YuV:VFn:=⟨true,77,[.t 2],
 (Rg [oG 1 0,oK 2 0]
 (.seq (Rg [oF 8 0 1,oL 9 8,oN 10 9,oR 11 .gtr 10 (k 200),oM 12 11,gF 13 12 (.fad 1 1),gF 14 12 (.load false 1 13),gF 15 12 (.len 14),gF 16 12 (.bin .gtr 15 (k 2000)),oP 17 12 (kb true) 16]
 (.cond 17 (Rg [oK 2 3]
 (Fr 2))
 .skip))
 (.seq (Rg [oK 3 0]
 (.blk 0 (.loop 22 q54_L22_b)))
 (.seq (Rg [oK 4 0]
 (.blk 2 (.loop 3 q54_L3_b)))
 (Rg [oK 2 0]
 (Fr 2))))))⟩
def Ymy(lo:Lo):FnE:=Zfe 402 true (Zsg [0] [.ag [.l (cs [I]),.l Zc1]] []) (.i .i64) [] (fun x=>q54 lo x.1 x.2:(List Int)×Zt0->Option Int)
def fs55(lo:Lo):List FnE:=Ymy lo::fs54 lo
theorem YuW(h:GZ P fm fs54 lo)(t:Ti P fm 402 YuV):GZ P fm fs55 lo:=
  h.p (Ymy lo) (YuU lo) t
def fs56(lo:Lo):List FnE:=fs55 lo
def q56_L3_b:VCode:=
 (.seq (Rg [oM 7 6,oM 8 1,oR 9 .lss 7 8]
 (Ce 9 0))
 (.seq (.blk 1 (Rg [oM 12 0,oM 13 6,oR 14 .shr 12 13,oR 15 .and 14 (k 1),oR 16 .eql 15 (k 1)]
 (.cond 16 (.reg [oM 17 5,oM 18 6,o 19 (.bsl (cs [I]) 1 [(0,18)]),o 20 (.app (cs [I]) 0 17 19),oM 5 20])
 .skip)))
 (.reg [oM 10 6,oR 11 .add 10 (k 1),oM 6 11])))
def Ydw(lo:Lo):Int×Int×Int× (List Int)->Option ((Int×Int×Int× (List Int))⊕ (((List Int)))):=fun x=>match x with
  | (bits0,n1,i6,out5)=>bif(decide (i6<n1))then(chk (0<=i6) (bif(decide ((bits .and .i64 (bits0.fdiv (2^(min i6.toNat (IntKind.bits .i64)))) (1:Int))=(1:Int)))then(chk (out5.length+[i6].length<=maxEl) (some (.inl (bits0,n1,(YBh .i64 (i6+1)),(out5++[i6])))))else(some (.inl (bits0,n1,(YBh .i64 (i6+1)),out5)))))else(some (.inr out5))
def YgI(lo:Lo):Int×Int×Int× (List Int)->Option (((List Int))):=lo.run (Ydw lo)
def YuX(lo:Lo):LpE:=⟨3,[(5,none,false)],(Zsg [0,1,5,6] [.j,.j,.ref 0,.j] [.sq (cs [I])]),[⟨.exit 0,(Zsg [5] [.ref 0] [.sq (cs [I])])⟩],YgI lo⟩
def YuY(lo:Lo):LL:=(YuX lo,.loop q56_L3_b.er)::[]
theorem YuZ(lo:Lo):Lk lo pf (fs56 lo) 0 (YuY lo):=.l .n (Ydw lo)
def q56(lo:Lo)(bits0:Int)(n1:Int):Option ((List Int)):=
  YAZ (YgI lo (bits0,n1,(0:Int),[])) fun y206=>some y206
def Yu0:VFn:=⟨true,22,[.t 4],
 (Rg [o 4 (.mv (ke (cs [I])))]
 (Rg [o 5 (.mv (ke (cs [I])))]
 (.seq (Rg [oK 6 0]
 (.blk 0 (.loop 3 q56_L3_b)))
 (Rg [oM 21 5,oM 4 21]
 (Fr 4)))))⟩
def Ymz(lo:Lo):FnE:=Zfe 423 true (Zsg [0,1] [.j,.j] []) (.l (cs [I])) [] (fun x=>q56 lo x.1 x.2:Int×Int->Option ((List Int)))
def fs57(lo:Lo):List FnE:=Ymz lo::fs56 lo
theorem Yu1(h:GZ P fm fs56 lo)(t:Ti P fm 423 Yu0):GZ P fm fs57 lo:=
  h.p (Ymz lo) (YuZ lo) t
end Go.Abs.G39
namespace Go.Abs.G39
open Go Go.Abs
set_option maxRecDepth 100000
set_option maxHeartbeats 1000000
variable{P:Program}{fm:FM}{lo:Lo}
def q57_L11_b:VCode:=
 (.seq (Rg [oM 19 5,oF 20 0 1,oL 21 20,oN 22 21,oR 23 .lss 19 22]
 (Ce 23 0))
 (.seq (.blk 1 (.reg [oF 26 0 4,oL 27 26,oF 28 0 1,oL 29 28,oM 30 5,oI 31 1 29 30,oL 32 31,oR 33 .rem 32 (ki .u8 20),o 34 (.conv .i64 33),oR 35 .add (k 1) 34,o 36 (.bsl (cs [I]) 1 [(0,35)]),o 37 (.app (cs [I]) 0 27 36),oF 38 0 4,oS 1 38 37]))
 (.reg [oM 24 5,oR 25 .add 24 (k 1),oM 5 25])))
def Ydx(lo:Lo):Zp16->Option (Zp16⊕ (((List Int)× (List Int)× (List Int)×Zt0× (List Int)×Zt0))):=fun x=>match x with
  | (i5,d1_0,d1_1,v2_0,v2_1,h3,h4)=>bif(decide (i5< (d1_0.length:Int)))then(chk (0<=i5/\i5< (d1_0.length:Int)) (chk ((20:Int)≠0) (chk (h3.length+([(YBh .i64 ((1:Int)+(YBh .i64 ((d1_0.getD i5.toNat (0:Int)).tmod (20:Int)))))]).length<=maxEl) (some (.inl ((YBh .i64 (i5+1)),d1_0,d1_1,v2_0,v2_1,(h3++([(YBh .i64 ((1:Int)+(YBh .i64 ((d1_0.getD i5.toNat (0:Int)).tmod (20:Int)))))])),h4))))))else(some (.inr (d1_0,d1_1,v2_0,v2_1,h3,h4)))
def YgJ(lo:Lo):Zp16->Option (((List Int)× (List Int)× (List Int)×Zt0× (List Int)×Zt0)):=lo.run (Ydx lo)
def Yu2(lo:Lo):LpE:=⟨11,[(4,some 0,false),(4,some 1,false)],(Zsg [1,2,4,5] [.ptr 0 0 0,.ptr 1 0 0,.ptr 2 0 0,.j] [.st [.l (cs [.i .u8]),.l (cs [.i .u16])],.st [.l (cs [I]),.l Zc1],.st [.ref 3,.ref 4],.sq (cs [I]),.sq Zc1]),[⟨.exit 0,(Zsg [1,2,4] [.ptr 0 0 0,.ptr 1 0 0,.ptr 2 0 0] [.st [.l (cs [.i .u8]),.l (cs [.i .u16])],.st [.l (cs [I]),.l Zc1],.st [.ref 3,.ref 4],.sq (cs [I]),.sq Zc1])⟩],YgJ lo⟩
def YmA(lo:Lo):LL:=(Yu2 lo,.loop q57_L11_b.er)::[]
theorem Yu3(lo:Lo):Lk lo pf (fs57 lo) 0 (YmA lo):=.l .n (Ydx lo)
def q57_L3_b:VCode:=
 (.seq (Rg [oM 39 6,oF 40 1 1,oL 41 40,oN 42 41,oR 43 .lss 39 42]
 (Ce 43 2))
 (.seq (.blk 3 (Rg [oF 46 1 1,oL 47 46,oM 48 6,oI 49 1 47 48,oL 50 49,o 51 (.conv .i64 50),oF 52 0 1,oL 53 52,oN 54 53,oC 55 423 [51,54],oM 7 55]
 (Rg [oM 56 7,oN 57 56,oR 58 .gtr 57 (k 0)]
 (.cond 58 (.reg [oF 59 1 4,oL 60 59,oM 61 7,o 62 (.bsl Zc1 1 [(0,61)]),o 63 (.app Zc1 0 60 62),oF 64 1 4,oS 1 64 63])
 .skip))))
 (.reg [oM 44 6,oR 45 .add 44 (k 1),oM 6 45])))
def Ydy(lo:Lo):Zp16->Option (Zp16⊕ (((List Int)×Zt0× (List Int)×Zt0))):=fun x=>match x with
  | (i6,d1_0,d1_1,v2_0,v2_1,h3,h4)=>bif(decide (i6< (d1_1.length:Int)))then(chk (0<=i6/\i6< (d1_1.length:Int)) (YAZ (q56 lo (YBh .i64 (d1_1.getD i6.toNat (0:Int))) (d1_0.length:Int)) fun y207=>bif(decide ((0:Int)< (y207.length:Int)))then(chk (h4.length+[y207].length<=maxEl) (some (.inl ((YBh .i64 (i6+1)),d1_0,d1_1,v2_0,v2_1,h3,(h4++[y207])))))else(some (.inl ((YBh .i64 (i6+1)),d1_0,d1_1,v2_0,v2_1,h3,h4)))))else(some (.inr (v2_0,v2_1,h3,h4)))
def YgK(lo:Lo):Zp16->Option (((List Int)×Zt0× (List Int)×Zt0)):=lo.run (Ydy lo)
def Yu4(lo:Lo):LpE:=⟨3,[(4,some 0,false),(4,some 1,false)],(Zsg [1,2,4,6] [.ptr 0 0 0,.ptr 1 0 0,.ptr 2 0 0,.j] [.st [.l (cs [.i .u8]),.l (cs [.i .u16])],.st [.l (cs [I]),.l Zc1],.st [.ref 3,.ref 4],.sq (cs [I]),.sq Zc1]),[⟨.exit 2,(Zsg [2,4] [.ptr 0 0 0,.ptr 1 0 0] [.st [.l (cs [I]),.l Zc1],.st [.ref 2,.ref 3],.sq (cs [I]),.sq Zc1])⟩],YgK lo⟩
def Yu5(lo:Lo):LL:=(Yu4 lo,.loop q57_L3_b.er)::YmA lo
theorem Yu6(lo:Lo):Lk lo pf (fs57 lo) 0 (Yu5 lo):=.l (Yu3 lo) (Ydy lo)
def q57(lo:Lo)(d0_0:List Int)(d0_1:List Int):Option ((List Int)×Zt0×Bool):=
  bif(decide ((8:Int)< (d0_0.length:Int)))then(some (([]:List Int),([]:List ((List Int))),false))else(bif(decide ((12:Int)< (d0_1.length:Int)))then(some (([]:List Int),([]:List ((List Int))),false))else(YAZ (YgJ lo ((0:Int),d0_0,d0_1,([]:List Int),([]:List ((List Int))),[],[])) fun y205=>YAZ (YgK lo ((0:Int),y205.1,y205.2.1,y205.2.2.1,y205.2.2.2.1,y205.2.2.2.2.1,y205.2.2.2.2.2)) fun y208=>some (y208.2.2.1,y208.2.2.2,true)))
def Yu7:VFn:=⟨true,66,[.c 2 true 2,.t 3],
 (Rg [oG 1 0,o 2 (.alloc [.e (cs [I]),.e Zc1]),oB 3 false]
 (.seq (Rg [oF 8 0 1,oL 9 8,oN 10 9,oR 11 .gtr 10 (k 8),oM 12 11,gF 13 12 (.fad 1 1),gF 14 12 (.load false 1 13),gF 15 12 (.len 14),gF 16 12 (.bin .gtr 15 (k 12)),oP 17 12 (kb true) 16]
 (.cond 17 (Rg [o 18 (.build [.e (cs [I]),.e Zc1] []),oS 2 2 18,oB 3 false]
 (.fz [2,3] .ret))
 .skip))
 (Rg [o 4 (.alloc [.e (cs [I]),.e Zc1])]
 (.seq (Rg [oK 5 0]
 (.blk 0 (.loop 11 q57_L11_b)))
 (.seq (Rg [oK 6 0]
 (.blk 2 (.loop 3 q57_L3_b)))
 (Rg [oT 65 2 4,oS 2 2 65,oB 3 true]
 (.fz [2,3] .ret)))))))⟩
def YmB(lo:Lo):FnE:=Zfe 403 true (Zsg [0] [.ag [.l (cs [.i .u8]),.l (cs [.i .u16])]] []) (.tp [.ag [.l (cs [I]),.l Zc1],.b]) [] (fun x=>q57 lo x.1 x.2:(List Int)× (List Int)->Option ((List Int)×Zt0×Bool))
def fs58(lo:Lo):List FnE:=YmB lo::fs57 lo
theorem Yu8(h:GZ P fm fs57 lo)(t:Ti P fm 403 Yu7):GZ P fm fs58 lo:=
  h.p (YmB lo) (Yu6 lo) t
def q58_L3_b:VCode:=
 (.seq (Rg [oM 6 5,oM 7 0,oN 8 7,oR 9 .lss 6 8]
 (Ce 9 0))
 (.seq (.blk 1 (Rg [oM 12 0,oM 13 5,oI 14 1 12 13,oL 15 14,oM 16 1,oR 17 .eql 15 16]
 (.cond 17 (Rg [oB 4 true]
 (Fr 4))
 .skip)))
 (.reg [oM 10 5,oR 11 .add 10 (k 1),oM 5 11])))
def Ydz(lo:Lo):(List Int)×Int×Int->Option (((List Int)×Int×Int)⊕ (Bool⊕Unit)):=fun x=>match x with
  | (l0,n1,i5)=>bif(decide (i5< (l0.length:Int)))then(chk (0<=i5/\i5< (l0.length:Int)) (bif(decide ((l0.getD i5.toNat (0:Int))=n1))then(some (.inr (.inl true)))else(some (.inl (l0,n1,(YBh .i64 (i5+1)))))))else(some (.inr (.inr ())))
def YgL(lo:Lo):(List Int)×Int×Int->Option (Bool⊕Unit):=lo.run (Ydz lo)
def Yu9(lo:Lo):LpE:=⟨3,[],(Zsg [0,1,5] [.l (cs [I]),.j,.j] []),[⟨.ret,(Zsg [4] [.b] [])⟩,⟨.exit 0,(Zsg [] [] [])⟩],YgL lo⟩
def Yva(lo:Lo):LL:=(Yu9 lo,.loop q58_L3_b.er)::[]
theorem Yvb(lo:Lo):Lk lo pf (fs58 lo) 0 (Yva lo):=.l .n (Ydz lo)
def q58(lo:Lo)(l0:List Int)(n1:Int):Option Bool:=
  YAZ (YgL lo (l0,n1,(0:Int))) fun y215=>alt2 y215 (fun y216=>some y216) (fun y217=>some false)
def Yvc:VFn:=⟨true,18,[.t 4],
 (Rg [oB 4 false]
 (.seq (Rg [oK 5 0]
 (.blk 0 (.loop 3 q58_L3_b)))
 (Rg [oB 4 false]
 (Fr 4))))⟩
def YmC(lo:Lo):FnE:=Zfe 428 true (Zsg [0,1] [.l (cs [I]),.j] []) .b [] (fun x=>q58 lo x.1 x.2:(List Int)×Int->Option Bool)
def fs59(lo:Lo):List FnE:=YmC lo::fs58 lo
theorem Yvd(h:GZ P fm fs58 lo)(t:Ti P fm 428 Yvc):GZ P fm fs59 lo:=
  h.p (YmC lo) (Yvb lo) t
def q59_L3_b:VCode:=
 (.seq (Rg [oM 14 8,oM 15 1,oN 16 15,oR 17 .lss 14 16]
 (Ce 17 0))
 (.seq (.blk 1 (.seq (Rg [oM 20 1,oM 21 8,oI 22 1 20 21,oL 23 22,oR 24 .lss 23 (k 0),oM 25 24,gF 26 25 (.mv 1),gF 27 25 (.mv 8),gF 28 25 (.iad 1 26 27),gF 29 25 (.load false 1 28),gF 30 25 (.fad 0 2),gF 31 25 (.load false 1 30),gF 32 25 (.len 31),gF 33 25 (.bin .geq 29 32),oP 34 25 (kb true) 33,oM 35 34,gF 36 35 (.mv 1),gF 37 35 (.mv 8),gF 38 35 (.slcR 1 36 none (some 37)),gF 39 35 (.mv 1),gF 40 35 (.mv 8),gF 41 35 (.iad 1 39 40),gF 42 35 (.load false 1 41),gF 43 35 (.call 428 [38,42]),oP 44 35 (kb true) 43]
 (.cond 44 (Rg [oK 4 0,oK 5 1]
 (.fz [4,5] .ret))
 .skip))
 (.reg [oM 45 7,oF 46 0 2,oL 47 46,oM 48 1,oM 49 8,oI 50 1 48 49,oL 51 50,oI 52 1 47 51,oL 53 52,oR 54 .add 45 53,oM 7 54])))
 (.reg [oM 18 8,oR 19 .add 18 (k 1),oM 8 19])))
def YdA(lo:Lo):Zp35->Option (Zp35⊕ ((Int×Int)⊕Int)):=fun x=>match x with
  | (l1,sum7,i8,in2_0,in2_1)=>bif(decide (i8< (l1.length:Int)))then(chk (0<=i8/\i8< (l1.length:Int)) (bif(decide ((l1.getD i8.toNat (0:Int))< (0:Int)))then(some (.inr (.inl ((0:Int),(1:Int)))))else(chk (0<=i8/\i8< (l1.length:Int)) (bif(decide ((in2_0.length:Int)<=(l1.getD i8.toNat (0:Int))))then(some (.inr (.inl ((0:Int),(1:Int)))))else(chk (0<=(0:Int)/\0<=i8/\i8<=(l1.length:Int)) (chk (0<=i8/\i8< (l1.length:Int)) (YAZ (q58 lo ((l1.take i8.toNat).drop 0) (l1.getD i8.toNat (0:Int))) fun y218=>bif y218 then(some (.inr (.inl ((0:Int),(1:Int)))))else(chk (0<=i8/\i8< (l1.length:Int)) (chk (0<=(l1.getD i8.toNat (0:Int))/\ (l1.getD i8.toNat (0:Int))< (in2_0.length:Int)) (some (.inl (l1,(YBh .i64 (sum7+(in2_0.getD ((l1.getD i8.toNat (0:Int)).toNat) (0:Int)))),(YBh .i64 (i8+1)),in2_0,in2_1))))))))))))else(some (.inr (.inr sum7)))
def YgM(lo:Lo):Zp35->Option ((Int×Int)⊕Int):=lo.run (YdA lo)
def Yve(lo:Lo):LpE:=⟨3,[],(Zsg [1,2,7,8] [.l (cs [I]),.ptr 0 0 0,.j,.j] [.st [.l (cs [I]),.l Zc1]]),[⟨.ret,(Zsg [4,5] [.j,.j] [])⟩,⟨.exit 0,(Zsg [7] [.j] [])⟩],YgM lo⟩
def Yvf(lo:Lo):LL:=(Yve lo,.loop q59_L3_b.er)::[]
theorem Yvg(lo:Lo):Lk lo pf (fs59 lo) 0 (Yvf lo):=.l .n (YdA lo)
def q59(lo:Lo)(in0_0:List Int)(in0_1:List ((List Int)))(l1:List Int):Option (Int×Int):=
  YAZ (q54 lo in0_0 in0_1) fun y214=>bif(!decide (y214=0))then(some ((0:Int),y214))else(YAZ (YgM lo (l1,(0:Int),(0:Int),in0_0,in0_1)) fun y219=>alt2 y219 (fun y220=>some (y220.1,y220.2)) (fun y221=>some (y221,(0:Int))))
def Yvh:VFn:=⟨true,56,[.t 4,.t 5],
 (Rg [oG 2 0,oK 4 0,oK 5 0]
 (.seq (Rg [oT 9 2 2,oC 10 402 [9],oM 6 10]
 (Rg [oM 11 6,oR 12 .neq 11 (k 0)]
 (.cond 12 (Rg [oM 13 6,oK 4 0,oM 5 13]
 (.fz [4,5] .ret))
 .skip)))
 (Rg [oK 7 0]
 (.seq (Rg [oK 8 0]
 (.blk 0 (.loop 3 q59_L3_b)))
 (Rg [oM 55 7,oM 4 55,oK 5 0]
 (.fz [4,5] .ret))))))⟩
def YmD(lo:Lo):FnE:=Zfe 405 true (Zsg [0,1] [.ag [.l (cs [I]),.l Zc1],.l (cs [I])] []) (.tp [.j,.j]) [] (fun x=>q59 lo x.1 x.2.1 x.2.2:(List Int)×Zt0× (List Int)->Option (Int×Int))
def fs60(lo:Lo):List FnE:=YmD lo::fs59 lo
theorem Yvi(h:GZ P fm fs59 lo)(t:Ti P fm 405 Yvh):GZ P fm fs60 lo:=
  h.p (YmD lo) (Yvg lo) t
def fs61(lo:Lo):List FnE:=fs60 lo
def q61_L3_b:VCode:=
 (.seq (Rg [oM 6 5,oM 7 0,oN 8 7,oR 9 .lss 6 8]
 (Ce 9 0))
 (.seq (.blk 1 (Rg [oM 12 1,oM 13 0,oM 14 5,oI 15 1 13 14,oL 16 15,oC 17 428 [12,16]]
 (.cond 17 (Rg [oB 4 true]
 (Fr 4))
 .skip)))
 (.reg [oM 10 5,oR 11 .add 10 (k 1),oM 5 11])))
def YdB(lo:Lo):(List Int)× (List Int)×Int->Option (((List Int)× (List Int)×Int)⊕ (Bool⊕Unit)):=fun x=>match x with
  | (a0,b1,i5)=>bif(decide (i5< (a0.length:Int)))then(chk (0<=i5/\i5< (a0.length:Int)) (YAZ (q58 lo b1 (a0.getD i5.toNat (0:Int))) fun y227=>bif y227 then(some (.inr (.inl true)))else(some (.inl (a0,b1,(YBh .i64 (i5+1)))))))else(some (.inr (.inr ())))
def YgN(lo:Lo):(List Int)× (List Int)×Int->Option (Bool⊕Unit):=lo.run (YdB lo)
def Yvj(lo:Lo):LpE:=⟨3,[],(Zsg [0,1,5] [.l (cs [I]),.l (cs [I]),.j] []),[⟨.ret,(Zsg [4] [.b] [])⟩,⟨.exit 0,(Zsg [] [] [])⟩],YgN lo⟩
def Yvk(lo:Lo):LL:=(Yvj lo,.loop q61_L3_b.er)::[]
theorem Yvl(lo:Lo):Lk lo pf (fs61 lo) 0 (Yvk lo):=.l .n (YdB lo)
def q61(lo:Lo)(a0:List Int)(b1:List Int):Option Bool:=
  YAZ (YgN lo (a0,b1,(0:Int))) fun y228=>alt2 y228 (fun y229=>some y229) (fun y230=>some false)
def Yvm:VFn:=⟨true,18,[.t 4],
 (Rg [oB 4 false]
 (.seq (Rg [oK 5 0]
 (.blk 0 (.loop 3 q61_L3_b)))
 (Rg [oB 4 false]
 (Fr 4))))⟩
def YmE(lo:Lo):FnE:=Zfe 431 true (Zsg [0,1] [.l (cs [I]),.l (cs [I])] []) .b [] (fun x=>q61 lo x.1 x.2:(List Int)× (List Int)->Option Bool)
def fs62(lo:Lo):List FnE:=YmE lo::fs61 lo
theorem Yvn(h:GZ P fm fs61 lo)(t:Ti P fm 431 Yvm):GZ P fm fs62 lo:=
  h.p (YmE lo) (Yvl lo) t
def q62_L3_b:VCode:=
 (.seq (Rg [oM 6 5,oF 7 1 2,oL 8 7,oN 9 8,oR 10 .lss 6 9]
 (Ce 10 0))
 (.seq (.blk 1 (Rg [oF 13 1 2,oL 14 13,oM 15 5,oI 16 1 14 15,oL 17 16,oM 18 1,oC 19 431 [17,18],oX 20 19]
 (.cond 20 (Rg [oB 4 false]
 (Fr 4))
 .skip)))
 (.reg [oM 11 5,oR 12 .add 11 (k 1),oM 5 12])))
def YdC(lo:Lo):(List Int)×Int× (List Int)×Zt0->Option (((List Int)×Int× (List Int)×Zt0)⊕ (Bool⊕Unit)):=fun x=>match x with
  | (l1,i5,in2_0,in2_1)=>bif(decide (i5< (in2_1.length:Int)))then(chk (0<=i5/\i5< (in2_1.length:Int)) (YAZ (q61 lo (in2_1.getD i5.toNat []) l1) fun y231=>bif(!y231)then(some (.inr (.inl false)))else(some (.inl (l1,(YBh .i64 (i5+1)),in2_0,in2_1)))))else(some (.inr (.inr ())))
def YgO(lo:Lo):(List Int)×Int× (List Int)×Zt0->Option (Bool⊕Unit):=lo.run (YdC lo)
def Yvo(lo:Lo):LpE:=⟨3,[],(Zsg [1,2,5] [.l (cs [I]),.ptr 0 0 0,.j] [.st [.l (cs [I]),.l Zc1]]),[⟨.ret,(Zsg [4] [.b] [])⟩,⟨.exit 0,(Zsg [] [] [])⟩],YgO lo⟩
def Yvp(lo:Lo):LL:=(Yvo lo,.loop q62_L3_b.er)::[]
theorem Yvq(lo:Lo):Lk lo pf (fs62 lo) 0 (Yvp lo):=.l .n (YdC lo)
def q62(lo:Lo)(in0_0:List Int)(in0_1:List ((List Int)))(l1:List Int):Option Bool:=
  YAZ (YgO lo (l1,(0:Int),in0_0,in0_1)) fun y232=>alt2 y232 (fun y233=>some y233) (fun y234=>some true)
def Yvr:VFn:=⟨true,21,[.t 4],
 (Rg [oG 2 0,oB 4 false]
 (.seq (Rg [oK 5 0]
 (.blk 0 (.loop 3 q62_L3_b)))
 (Rg [oB 4 true]
 (Fr 4))))⟩
def YmF(lo:Lo):FnE:=Zfe 410 true (Zsg [0,1] [.ag [.l (cs [I]),.l Zc1],.l (cs [I])] []) .b [] (fun x=>q62 lo x.1 x.2.1 x.2.2:(List Int)×Zt0× (List Int)->Option Bool)
def fs63(lo:Lo):List FnE:=YmF lo::fs62 lo
theorem Yvs(h:GZ P fm fs62 lo)(t:Ti P fm 410 Yvr):GZ P fm fs63 lo:=
  h.p (YmF lo) (Yvq lo) t
def fs64(lo:Lo):List FnE:=fs63 lo
def q64_L3_b:VCode:=
 (.seq (Rg [oM 8 4,oF 9 0 1,oL 10 9,oN 11 10,oR 12 .shl (k 1) 11,oR 13 .lss 8 12]
 (Ce 13 0))
 (.seq (.blk 1 (Rg [oM 16 4,oF 17 0 1,oL 18 17,oN 19 18,oC 20 423 [16,19],oM 5 20]
 (Rg [oT 22 2 1,oM 23 5,oC 24 405 [22,23],oM 21 24,oE 25 21 0,oE 26 21 1,oM 6 25,oM 7 26]
 (Rg [oT 27 2 1,oM 28 5,oC 29 410 [27,28],oM 30 29,gT 31 30 (.mv 3),gT 32 30 (.bin .lss 31 (k 0)),gT 33 30 (.mv 32),gF 34 33 (.mv 6),gF 35 33 (.mv 3),gF 36 33 (.bin .lss 34 35),gT 37 30 (.pick 33 (kb true) 36),oP 38 30 37 (kb false)]
 (.cond 38 (.reg [oM 39 6,oM 3 39])
 .skip)))))
 (.reg [oM 14 4,oR 15 .add 14 (k 1),oM 4 15])))
def YbY(lo:Lo):Int×Int× (List Int)×Zt0->Option ((Int×Int× (List Int)×Zt0)⊕Int):=fun x=>match x with
  | (least3,bits4,in1_0,in1_1)=>chk (0<=(in1_0.length:Int)) (bif(decide (bits4< (YBh .i64 ((1:Int)*2^(min (in1_0.length:Int).toNat (IntKind.bits .i64))))))then(YAZ (q56 lo bits4 (in1_0.length:Int)) fun y241=>YAZ (q59 lo in1_0 in1_1 y241) fun y242=>YAZ (q62 lo in1_0 in1_1 y241) fun y243=>bif y243 then(bif(decide (least3<0))then(some (.inl (y242.1,(YBh .i64 (bits4+1)),in1_0,in1_1)))else(bif(decide (y242.1<least3))then(some (.inl (y242.1,(YBh .i64 (bits4+1)),in1_0,in1_1)))else(some (.inl (least3,(YBh .i64 (bits4+1)),in1_0,in1_1)))))else(some (.inl (least3,(YBh .i64 (bits4+1)),in1_0,in1_1))))else(some (.inr least3)))
def YbZ(lo:Lo):Int×Int× (List Int)×Zt0->Option Int:=lo.run (YbY lo)
def Yvt(lo:Lo):LpE:=⟨3,[],(Zsg [1,3,4] [.ptr 0 0 0,.j,.j] [.st [.l (cs [I]),.l Zc1]]),[⟨.exit 0,(Zsg [3] [.j] [])⟩],YbZ lo⟩
def Yvu(lo:Lo):LL:=(Yvt lo,.loop q64_L3_b.er)::[]
theorem Yvv(lo:Lo):Lk lo pf (fs64 lo) 0 (Yvu lo):=.l .n (YbY lo)
def q64(lo:Lo)(in0_0:List Int)(in0_1:List ((List Int))):Option Int:=
  YAZ (YbZ lo ((-1:Int),(0:Int),in0_0,in0_1)) fun y244=>some y244
def Yvw:VFn:=⟨true,41,[.t 2],
 (Rg [oG 1 0,oK 2 0]
 (Rg [oK 3 (-1)]
 (.seq (Rg [oK 4 0]
 (.blk 0 (.loop 3 q64_L3_b)))
 (Rg [oM 40 3,oM 2 40]
 (Fr 2)))))⟩
def YmG(lo:Lo):FnE:=Zfe 408 true (Zsg [0] [.ag [.l (cs [I]),.l Zc1]] []) (.i .i64) [] (fun x=>q64 lo x.1 x.2:(List Int)×Zt0->Option Int)
def fs65(lo:Lo):List FnE:=YmG lo::fs64 lo
theorem Yvx(h:GZ P fm fs64 lo)(t:Ti P fm 408 Yvw):GZ P fm fs65 lo:=
  h.p (YmG lo) (Yvv lo) t
def fs66(lo:Lo):List FnE:=fs65 lo
def fs67(lo:Lo):List FnE:=fs66 lo
def q67(lo:Lo)(bound0:Int):Option Bool:=
  bif(decide ((-1000000000000000:Int)<=bound0))then(some (decide (bound0<=1000000000000000)))else(some false)
def Yvy:VFn:=⟨true,9,[.t 2],
 (Rg [oB 2 false]
 (Rg [oM 3 0,oR 4 .geq 3 (k (-1000000000000000)),oM 5 4,gT 6 5 (.mv 0),gT 7 5 (.bin .leq 6 (k 1000000000000000)),oP 8 5 7 (kb false),oM 2 8]
 (Fr 2)))⟩
def YmH(lo:Lo):FnE:=Zfe 418 true (Zsg [0] [.j] []) .b [] (fun x=>q67 lo x:Int->Option Bool)
def fs68(lo:Lo):List FnE:=YmH lo::fs67 lo
theorem Yvz(h:GZ P fm fs67 lo)(t:Ti P fm 418 Yvy):GZ P fm fs68 lo:=
  h.p (YmH lo) .n t
def q68_L8_b:VCode:=
 (.seq (Rg [oM 15 7,oF 16 1 2,oL 17 16,oM 18 5,oI 19 1 17 18,oL 20 19,oN 21 20,oR 22 .lss 15 21]
 (Ce 22 2))
 (.seq (.blk 3 (.reg [oM 25 6,oM 26 25,gT 27 26 (.fad 1 3),gT 28 26 (.load false 1 27),gT 29 26 (.fad 1 2),gT 30 26 (.load false 1 29),gT 31 26 (.mv 5),gT 32 26 (.iad 1 30 31),gT 33 26 (.load false 1 32),gT 34 26 (.mv 7),gT 35 26 (.iad 1 33 34),gT 36 26 (.load false 1 35),gT 37 26 (.call 428 [28,36]),oP 38 26 37 (kb false),oM 6 38]))
 (.reg [oM 23 7,oR 24 .add 23 (k 1),oM 7 24])))
def YdD(lo:Lo):Zp17->Option (Zp17⊕ ((Int×Bool× (List Int)×Zt0× (List Int)× (List Int)×Int))):=fun x=>match x with
  | (i5,all6,k7,in2_0,in2_1,s3_0,s3_1,s3_2)=>chk (0<=i5/\i5< (in2_1.length:Int)) (bif(decide (k7< ((in2_1.getD i5.toNat []).length:Int)))then(bif all6 then(chk (0<=i5/\i5< (in2_1.length:Int)) (chk (0<=k7/\k7< ((in2_1.getD i5.toNat []).length:Int)) (YAZ (q58 lo s3_1 ((in2_1.getD i5.toNat []).getD k7.toNat (0:Int))) fun y263=>some (.inl (i5,y263,(YBh .i64 (k7+1)),in2_0,in2_1,s3_0,s3_1,s3_2)))))else(some (.inl (i5,false,(YBh .i64 (k7+1)),in2_0,in2_1,s3_0,s3_1,s3_2))))else(some (.inr (i5,all6,in2_0,in2_1,s3_0,s3_1,s3_2))))
def YgP(lo:Lo):Zp17->Option ((Int×Bool× (List Int)×Zt0× (List Int)× (List Int)×Int)):=lo.run (YdD lo)
def YvA(lo:Lo):LpE:=⟨8,[],(Zsg [2,3,5,6,7] [.ptr 0 0 0,.ptr 1 0 0,.j,.b,.j] [.st [.l (cs [I]),.l Zc1],.st [.l (cs [I]),.l (cs [I]),.j]]),[⟨.exit 2,(Zsg [2,3,5,6] [.ptr 0 0 0,.ptr 1 0 0,.j,.b] [.st [.l (cs [I]),.l Zc1],.st [.l (cs [I]),.l (cs [I]),.j]])⟩],YgP lo⟩
def YmI(lo:Lo):LL:=(YvA lo,.loop q68_L8_b.er)::[]
theorem YvB(lo:Lo):Lk lo pf (fs68 lo) 0 (YmI lo):=.l .n (YdD lo)
def q68_L3_b:VCode:=
 (.seq (Rg [oM 8 5,oF 9 1 2,oL 10 9,oN 11 10,oR 12 .lss 8 11]
 (Ce 12 0))
 (.seq (.blk 1 (Rg [oB 6 true]
 (.seq (Rg [oK 7 0]
 (.blk 2 (.loop 8 q68_L8_b)))
 (Rg [oM 39 6]
 (.cond 39 (Rg [oB 4 true]
 (Fr 4))
 .skip)))))
 (.reg [oM 13 5,oR 14 .add 13 (k 1),oM 5 14])))
def YdE(lo:Lo):Zp26->Option (Zp26⊕ (Bool⊕Unit)):=fun x=>match x with
  | (i5,in2_0,in2_1,s3_0,s3_1,s3_2)=>bif(decide (i5< (in2_1.length:Int)))then(YAZ (YgP lo (i5,true,(0:Int),in2_0,in2_1,s3_0,s3_1,s3_2)) fun y264=>bif y264.2.1 then(some (.inr (.inl true)))else(some (.inl ((YBh .i64 (y264.1+(1:Int))),y264.2.2.1,y264.2.2.2.1,y264.2.2.2.2.1,y264.2.2.2.2.2.1,y264.2.2.2.2.2.2))))else(some (.inr (.inr ())))
def YgQ(lo:Lo):Zp26->Option (Bool⊕Unit):=lo.run (YdE lo)
def YvC(lo:Lo):LpE:=⟨3,[],(Zsg [2,3,5] [.ptr 0 0 0,.ptr 1 0 0,.j] [.st [.l (cs [I]),.l Zc1],.st [.l (cs [I]),.l (cs [I]),.j]]),[⟨.ret,(Zsg [4] [.b] [])⟩,⟨.exit 0,(Zsg [] [] [])⟩],YgQ lo⟩
def YvD(lo:Lo):LL:=(YvC lo,.loop q68_L3_b.er)::YmI lo
theorem YvE(lo:Lo):Lk lo pf (fs68 lo) 0 (YvD lo):=.l (YvB lo) (YdE lo)
def q68(lo:Lo)(in0_0:List Int)(in0_1:List ((List Int)))(s1_0:List Int)(s1_1:List Int)(s1_2:Int):Option Bool:=
  YAZ (YgQ lo ((0:Int),in0_0,in0_1,s1_0,s1_1,s1_2)) fun y265=>alt2 y265 (fun y266=>some y266) (fun y267=>some false)
def YvF:VFn:=⟨true,40,[.t 4],
 (Rg [oG 2 0,oG 3 1,oB 4 false]
 (.seq (Rg [oK 5 0]
 (.blk 0 (.loop 3 q68_L3_b)))
 (Rg [oB 4 false]
 (Fr 4))))⟩
def YmJ(lo:Lo):FnE:=Zfe 447 true (Zsg [0,1] [.ag [.l (cs [I]),.l Zc1],.ag [.l (cs [I]),.l (cs [I]),.j]] []) .b [] (fun x=>q68 lo x.1 x.2.1 x.2.2.1 x.2.2.2.1 x.2.2.2.2:(List Int)×Zt0× (List Int)× (List Int)×Int->Option Bool)
def fs69(lo:Lo):List FnE:=YmJ lo::fs68 lo
theorem YvG(h:GZ P fm fs68 lo)(t:Ti P fm 447 YvF):GZ P fm fs69 lo:=
  h.p (YmJ lo) (YvE lo) t
end Go.Abs.G39
namespace Go.Abs.G39
open Go Go.Abs
set_option maxRecDepth 100000
set_option maxHeartbeats 1000000
variable{P:Program}{fm:FM}{lo:Lo}
def q69_L19_b:VCode:=
 (.seq (Rg [oM 15 8,oM 16 2,oN 17 16,oR 18 .lss 15 17]
 (Ce 18 0))
 (.seq (.blk 1 (.seq (Rg [oM 21 2,oM 22 8,oI 23 2 21 22,oF 24 0 23,oL 25 24,oR 26 .lss 25 (k 0),oM 27 26,gF 28 27 (.mv 2),gF 29 27 (.mv 8),gF 30 27 (.iad 2 28 29),gF 31 27 (.fad 0 30),gF 32 27 (.load false 1 31),gF 33 27 (.fad 1 3),gF 34 27 (.load false 1 33),gF 35 27 (.len 34),gF 36 27 (.bin .geq 32 35),oP 37 27 (kb true) 36,oM 38 37,gF 39 38 (.mv 2),gF 40 38 (.mv 8),gF 41 38 (.iad 2 39 40),gF 42 38 (.fad 1 41),gF 43 38 (.load false 1 42),gF 44 38 (.bin .lss 43 (k 1)),oP 45 38 (kb true) 44,oM 46 45,gF 47 46 (.mv 2),gF 48 46 (.mv 8),gF 49 46 (.iad 2 47 48),gF 50 46 (.fad 1 49),gF 51 46 (.load false 1 50),gF 52 46 (.bin .gtr 51 (k 1000000000000)),oP 53 46 (kb true) 52,oM 54 53,gF 55 54 (.fad 1 3),gF 56 54 (.load false 1 55),gF 57 54 (.mv 2),gF 58 54 (.mv 8),gF 59 54 (.iad 2 57 58),gF 60 54 (.fad 0 59),gF 61 54 (.load false 1 60),gF 62 54 (.iad 1 56 61),gF 63 54 (.load false 1 62),gF 64 54 (.fad 0 4),gF 65 54 (.load false 1 64),gF 66 54 (.call 431 [63,65]),oP 67 54 (kb true) 66]
 (.cond 67 (Rg [oB 6 false]
 (Fr 6))
 .skip))
 (.reg [oM 68 7,oM 69 2,oM 70 8,oI 71 2 69 70,oF 72 1 71,oL 73 72,oR 74 .add 68 73,oM 7 74])))
 (.reg [oM 19 8,oR 20 .add 19 (k 1),oM 8 20])))
def YdF(lo:Lo):Zp20->Option (Zp20⊕ (Bool⊕ (Zt2×Int× (List Int)×Zt0× (List Int)× (List Int)×Int))):=fun x=>match x with
  | (l2,sum7,i8,in3_0,in3_1,s4_0,s4_1,s4_2)=>bif(decide (i8< (l2.length:Int)))then(chk (0<=i8/\i8< (l2.length:Int)) (bif(decide ((l2.getD i8.toNat ((0:Int),(0:Int))).1< (0:Int)))then(some (.inr (.inl false)))else(chk (0<=i8/\i8< (l2.length:Int)) (bif(decide ((in3_1.length:Int)<=(l2.getD i8.toNat ((0:Int),(0:Int))).1))then(some (.inr (.inl false)))else(chk (0<=i8/\i8< (l2.length:Int)) (bif(decide ((l2.getD i8.toNat ((0:Int),(0:Int))).2< (1:Int)))then(some (.inr (.inl false)))else(chk (0<=i8/\i8< (l2.length:Int)) (bif(decide ((1000000000000:Int)< (l2.getD i8.toNat ((0:Int),(0:Int))).2))then(some (.inr (.inl false)))else(chk (0<=i8/\i8< (l2.length:Int)) (chk (0<=(l2.getD i8.toNat ((0:Int),(0:Int))).1/\ (l2.getD i8.toNat ((0:Int),(0:Int))).1< (in3_1.length:Int)) (YAZ (q61 lo (in3_1.getD (((l2.getD i8.toNat ((0:Int),(0:Int))).1).toNat) []) s4_0) fun y269=>bif y269 then(some (.inr (.inl false)))else(chk (0<=i8/\i8< (l2.length:Int)) (some (.inl (l2,(YBh .i64 (sum7+((l2.getD i8.toNat ((0:Int),(0:Int))).2))),(YBh .i64 (i8+1)),in3_0,in3_1,s4_0,s4_1,s4_2)))))))))))))))else(some (.inr (.inr (l2,sum7,in3_0,in3_1,s4_0,s4_1,s4_2))))
def YdG(lo:Lo):Zp20->Option (Bool⊕ (Zt2×Int× (List Int)×Zt0× (List Int)× (List Int)×Int)):=lo.run (YdF lo)
def YvH(lo:Lo):LpE:=⟨19,[],(Zsg [2,3,4,7,8] [.l (cs [I,I]),.ptr 0 0 0,.ptr 1 0 0,.j,.j] [.st [.l (cs [I]),.l Zc1],.st [.l (cs [I]),.l (cs [I]),.j]]),[⟨.ret,(Zsg [6] [.b] [])⟩,⟨.exit 0,(Zsg [2,3,4,7] [.l (cs [I,I]),.ptr 0 0 0,.ptr 1 0 0,.j] [.st [.l (cs [I]),.l Zc1],.st [.l (cs [I]),.l (cs [I]),.j]])⟩],YdG lo⟩
def YmK(lo:Lo):LL:=(YvH lo,.loop q69_L19_b.er)::[]
theorem YvI(lo:Lo):Lk lo pf (fs69 lo) 0 (YmK lo):=.l .n (YdF lo)
def q69_L8_b:VCode:=
 (.seq (Rg [oM 82 11,oM 83 2,oN 84 83,oR 85 .lss 82 84]
 (Ce 85 4))
 (.seq (.blk 5 (Rg [oF 88 1 3,oL 89 88,oM 90 2,oM 91 11,oI 92 2 90 91,oF 93 0 92,oL 94 93,oI 95 1 89 94,oL 96 95,oM 97 9,oC 98 428 [96,97]]
 (.cond 98 (.reg [oM 99 10,oM 100 2,oM 101 11,oI 102 2 100 101,oF 103 1 102,oL 104 103,oR 105 .add 99 104,oM 10 105])
 .skip)))
 (.reg [oM 86 11,oR 87 .add 86 (k 1),oM 11 87])))
def YdH(lo:Lo):Zp14->Option (Zp14⊕ ((Zt2×Int×Int×Int× (List Int)×Zt0× (List Int)× (List Int)×Int))):=fun x=>match x with
  | (l2,sum7,v9,load10,i11,in3_0,in3_1,s4_0,s4_1,s4_2)=>bif(decide (i11< (l2.length:Int)))then(chk (0<=i11/\i11< (l2.length:Int)) (chk (0<=(l2.getD i11.toNat ((0:Int),(0:Int))).1/\ (l2.getD i11.toNat ((0:Int),(0:Int))).1< (in3_1.length:Int)) (YAZ (q58 lo (in3_1.getD (((l2.getD i11.toNat ((0:Int),(0:Int))).1).toNat) []) v9) fun y273=>bif y273 then(chk (0<=i11/\i11< (l2.length:Int)) (some (.inl (l2,sum7,v9,(YBh .i64 (load10+((l2.getD i11.toNat ((0:Int),(0:Int))).2))),(YBh .i64 (i11+1)),in3_0,in3_1,s4_0,s4_1,s4_2))))else(some (.inl (l2,sum7,v9,load10,(YBh .i64 (i11+1)),in3_0,in3_1,s4_0,s4_1,s4_2))))))else(some (.inr (l2,sum7,v9,load10,in3_0,in3_1,s4_0,s4_1,s4_2)))
def YdI(lo:Lo):Zp14->Option ((Zt2×Int×Int×Int× (List Int)×Zt0× (List Int)× (List Int)×Int)):=lo.run (YdH lo)
def YvJ(lo:Lo):LpE:=⟨8,[],(Zsg [2,3,4,7,9,10,11] [.l (cs [I,I]),.ptr 0 0 0,.ptr 1 0 0,.j,.j,.j,.j] [.st [.l (cs [I]),.l Zc1],.st [.l (cs [I]),.l (cs [I]),.j]]),[⟨.exit 4,(Zsg [2,3,4,7,9,10] [.l (cs [I,I]),.ptr 0 0 0,.ptr 1 0 0,.j,.j,.j] [.st [.l (cs [I]),.l Zc1],.st [.l (cs [I]),.l (cs [I]),.j]])⟩],YdI lo⟩
def YmL(lo:Lo):LL:=(YvJ lo,.loop q69_L8_b.er)::YmK lo
theorem YvK(lo:Lo):Lk lo pf (fs69 lo) 0 (YmL lo):=.l (YvI lo) (YdH lo)
def q69_L3_b:VCode:=
 (.seq (Rg [oM 75 9,oF 76 0 3,oL 77 76,oN 78 77,oR 79 .lss 75 78]
 (Ce 79 2))
 (.seq (.blk 3 (Rg [oK 10 0]
 (.seq (Rg [oK 11 0]
 (.blk 4 (.loop 8 q69_L8_b)))
 (Rg [oM 106 10,oF 107 0 3,oL 108 107,oM 109 9,oI 110 1 108 109,oL 111 110,oR 112 .gtr 106 111,oM 113 112,gT 114 113 (.fad 1 4),gT 115 113 (.load false 1 114),gT 116 113 (.mv 9),gT 117 113 (.call 428 [115,116]),gT 118 113 (.not 117),oP 119 113 118 (kb false)]
 (.cond 119 (Rg [oB 6 false]
 (Fr 6))
 .skip)))))
 (.reg [oM 80 9,oR 81 .add 80 (k 1),oM 9 81])))
def YdJ(lo:Lo):Zp20->Option (Zp20⊕ (Bool⊕ (Int× (List Int)× (List Int)×Int))):=fun x=>match x with
  | (l2,sum7,v9,in3_0,in3_1,s4_0,s4_1,s4_2)=>bif(decide (v9< (in3_0.length:Int)))then(YAZ (YdI lo (l2,sum7,v9,(0:Int),(0:Int),in3_0,in3_1,s4_0,s4_1,s4_2)) fun y274=>chk (0<=y274.2.2.1/\y274.2.2.1< (y274.2.2.2.2.1.length:Int)) (bif(decide ((y274.2.2.2.2.1.getD y274.2.2.1.toNat (0:Int))<y274.2.2.2.1))then(YAZ (q58 lo y274.2.2.2.2.2.2.2.1 y274.2.2.1) fun y275=>bif(!y275)then(some (.inr (.inl false)))else(some (.inl (y274.1,y274.2.1,(YBh .i64 (y274.2.2.1+(1:Int))),y274.2.2.2.2.1,y274.2.2.2.2.2.1,y274.2.2.2.2.2.2.1,y274.2.2.2.2.2.2.2.1,y274.2.2.2.2.2.2.2.2))))else(some (.inl (y274.1,y274.2.1,(YBh .i64 (y274.2.2.1+(1:Int))),y274.2.2.2.2.1,y274.2.2.2.2.2.1,y274.2.2.2.2.2.2.1,y274.2.2.2.2.2.2.2.1,y274.2.2.2.2.2.2.2.2)))))else(some (.inr (.inr (sum7,s4_0,s4_1,s4_2))))
def YdK(lo:Lo):Zp20->Option (Bool⊕ (Int× (List Int)× (List Int)×Int)):=lo.run (YdJ lo)
def YvL(lo:Lo):LpE:=⟨3,[],(Zsg [2,3,4,7,9] [.l (cs [I,I]),.ptr 0 0 0,.ptr 1 0 0,.j,.j] [.st [.l (cs [I]),.l Zc1],.st [.l (cs [I]),.l (cs [I]),.j]]),[⟨.ret,(Zsg [6] [.b] [])⟩,⟨.exit 2,(Zsg [4,7] [.ptr 0 0 0,.j] [.st [.l (cs [I]),.l (cs [I]),.j]])⟩],YdK lo⟩
def YvM(lo:Lo):LL:=(YvL lo,.loop q69_L3_b.er)::YmL lo
theorem YvN(lo:Lo):Lk lo pf (fs69 lo) 0 (YvM lo):=.l (YvK lo) (YdJ lo)
def q69(lo:Lo)(in0_0:List Int)(in0_1:List ((List Int)))(s1_0:List Int)(s1_1:List Int)(s1_2:Int)(l2:List (Int×Int)):Option Bool:=
  bif(decide ((10000:Int)< (l2.length:Int)))then(some false)else(YAZ (YdG lo (l2,(0:Int),(0:Int),in0_0,in0_1,s1_0,s1_1,s1_2)) fun y270=>alt2 y270 (fun y271=>some y271) (fun y272=>YAZ (YdK lo (y272.1,y272.2.1,(0:Int),y272.2.2.1,y272.2.2.2.1,y272.2.2.2.2.1,y272.2.2.2.2.2.1,y272.2.2.2.2.2.2)) fun y276=>alt2 y276 (fun y277=>some y277) (fun y278=>some (decide (y278.2.2.2<=y278.1)))))
def YvO:VFn:=⟨true,124,[.t 6],
 (Rg [oG 3 0,oG 4 1,oB 6 false]
 (.seq (Rg [oM 12 2,oN 13 12,oR 14 .gtr 13 (k 10000)]
 (.cond 14 (Rg [oB 6 false]
 (Fr 6))
 .skip))
 (Rg [oK 7 0]
 (.seq (Rg [oK 8 0]
 (.blk 0 (.loop 19 q69_L19_b)))
 (.seq (Rg [oK 9 0]
 (.blk 2 (.loop 3 q69_L3_b)))
 (Rg [oM 120 7,oF 121 2 4,oL 122 121,oR 123 .geq 120 122,oM 6 123]
 (Fr 6)))))))⟩
def YmM(lo:Lo):FnE:=Zfe 416 true (Zsg [0,1,2] [.ag [.l (cs [I]),.l Zc1],.ag [.l (cs [I]),.l (cs [I]),.j],.l (cs [I,I])] []) .b [] (fun x=>q69 lo x.1 x.2.1 x.2.2.1 x.2.2.2.1 x.2.2.2.2.1 x.2.2.2.2.2:(List Int)×Zt0× (List Int)× (List Int)×Int×Zt2->Option Bool)
def fs70(lo:Lo):List FnE:=YmM lo::fs69 lo
theorem YvP(h:GZ P fm fs69 lo)(t:Ti P fm 416 YvO):GZ P fm fs70 lo:=
  h.p (YmM lo) (YvN lo) t
def YvQ(F:(List Int)×Zt0× (List Int)× (List Int)×Int×Zt4->Option Int):FnE:=⟨433,true,(Zsg [0,1,2] [.ag [.l (cs [I]),.l Zc1],.ag [.l (cs [I]),.l (cs [I]),.j],.l Zc3] []),.j,[],(cs [I]),F⟩
def YcA(lo:Lo)(rec:(List Int)×Zt0× (List Int)× (List Int)×Int×Zt4->Option Int)(in0_0:List Int)(in0_1:List ((List Int)))(s1_0:List Int)(s1_1:List Int)(s1_2:Int)(l2:List (Int×Zt2)):Option Int:=
  bif(decide ((l2.length:Int)=0))then(some (-1:Int))else(chk (0<=(0:Int)/\ (0:Int)< (l2.length:Int)) (bif(decide ((l2.getD 0 ((0:Int),[])).1=(-1:Int)))then(chk (0<=(0:Int)/\ (0:Int)< (l2.length:Int)) (bif(decide ((((l2.getD 0 ((0:Int),[])).2).length:Int)=(0:Int)))then(bif(decide (s1_2<=0))then(some (1:Int))else(YAZ (q68 lo in0_0 in0_1 s1_0 s1_1 s1_2) fun y268=>bif y268 then(some (1:Int))else(chk (0<=(0:Int)/\ (0:Int)< (l2.length:Int)) (bif(decide ((0:Int)< (((l2.getD 0 ((0:Int),[])).2).length:Int)))then(chk (0<=(0:Int)/\ (0:Int)< (l2.length:Int)) (YAZ (q69 lo in0_0 in0_1 s1_0 s1_1 s1_2 ((l2.getD 0 ((0:Int),[])).2)) fun y279=>bif y279 then(some (1:Int))else(some (-1:Int))))else(some (-1:Int))))))else(chk (0<=(0:Int)/\ (0:Int)< (l2.length:Int)) (bif(decide ((0:Int)< (((l2.getD 0 ((0:Int),[])).2).length:Int)))then(chk (0<=(0:Int)/\ (0:Int)< (l2.length:Int)) (YAZ (q69 lo in0_0 in0_1 s1_0 s1_1 s1_2 ((l2.getD 0 ((0:Int),[])).2)) fun y280=>bif y280 then(some (1:Int))else(some (-1:Int))))else(some (-1:Int))))))else(chk (0<=(0:Int)/\ (0:Int)< (l2.length:Int)) (chk (0<=(0:Int)/\ (0:Int)< (l2.length:Int)) (bif(decide ((0:Int)< (((l2.getD 0 ((0:Int),[])).2).length:Int)))then(some (-1:Int))else(bif(decide ((l2.getD 0 ((0:Int),[])).1< (0:Int)))then(some (-1:Int))else(bif(decide ((in0_0.length:Int)<=(l2.getD 0 ((0:Int),[])).1))then(some (-1:Int))else(YAZ (q58 lo s1_0 ((l2.getD 0 ((0:Int),[])).1)) fun y281=>bif y281 then(some (-1:Int))else(YAZ (q58 lo s1_1 ((l2.getD 0 ((0:Int),[])).1)) fun y282=>bif y282 then(some (-1:Int))else(chk (s1_0.length<=maxEl) (chk (s1_0.length+([(l2.getD 0 ((0:Int),[])).1]).length<=maxEl) (chk (0<=(l2.getD 0 ((0:Int),[])).1/\ (l2.getD 0 ((0:Int),[])).1< (in0_0.length:Int)) (chk (0<=(1:Int)/\ (1:Int)<=(l2.length:Int)/\ (l2.length:Int)<=(l2.length:Int)) (YAZ (rec (in0_0,in0_1,(s1_0++([(l2.getD 0 ((0:Int),[])).1])),s1_1,(YBh .i64 (s1_2-(in0_0.getD (((l2.getD 0 ((0:Int),[])).1).toNat) (0:Int)))),((l2.take (l2.length:Int).toNat).drop 1))) fun y283=>bif(decide (y283<0))then(some (-1:Int))else(chk (s1_1.length<=maxEl) (chk (s1_1.length+([(l2.getD 0 ((0:Int),[])).1]).length<=maxEl) (chk (0<=(YBh .i64 ((1:Int)+y283))/\ (YBh .i64 ((1:Int)+y283))<=(l2.length:Int)/\ (l2.length:Int)<=(l2.length:Int)) (YAZ (rec (in0_0,in0_1,s1_0,(s1_1++([(l2.getD 0 ((0:Int),[])).1])),s1_2,((l2.take (l2.length:Int).toNat).drop (YBh .i64 ((1:Int)+y283)).toNat))) fun y284=>bif(decide (y284<0))then(some (-1:Int))else(some (YBh .i64 ((YBh .i64 ((1:Int)+y283))+y284)))))))))))))))))))))
def Ybj(lo:Lo):Nat->(List Int)×Zt0× (List Int)× (List Int)×Int×Zt4->Option Int
  |0,_=>none
  |n+1,x=>YcA lo (Ybj lo n) x.1 x.2.1 x.2.2.1 x.2.2.2.1 x.2.2.2.2.1 x.2.2.2.2.2
def q70(lo:Lo)(in0_0:List Int)(in0_1:List ((List Int)))(s1_0:List Int)(s1_1:List Int)(s1_2:Int)(l2:List (Int×Zt2)):Option Int:=lo.run (fixS (Ybj lo)) (0,(in0_0,in0_1,s1_0,s1_1,s1_2,l2))
def YvR:VFn:=⟨true,132,[.t 6],
 (Rg [oG 3 0,oG 4 1,oK 6 0]
 (.seq (Rg [oM 10 2,oN 11 10,oR 12 .eql 11 (k 0)]
 (.cond 12 (Rg [oK 6 (-1)]
 (Fr 6))
 .skip))
 (.seq (Rg [oM 13 2,o 14 (.iad 2 13 (k 0)),oF 15 0 14,oL 16 15,oR 17 .eql 16 (k (-1))]
 (.cond 17 (.seq (Rg [oM 18 2,o 19 (.iad 2 18 (k 0)),oF 20 1 19,oL 21 20,oN 22 21,oR 23 .eql 22 (k 0),oM 24 23,gT 25 24 (.fad 2 4),gT 26 24 (.load false 1 25),gT 27 24 (.bin .leq 26 (k 0)),gT 28 24 (.mv 27),gF 29 28 (.load true 2 3),gF 30 28 (.load true 3 4),gF 31 28 (.call 447 [29,30]),gT 32 24 (.pick 28 (kb true) 31),oP 33 24 32 (kb false),oM 34 33,gF 35 34 (.mv 2),gF 36 34 (.iad 2 35 (k 0)),gF 37 34 (.fad 1 36),gF 38 34 (.load false 1 37),gF 39 34 (.len 38),gF 40 34 (.bin .gtr 39 (k 0)),gF 41 34 (.mv 40),gT 42 41 (.load true 2 3),gT 43 41 (.load true 3 4),gT 44 41 (.mv 2),gT 45 41 (.iad 2 44 (k 0)),gT 46 41 (.fad 1 45),gT 47 41 (.load false 1 46),gT 48 41 (.call 416 [42,43,47]),gF 49 34 (.pick 41 48 (kb false)),oP 50 34 (kb true) 49]
 (.cond 50 (Rg [oK 6 1]
 (Fr 6))
 .skip))
 (Rg [oK 6 (-1)]
 (Fr 6)))
 .skip))
 (Rg [oM 51 2,o 52 (.iad 2 51 (k 0)),oF 53 0 52,oL 54 53,oM 7 54]
 (.seq (Rg [oM 55 2,o 56 (.iad 2 55 (k 0)),oF 57 1 56,oL 58 57,oN 59 58,oR 60 .gtr 59 (k 0),oM 61 60,gF 62 61 (.mv 7),gF 63 61 (.bin .lss 62 (k 0)),oP 64 61 (kb true) 63,oM 65 64,gF 66 65 (.mv 7),gF 67 65 (.fad 0 3),gF 68 65 (.load false 1 67),gF 69 65 (.len 68),gF 70 65 (.bin .geq 66 69),oP 71 65 (kb true) 70,oM 72 71,gF 73 72 (.fad 0 4),gF 74 72 (.load false 1 73),gF 75 72 (.mv 7),gF 76 72 (.call 428 [74,75]),oP 77 72 (kb true) 76,oM 78 77,gF 79 78 (.fad 1 4),gF 80 78 (.load false 1 79),gF 81 78 (.mv 7),gF 82 78 (.call 428 [80,81]),oP 83 78 (kb true) 82]
 (.cond 83 (Rg [oK 6 (-1)]
 (Fr 6))
 .skip))
 (Rg [⟨some 84,.load true 2 3,none,true,false⟩,o 85 (.bsl (cs [I]) 0 []),oF 86 0 4,oL 87 86,⟨some 88,.app (cs [I]) 0 85 87,none,false,true⟩,oM 89 7,o 90 (.bsl (cs [I]) 1 [(0,89)]),⟨some 91,.app (cs [I]) 0 88 90,none,false,true⟩,oF 92 1 4,⟨some 93,.load false 1 92,none,true,false⟩,oF 94 2 4,⟨some 95,.load false 1 94,none,true,false⟩,oF 96 0 3,⟨some 97,.load false 1 96,none,true,false⟩,oM 98 7,⟨some 99,.iad 1 97 98,none,true,false⟩,⟨some 100,.load false 1 99,none,true,false⟩,oR 101 .sub 95 100,o 102 (.build [.e (cs [I]),.e (cs [I]),.i .i64 0] [(0,1,91),(1,1,93),(2,1,101)]),oM 103 2,o 104 (.slcR 2 103 (some (k 1)) none),oC 105 433 [84,102,104],oM 8 105]
 (.seq (Rg [oM 106 8,oR 107 .lss 106 (k 0)]
 (.cond 107 (Rg [oK 6 (-1)]
 (Fr 6))
 .skip))
 (Rg [⟨some 108,.load true 2 3,none,true,false⟩,oF 109 0 4,⟨some 110,.load false 1 109,none,true,false⟩,o 111 (.bsl (cs [I]) 0 []),oF 112 1 4,oL 113 112,⟨some 114,.app (cs [I]) 0 111 113,none,false,true⟩,oM 115 7,o 116 (.bsl (cs [I]) 1 [(0,115)]),⟨some 117,.app (cs [I]) 0 114 116,none,false,true⟩,oF 118 2 4,⟨some 119,.load false 1 118,none,true,false⟩,o 120 (.build [.e (cs [I]),.e (cs [I]),.i .i64 0] [(0,1,110),(1,1,117),(2,1,119)]),oM 121 2,oM 122 8,oR 123 .add (k 1) 122,o 124 (.slcR 2 121 (some 123) none),oC 125 433 [108,120,124],oM 9 125]
 (.seq (Rg [oM 126 9,oR 127 .lss 126 (k 0)]
 (.cond 127 (Rg [oK 6 (-1)]
 (Fr 6))
 .skip))
 (Rg [oM 128 8,oR 129 .add (k 1) 128,oM 130 9,oR 131 .add 129 130,oM 6 131]
 (Fr 6)))))))))))⟩
def YmN(lo:Lo):FnE:=YvQ (fun x=>q70 lo x.1 x.2.1 x.2.2.1 x.2.2.2.1 x.2.2.2.2.1 x.2.2.2.2.2)
def fs71(lo:Lo):List FnE:=YmN lo::fs70 lo
theorem YvS(h:GZ P fm fs70 lo)(t:Ti P fm 433 YvR):GZ P fm fs71 lo:=
  h.pr (YmN lo) (Ybj lo) (ls:=fun _=>[]) (fun _=>.n) t (by kernel_rfl) (fun _=>rfl) rfl (fun _=>by kernel_rfl) fun n x=>by kernel_rfl
def q71(lo:Lo)(in0_0:List Int)(in0_1:List ((List Int)))(bound1:Int)(proof2:List (Int×Zt2)):Option Bool:=
  YAZ (q54 lo in0_0 in0_1) fun y261=>bif(decide (y261=0))then(YAZ (q67 lo bound1) fun y262=>bif y262 then(bif(decide ((0:Int)< (proof2.length:Int)))then(YAZ (q70 lo in0_0 in0_1 ([]:List Int) ([]:List Int) bound1 proof2) fun y285=>some (decide (y285=(proof2.length:Int))))else(some false))else(some false))else(some false)
def YvT:VFn:=⟨true,29,[.t 6],
 (Rg [oG 3 0,oB 6 false]
 (Rg [oT 7 2 3,oC 8 402 [7],oR 9 .eql 8 (k 0),oM 10 9,gT 11 10 (.mv 1),gT 12 10 (.call 418 [11]),oP 13 10 12 (kb false),oM 14 13,gT 15 14 (.mv 2),gT 16 14 (.len 15),gT 17 14 (.bin .gtr 16 (k 0)),oP 18 14 17 (kb false),oM 19 18,gT 20 19 (.load true 2 3),gT 21 19 (.mv 1),gT 22 19 (.build [.e (cs [I]),.e (cs [I]),.i .i64 0] [(2,1,21)]),gT 23 19 (.mv 2),gT 24 19 (.call 433 [20,22,23]),gT 25 19 (.mv 2),gT 26 19 (.len 25),gT 27 19 (.bin .eql 24 26),oP 28 19 27 (kb false),oM 6 28]
 (Fr 6)))⟩
def YmO(lo:Lo):FnE:=Zfe 412 true (Zsg [0,1,2] [.ag [.l (cs [I]),.l Zc1],.j,.l Zc3] []) .b [] (fun x=>q71 lo x.1 x.2.1 x.2.2.1 x.2.2.2:(List Int)×Zt0×Int×Zt4->Option Bool)
def fs72(lo:Lo):List FnE:=YmO lo::fs71 lo
theorem YvU(h:GZ P fm fs71 lo)(t:Ti P fm 412 YvT):GZ P fm fs72 lo:=
  h.p (YmO lo) .n t
def fs73(lo:Lo):List FnE:=fs72 lo
def fs74(lo:Lo):List FnE:=fs73 lo
def fs75(lo:Lo):List FnE:=fs74 lo
def fs76(lo:Lo):List FnE:=fs75 lo
def fs77(lo:Lo):List FnE:=fs76 lo
def fs78(lo:Lo):List FnE:=fs77 lo
def fs79(lo:Lo):List FnE:=fs78 lo
def fs80(lo:Lo):List FnE:=fs79 lo
def fs81(lo:Lo):List FnE:=fs80 lo
def fs82(lo:Lo):List FnE:=fs81 lo
def fs83(lo:Lo):List FnE:=fs82 lo
def fs84(lo:Lo):List FnE:=fs83 lo
def q84(lo:Lo)(n:Int):Option Zt4:=bif decide (0<=n)&&decide (n<=1048576)then some []else none
def YvV(lo:Lo):FnE:=vgrowE 456 Zc3
def fs85(lo:Lo):List FnE:=YvV lo::fs84 lo
theorem YvW(h:GZ P fm fs84 lo)(hG: ∀f,fm f=456->YwY P f=true/\ ∃ρ:Go.Shelf.Ren,Go.Proofs.Lays8.n4 P ρ/\ρ.f 4=f/\Yx7 P (ρ.t 25) 2=true):GZ P fm fs85 lo:=
  ⟨h.1,h.2,Yrn h.S Zc3 rfl (by decide) hG⟩
def q85_L11_b:VCode:=
 (Rg [oR 12 .lss 11 10]
 (.seq (Ce 12 0)
 (.seq (.blk 1 (Rg [oI 13 1 9 11,oL 14 13,oM 5 14]
 (Rg [oM 15 3,oM 16 5,oN 17 16,oR 18 .add 15 17,oM 3 18]
 (Rg [oM 19 3,oR 20 .lss 19 (k 0)]
 (.cond 20 .bad
 .skip)))))
 (.reg [oR 22 .add 11 (k 1),oM 11 22]))))
def YcB(lo:Lo):Zp33->Option (Zp33⊕ (((List (Zt4))×Int))):=fun x=>match x with
  | (slices0,size3,v9,v10,v11)=>bif(decide (v11<v10))then(chk (0<=v11/\v11< (v9.length:Int)) (bif(decide ((YBh .i64 (size3+((v9.getD v11.toNat []).length:Int)))< (0:Int)))then(none)else(some (.inl (slices0,(YBh .i64 (size3+((v9.getD v11.toNat []).length:Int))),v9,v10,(YBh .i64 (v11+1)))))))else(some (.inr (slices0,size3)))
def YeV(lo:Lo):Zp33->Option (((List (Zt4))×Int)):=lo.run (YcB lo)
def YvX(lo:Lo):LpE:=⟨11,[],(Zsg [0,3,9,10,11] [.l (cs [.l Zc3]),.j,.l (cs [.l Zc3]),.j,.j] []),[⟨.exit 0,(Zsg [0,3] [.l (cs [.l Zc3]),.j] [])⟩],YeV lo⟩
def YmP(lo:Lo):LL:=(YvX lo,.loop q85_L11_b.er)::[]
theorem YvY(lo:Lo):Lk lo pf (fs85 lo) 0 (YmP lo):=.l .n (YcB lo)
def q85_L3_b:VCode:=
 (Rg [oR 28 .lss 27 26]
 (.seq (Ce 28 2)
 (.seq (.blk 3 (Rg [oI 29 1 25 27,oL 30 29,oM 8 30]
 (.reg [oM 31 6,oM 32 8,o 33 (.app Zc3 0 31 32),oM 6 33])))
 (.reg [oR 34 .add 27 (k 1),oM 27 34]))))
def YcC(lo:Lo):(List (Zt4))×Int×Int×Zt4->Option (((List (Zt4))×Int×Int×Zt4)⊕ ((Zt4))):=fun x=>match x with
  | (v25,v26,v27,newslice6)=>bif(decide (v27<v26))then(chk (0<=v27/\v27< (v25.length:Int)) (chk (newslice6.length+(v25.getD v27.toNat []).length<=maxEl) (some (.inl (v25,v26,(YBh .i64 (v27+1)),(newslice6++(v25.getD v27.toNat [])))))))else(some (.inr newslice6))
def YeW(lo:Lo):(List (Zt4))×Int×Int×Zt4->Option ((Zt4)):=lo.run (YcC lo)
def YvZ(lo:Lo):LpE:=⟨3,[],(Zsg [6,25,26,27] [.ref 0,.l (cs [.l Zc3]),.j,.j] [.sq Zc3]),[⟨.exit 2,(Zsg [6] [.ref 0] [.sq Zc3])⟩],YeW lo⟩
def Yv0(lo:Lo):LL:=(YvZ lo,.loop q85_L3_b.er)::YmP lo
theorem Yv1(lo:Lo):Lk lo pf (fs85 lo) 0 (Yv0 lo):=.l (YvY lo) (YcC lo)
def q85(lo:Lo)(slices0:List (Zt4)):Option (Zt4):=
  YAZ (YeV lo (slices0,(0:Int),slices0,(slices0.length:Int),(0:Int))) fun y338=>YAZ (q84 lo y338.2) fun y339=>YAZ (YeW lo (y338.1,(y338.1.length:Int),(0:Int),y339)) fun y340=>some y340
def Yv2:VFn:=⟨true,36,[.t 2],
 (Rg [o 2 (.mv (ke Zc3))]
 (Rg [oK 3 0]
 (.seq (Rg [oM 9 0,oN 10 9,oK 11 0]
 (.blk 0 (.loop 11 q85_L11_b)))
 (Rg [oM 23 3,oC 24 456 [(ke Zc3),23],oM 6 24]
 (.seq (Rg [oM 25 0,oN 26 25,oK 27 0]
 (.blk 2 (.loop 3 q85_L3_b)))
 (Rg [oM 35 6,oM 2 35]
 (Fr 2)))))))⟩
def YmQ(lo:Lo):FnE:=Zfe 451 true (Zsg [0] [.l (cs [.l Zc3])] []) (.l Zc3) [] (fun x=>q85 lo x:(List (Zt4))->Option (Zt4))
def fs86(lo:Lo):List FnE:=YmQ lo::fs85 lo
theorem Yv3(h:GZ P fm fs85 lo)(t:Ti P fm 451 Yv2):GZ P fm fs86 lo:=
  h.p (YmQ lo) (Yv1 lo) t
end Go.Abs.G39
namespace Go.Abs.G39
open Go Go.Abs
set_option maxRecDepth 100000
set_option maxHeartbeats 1000000
variable{P:Program}{fm:FM}{lo:Lo}
def Yv4(F:Zp37->Option Zp32):FnE:=⟨439,false,(Zsg [0,1] [.ptr 0 0 0,.j] [.st [.l (cs [I]),.l Zc1,.ref 1,.j],.sq (cs [I])]),.tp [.l Zc3,.j],[.st [.l (cs [I]),.l Zc1,.ref 1,.j],.sq (cs [I])],(cs [.l Zc3,I,.l (cs [I]),.l Zc1,I,.l (cs [I])]),F⟩
def Ybk(lo:Lo)(rec:Zp37->Option Zp32)(bound1:Int)(s0_0:List Int)(s0_1:List ((List Int)))(s0_2:Int)(h1:List Int):Option Zp32:=
  YAZ (q30 lo s0_0 s0_1 s0_2 h1) fun y332=>chk (y332.2.2.2.2.length=h1.length) (bif(!y332.1)then(some (([]:List (Int×Zt2)),(13:Int),y332.2.1,y332.2.2.1,y332.2.2.2.1,y332.2.2.2.2))else(bif(decide (bound1<=0))then(some ([((-1:Int),([]:List (Int×Int)))],(0:Int),y332.2.1,y332.2.2.1,y332.2.2.2.1,y332.2.2.2.2))else(YAZ (q38 lo y332.2.1 y332.2.2.1 y332.2.2.2.1 y332.2.2.2.2) fun y333=>chk (y333.2.2.2.2.length=y332.2.2.2.2.length) (bif y333.1 then(some ([((-1:Int),([]:List (Int×Int)))],(0:Int),y333.2.1,y333.2.2.1,y333.2.2.2.1,y333.2.2.2.2))else(YAZ (q44 lo y333.2.1 y333.2.2.1 y333.2.2.2.1 y333.2.2.2.2) fun y334=>chk (y334.2.2.2.2.1.length=y333.2.2.2.2.length) (bif(decide (bound1<=y334.1))then(some ([((-1:Int),y334.2.2.2.2.2)],(0:Int),y334.2.1,y334.2.2.1,y334.2.2.2.1,y334.2.2.2.2.1))else(YAZ (q45 lo y334.2.1 y334.2.2.1 y334.2.2.2.1 y334.2.2.2.2.1) fun y335=>chk (y335.2.2.2.2.length=y334.2.2.2.2.1.length) (bif(decide (y335.1< (0:Int)))then(some (([]:List (Int×Zt2)),(11:Int),y335.2.1,y335.2.2.1,y335.2.2.2.1,y335.2.2.2.2))else(chk (0<=y335.1/\y335.1< (y335.2.2.2.2.length:Int)) (chk (0<=y335.1/\y335.1< (y335.2.1.length:Int)) (YAZ (rec ((YBh .i64 (bound1-(y335.2.1.getD y335.1.toNat (0:Int)))),y335.2.1,y335.2.2.1,y335.2.2.2.1,(y335.2.2.2.2.set y335.1.toNat (1:Int)))) fun y336=>chk (y336.2.2.2.2.2.length=(y335.2.2.2.2.set y335.1.toNat (1:Int)).length) (bif(!decide (y336.2.1=(0:Int)))then(some (([]:List (Int×Zt2)),y336.2.1,y336.2.2.1,y336.2.2.2.1,y336.2.2.2.2.1,y336.2.2.2.2.2))else(chk (0<=y335.1/\y335.1< (y336.2.2.2.2.2.length:Int)) (YAZ (rec (bound1,y336.2.2.1,y336.2.2.2.1,y336.2.2.2.2.1,(y336.2.2.2.2.2.set y335.1.toNat (2:Int)))) fun y337=>chk (y337.2.2.2.2.2.length=(y336.2.2.2.2.2.set y335.1.toNat (2:Int)).length) (bif(!decide (y337.2.1=(0:Int)))then(some (([]:List (Int×Zt2)),y337.2.1,y337.2.2.1,y337.2.2.2.1,y337.2.2.2.2.1,y337.2.2.2.2.2))else(chk (0<=y335.1/\y335.1< (y337.2.2.2.2.2.length:Int)) (YAZ (q85 lo ([[(y335.1,([]:List (Int×Int)))],y336.1,y337.1])) fun y341=>some (y341,(0:Int),y337.2.2.1,y337.2.2.2.1,y337.2.2.2.2.1,(y337.2.2.2.2.2.set y335.1.toNat (0:Int))))))))))))))))))))
def Ybl(lo:Lo):Nat->Int× (List Int)×Zt0×Int× (List Int)->Option Zp32
  |0,_=>none
  |n+1,x=>Ybk lo (Ybl lo n) x.1 x.2.1 x.2.2.1 x.2.2.2.1 x.2.2.2.2
def q86(lo:Lo)(bound1:Int)(s0_0:List Int)(s0_1:List ((List Int)))(s0_2:Int)(h1:List Int):Option Zp32:=lo.run (fixS (Ybl lo)) (0,(bound1,s0_0,s0_1,s0_2,h1))
def Yv5:VFn:=⟨true,90,[.t 4,.t 5],
 (Rg [o 4 (.mv (ke Zc3)),oK 5 0]
 (.seq (Rg [oM 12 0,oC 13 443 [12],oX 14 13]
 (.cond 14 (Rg [o 4 (.mv (ke Zc3)),oK 5 13]
 .ret)
 .skip))
 (.seq (Rg [oM 15 1,oR 16 .leq 15 (k 0),oM 17 16,gF 18 17 (.mv 0),gF 19 17 (.call 444 [18]),oP 20 17 (kb true) 19]
 (.cond 20 (Rg [o 21 (.build [.i .i64 0,.e (cs [I,I])] [(0,1,(k (-1)))]),o 22 (.bsl Zc3 1 [(0,21)]),oM 4 22,oK 5 0]
 .ret)
 .skip))
 (.seq (Rg [oM 24 0,oC 25 438 [24],oM 23 25,oE 26 23 0,oE 27 23 1,oM 6 26,oM 7 27]
 (Rg [oM 28 7,oM 29 1,oR 30 .geq 28 29]
 (.cond 30 (.seq (.fz [6] (.reg [oM 31 6,o 32 (.build [.i .i64 0,.e (cs [I,I])] [(0,1,(k (-1))),(1,1,31)]),o 33 (.bsl Zc3 1 [(0,32)]),oM 4 33,oK 5 0]))
 .ret)
 .skip)))
 (Rg [oM 34 0,oC 35 445 [34],oM 8 35]
 (.seq (Rg [oM 36 8,oR 37 .lss 36 (k 0)]
 (.cond 37 (Rg [o 4 (.mv (ke Zc3)),oK 5 11]
 .ret)
 .skip))
 (Rg [oM 38 0,o 39 (.nilc 38),oF 40 2 39,oL 41 40,oM 42 8,oI 43 1 41 42,on (.store 1 43 (k 1))]
 (Rg [oM 45 0,oM 46 1,oM 47 0,o 48 (.nilc 47),oF 49 0 48,oF 50 0 49,oL 51 50,oM 52 8,oI 53 1 51 52,oL 54 53,oR 55 .sub 46 54,oC 56 439 [45,55],oM 44 56,oE 57 44 0,oE 58 44 1,oM 9 57,oM 10 58]
 (.seq (Rg [oM 59 10,oR 60 .neq 59 (k 0)]
 (.cond 60 (Rg [oM 61 10,o 4 (.mv (ke Zc3)),oM 5 61]
 .ret)
 .skip))
 (Rg [oM 62 0,o 63 (.nilc 62),oF 64 2 63,oL 65 64,oM 66 8,oI 67 1 65 66,on (.store 1 67 (k 2))]
 (Rg [oM 69 0,oM 70 1,oC 71 439 [69,70],oM 68 71,oE 72 68 0,oE 73 68 1,oM 11 72,oM 10 73]
 (.seq (Rg [oM 74 10,oR 75 .neq 74 (k 0)]
 (.cond 75 (Rg [oM 76 10,o 4 (.mv (ke Zc3)),oM 5 76]
 .ret)
 .skip))
 (Rg [oM 77 0,o 78 (.nilc 77),oF 79 2 78,oL 80 79,oM 81 8,oI 82 1 80 81,on (.store 1 82 (k 0))]
 (Rg [oM 83 8,o 84 (.build [.i .i64 0,.e (cs [I,I])] [(0,1,83)]),o 85 (.bsl Zc3 1 [(0,84)]),oM 86 9,oM 87 11,o 88 (.bsl (cs [.l Zc3]) 3 [(0,85),(1,86),(2,87)]),oC 89 451 [88],oM 4 89,oK 5 0]
 .ret))))))))))))))⟩
def YmR(lo:Lo):FnE:=Yv4 (fun x=>q86 lo x.1 x.2.1 x.2.2.1 x.2.2.2.1 x.2.2.2.2)
def fs87(lo:Lo):List FnE:=YmR lo::fs86 lo
theorem Yv6(h:GZ P fm fs86 lo)(t:Ti P fm 439 Yv5):GZ P fm fs87 lo:=
  h.ir (YmR lo) (Ybl lo) (ls:=fun _=>[]) (fun _=>.n) t (by kernel_rfl) (fun _=>rfl) rfl (fun _=>by kernel_rfl) fun n x=>by kernel_rfl
def q87(lo:Lo)(in0_0:List Int)(in0_1:List ((List Int)))(bound1:Int)(budget2:Int):Option (Zt4×Int):=
  YAZ (q1 lo in0_0 in0_1) fun y327=>bif(!decide (y327=0))then(some (([]:List (Int×Zt2)),y327))else(bif(decide (budget2<1))then(some (([]:List (Int×Zt2)),(1:Int)))else(bif(decide (bound1< (-1000000000000000:Int)))then(some (([]:List (Int×Zt2)),(7:Int)))else(bif(decide (1000000000000000<bound1))then(some (([]:List (Int×Zt2)),(7:Int)))else(YAZ (q29 lo in0_0 in0_1 budget2) fun y328=>YAZ (q86 lo bound1 y328.1 y328.2.1 y328.2.2.1 y328.2.2.2) fun y342=>chk (y342.2.2.2.2.2.length=y328.2.2.2.length) (some (y342.1,y342.2.1))))))
def Yv7:VFn:=⟨true,31,[.t 6,.t 7],
 (Rg [oG 3 0,o 6 (.mv (ke Zc3)),oK 7 0]
 (.seq (Rg [oT 9 2 3,oC 10 401 [9],oM 8 10]
 (Rg [oM 11 8,oR 12 .neq 11 (k 0)]
 (.cond 12 (Rg [oM 13 8,o 6 (.mv (ke Zc3)),oM 7 13]
 (.fz [6,7] .ret))
 .skip)))
 (.seq (.blk 0 (Rg [oM 15 2,oR 16 .lss 15 (k 1),oM 14 16]
 (.cond 14 (Rg [o 6 (.mv (ke Zc3)),oK 7 1]
 (.fz [6,7] .ret))
 (Rg [oM 18 1,oR 19 .lss 18 (k (-1000000000000000)),oM 20 19,gF 21 20 (.mv 1),gF 22 20 (.bin .gtr 21 (k 1000000000000000)),oP 23 20 (kb true) 22,oM 17 23]
 (.cond 17 (Rg [o 6 (.mv (ke Zc3)),oK 7 7]
 (.fz [6,7] .ret))
 .skip)))))
 (Rg [oT 24 2 3,oM 25 2,oC 26 429 [24,25],oM 27 1,oC 28 439 [26,27],oE 29 28 0,oE 30 28 1,oM 6 29,oM 7 30]
 (.fz [6,7] .ret)))))⟩
def YmS(lo:Lo):FnE:=Zfe 417 true (Zsg [0,1,2] [.ag [.l (cs [I]),.l Zc1],.j,.j] []) (.tp [.l Zc3,.j]) [] (fun x=>q87 lo x.1 x.2.1 x.2.2.1 x.2.2.2:(List Int)×Zt0×Int×Int->Option (Zt4×Int))
def fs88(lo:Lo):List FnE:=YmS lo::fs87 lo
theorem Yv8(h:GZ P fm fs87 lo)(t:Ti P fm 417 Yv7):GZ P fm fs88 lo:=
  h.p (YmS lo) .n t
def fs89(lo:Lo):List FnE:=fs88 lo
def q89(lo:Lo)(l:List (Int×Int)):Option Zt2:=bif YAR l.length maxEl&&YAR 1 2 then some l else none
def Yv9(lo:Lo):FnE:=vcloneE 440 (cs [I,I])
def fs90(lo:Lo):List FnE:=Yv9 lo::fs89 lo
theorem Ywa(h:GZ P fm fs89 lo)(htie: ∀f,fm f=440->fnTr P fm pf f=some (8,[.t 2],YxC 2 [(.int .i64 0),(.int .i64 0)])):GZ P fm fs90 lo:=
  ⟨h.1,h.2,Yks h.S h.mx (cs [I,I]) rfl [(.int .i64 0),(.int .i64 0)] 8 (by decide) htie⟩
def q90_L25_b:VCode:=
 (Rg [oR 13 .lss 12 11]
 (.seq (Ce 13 0)
 (.seq (.blk 1 (Rg [oI 14 2 10 12,oT 15 2 14,o 7 (.alloc [.i .i64 0,.e (cs [I,I])]),oS 2 7 15]
 (.reg [oM 16 5,oF 17 0 7,⟨some 18,.load false 1 17,none,true,false⟩,oF 19 1 7,oL 20 19,o 21 (.callN 440 [20] false),o 22 (.build [.i .i64 0,.e (cs [I,I])] [(0,1,18),(1,1,21)]),o 23 (.bsl Zc3 1 [(0,22)]),o 24 (.app Zc3 2 16 23),oM 5 24])))
 (.reg [oR 25 .add 12 (k 1),oM 12 25]))))
def YdL(lo:Lo):Zp38->Option (Zp38⊕ ((Int×Int×Int×Zt4))):=fun x=>match x with
  | (v10,v11,v12,s3_0,s3_1,s3_2,out5)=>bif(decide (v12<v11))then(chk (0<=v12/\v12< (v10.length:Int)) (YAZ (q89 lo ((v10.getD v12.toNat ((0:Int),[])).2)) fun y355=>chk (out5.length+1<=maxEl) (some (.inl (v10,v11,(YBh .i64 (v12+1)),s3_0,s3_1,s3_2,(out5++[((v10.getD v12.toNat ((0:Int),[])).1,y355)]))))))else(some (.inr (s3_0,s3_1,s3_2,out5)))
def YgR(lo:Lo):Zp38->Option ((Int×Int×Int×Zt4)):=lo.run (YdL lo)
def Ywb(lo:Lo):LpE:=⟨25,[(5,none,true)],(Zsg [3,5,10,11,12] [.ptr 0 0 0,.ref 1,.l Zc3,.j,.j] [.st [.i .u8,.i .u8,.i .i8],.fm (cs [I]) true (cs [I,I])]),[⟨.exit 0,(Zsg [3,5] [.ptr 0 0 0,.ref 1] [.st [.i .u8,.i .u8,.i .i8],.fm (cs [I]) true (cs [I,I])])⟩],YgR lo⟩
def Ywc(lo:Lo):LL:=(Ywb lo,.loop q90_L25_b.er)::[]
theorem Ywd(lo:Lo):Lk lo pf (fs90 lo) 0 (Ywc lo):=.l .n (YdL lo)
def q90(lo:Lo)(l0:List (Int×Zt2))(s1_0:Int)(s1_1:Int)(s1_2:Int):Option (Zt4):=
  YAZ (YgR lo (l0,(l0.length:Int),(0:Int),s1_0,s1_1,s1_2,[])) fun y356=>bif(decide ((y356.2.2.2.length:Int)=0))then(some y356.2.2.2)else(chk ((y356.2.2.2.length:Int)≠0) (chk (0<=((YBh .i64 y356.2.1).tmod (y356.2.2.2.length:Int))/\ ((YBh .i64 y356.2.1).tmod (y356.2.2.2.length:Int))< (y356.2.2.2.length:Int)) (chk ((8:Int)≠0) (bif(decide ((y356.1.tmod (8:Int))=(1:Int)))then(some (y356.2.2.2.set (((YBh .i64 y356.2.1).tmod (y356.2.2.2.length:Int)).toNat) ((YBh .i64 (((y356.2.2.2.getD (((YBh .i64 y356.2.1).tmod (y356.2.2.2.length:Int)).toNat) ((0:Int),[])).1)+(YBh .i64 y356.2.2.1))),(y356.2.2.2.getD (((YBh .i64 y356.2.1).tmod (y356.2.2.2.length:Int)).toNat) ((0:Int),[])).2)))else(bif(decide ((y356.1.tmod (8:Int))=(2:Int)))then(bif(decide ((0:Int)< (((y356.2.2.2.getD (((YBh .i64 y356.2.1).tmod (y356.2.2.2.length:Int)).toNat) ((0:Int),[])).2).length:Int)))then(chk (0<=(0:Int)/\ (0:Int)< ((((y356.2.2.2.getD (((YBh .i64 y356.2.1).tmod (y356.2.2.2.length:Int)).toNat) ((0:Int),[])).2).length:Nat):Int)) (chk (0<=(0:Int)/\ (0:Int)< ((((y356.2.2.2.getD (((YBh .i64 y356.2.1).tmod (y356.2.2.2.length:Int)).toNat) ((0:Int),[])).2).length:Nat):Int)) (some (y356.2.2.2.set (((YBh .i64 y356.2.1).tmod (y356.2.2.2.length:Int)).toNat) ((y356.2.2.2.getD (((YBh .i64 y356.2.1).tmod (y356.2.2.2.length:Int)).toNat) ((0:Int),[])).1,(((y356.2.2.2.getD (((YBh .i64 y356.2.1).tmod (y356.2.2.2.length:Int)).toNat) ((0:Int),[])).2).set 0 ((((y356.2.2.2.getD (((YBh .i64 y356.2.1).tmod (y356.2.2.2.length:Int)).toNat) ((0:Int),[])).2).getD 0 ((0:Int),(0:Int))).1,(YBh .i64 (((((y356.2.2.2.getD (((YBh .i64 y356.2.1).tmod (y356.2.2.2.length:Int)).toNat) ((0:Int),[])).2).getD 0 ((0:Int),(0:Int))).2)+(YBh .i64 y356.2.2.1))))))))))else(some y356.2.2.2))else(bif(decide ((y356.1.tmod (8:Int))=(3:Int)))then(bif(decide ((0:Int)< (((y356.2.2.2.getD (((YBh .i64 y356.2.1).tmod (y356.2.2.2.length:Int)).toNat) ((0:Int),[])).2).length:Int)))then(chk (0<=(0:Int)/\ (0:Int)< ((((y356.2.2.2.getD (((YBh .i64 y356.2.1).tmod (y356.2.2.2.length:Int)).toNat) ((0:Int),[])).2).length:Nat):Int)) (chk (0<=(0:Int)/\ (0:Int)< ((((y356.2.2.2.getD (((YBh .i64 y356.2.1).tmod (y356.2.2.2.length:Int)).toNat) ((0:Int),[])).2).length:Nat):Int)) (some (y356.2.2.2.set (((YBh .i64 y356.2.1).tmod (y356.2.2.2.length:Int)).toNat) ((y356.2.2.2.getD (((YBh .i64 y356.2.1).tmod (y356.2.2.2.length:Int)).toNat) ((0:Int),[])).1,(((y356.2.2.2.getD (((YBh .i64 y356.2.1).tmod (y356.2.2.2.length:Int)).toNat) ((0:Int),[])).2).set 0 ((YBh .i64 (((((y356.2.2.2.getD (((YBh .i64 y356.2.1).tmod (y356.2.2.2.length:Int)).toNat) ((0:Int),[])).2).getD 0 ((0:Int),(0:Int))).1)+(YBh .i64 y356.2.2.1))),(((y356.2.2.2.getD (((YBh .i64 y356.2.1).tmod (y356.2.2.2.length:Int)).toNat) ((0:Int),[])).2).getD 0 ((0:Int),(0:Int))).2)))))))else(some y356.2.2.2))else(bif(decide ((y356.1.tmod (8:Int))=(4:Int)))then(some (y356.2.2.2.set (((YBh .i64 y356.2.1).tmod (y356.2.2.2.length:Int)).toNat) ((y356.2.2.2.getD (((YBh .i64 y356.2.1).tmod (y356.2.2.2.length:Int)).toNat) ((0:Int),[])).1,[])))else(bif(decide ((y356.1.tmod (8:Int))=(5:Int)))then(chk (((y356.2.2.2.getD (((YBh .i64 y356.2.1).tmod (y356.2.2.2.length:Int)).toNat) ((0:Int),[])).2).length+([((YBh .i64 y356.2.2.1),(1:Int))]).length<=maxEl) (chk (((YBh .i64 y356.2.1).tmod (y356.2.2.2.length:Int)).toNat=((YBh .i64 y356.2.1).tmod (y356.2.2.2.length:Int)).toNat) (some (y356.2.2.2.set (((YBh .i64 y356.2.1).tmod (y356.2.2.2.length:Int)).toNat) ((y356.2.2.2.getD (((YBh .i64 y356.2.1).tmod (y356.2.2.2.length:Int)).toNat) ((0:Int),[])).1,(((y356.2.2.2.getD (((YBh .i64 y356.2.1).tmod (y356.2.2.2.length:Int)).toNat) ((0:Int),[])).2)++([((YBh .i64 y356.2.2.1),(1:Int))])))))))else(bif(decide ((y356.1.tmod (8:Int))=(6:Int)))then(chk (y356.2.2.2.length+1<=maxEl) (some (y356.2.2.2++[((-1:Int),[])])))else(bif(decide ((y356.1.tmod (8:Int))=(7:Int)))then(chk ((0:Int)=0/\0<=(YBh .i64 ((y356.2.2.2.length:Int)-1))/\ (YBh .i64 ((y356.2.2.2.length:Int)-1))<=(y356.2.2.2.length:Int)) (some (y356.2.2.2.take (YBh .i64 ((y356.2.2.2.length:Int)-1)).toNat)))else(some y356.2.2.2)))))))))))
def Ywe:VFn:=⟨true,125,[.t 4],
 (Rg [oG 3 1,o 4 (.mv (ke Zc3))]
 (Rg [o 5 (.mv (ke Zc3))]
 (.seq (Rg [oM 10 0,oN 11 10,oK 12 0]
 (.blk 0 (.loop 25 q90_L25_b)))
 (.seq (.seq (.ow [(5,some 0,true)] (.reg [oM 26 5,oN 27 26,oR 28 .eql 27 (k 0)]))
 (.cond 28 (Rg [oM 29 5,oM 4 29]
 (Fr 4))
 .skip))
 (Rg [oM 30 5,oF 31 1 3,oL 32 31,o 33 (.conv .i64 32),oM 34 5,oN 35 34,oR 36 .rem 33 35,oI 37 2 30 36,oM 8 37]
 (Rg [oM 38 8,o 39 (.nilc 38),oF 40 1 39,oL 41 40,oN 42 41,oR 43 .gtr 42 (k 0),oM 9 43]
 (.seq (Rg [oF 44 0 3,oL 45 44,oR 46 .rem 45 (ki .u8 8)]
 (.blk 2 (Rg [oR 48 .eql 46 (ki .u8 1),oM 47 48]
 (.cond 47 (.reg [oM 49 8,o 50 (.nilc 49),oF 51 0 50,oL 52 51,oF 53 2 3,oL 54 53,o 55 (.conv .i64 54),oR 56 .add 52 55,o 57 (.nilc 49),oF 58 0 57,oS 1 58 56])
 (Rg [oR 60 .eql 46 (ki .u8 2),oM 59 60]
 (.cond 59 (Rg [oM 61 9]
 (.cond 61 (.reg [oM 62 8,o 63 (.nilc 62),oF 64 1 63,oL 65 64,o 66 (.iad 2 65 (k 0)),oF 67 1 66,oL 68 67,oF 69 2 3,oL 70 69,o 71 (.conv .i64 70),oR 72 .add 68 71,o 73 (.iad 2 65 (k 0)),oF 74 1 73,oS 1 74 72])
 .skip))
 (Rg [oR 76 .eql 46 (ki .u8 3),oM 75 76]
 (.cond 75 (Rg [oM 77 9]
 (.cond 77 (.reg [oM 78 8,o 79 (.nilc 78),oF 80 1 79,oL 81 80,o 82 (.iad 2 81 (k 0)),oF 83 0 82,oL 84 83,oF 85 2 3,oL 86 85,o 87 (.conv .i64 86),oR 88 .add 84 87,o 89 (.iad 2 81 (k 0)),oF 90 0 89,oS 1 90 88])
 .skip))
 (Rg [oR 92 .eql 46 (ki .u8 4),oM 91 92]
 (.cond 91 (.reg [oM 93 8,o 94 (.nilc 93),oF 95 1 94,on (.store 1 95 (ke (cs [I,I])))])
 (Rg [oR 97 .eql 46 (ki .u8 5),oM 96 97]
 (.cond 96 (.reg [oM 98 8,oM 99 8,o 100 (.nilc 99),oF 101 1 100,oL 102 101,oF 103 2 3,oL 104 103,o 105 (.conv .i64 104),o 106 (.build [.i .i64 0,.i .i64 0] [(0,1,105),(1,1,(k 1))]),o 107 (.bsl (cs [I,I]) 1 [(0,106)]),o 108 (.app (cs [I,I]) 0 102 107),o 109 (.nilc 98),oF 110 1 109,oS 1 110 108])
 (Rg [oR 112 .eql 46 (ki .u8 6),oM 111 112]
 (.cond 111 (.reg [oM 113 5,o 114 (.build [.i .i64 0,.e (cs [I,I])] [(0,1,(k (-1)))]),o 115 (.bslT Zc3 1 [(0,114)]),o 116 (.app Zc3 2 113 115),oM 5 116])
 (Rg [oR 118 .eql 46 (ki .u8 7),oM 117 118]
 (.cond 117 (.reg [oM 119 5,oM 120 5,oN 121 120,oR 122 .sub 121 (k 1),o 123 (.slcR 2 119 none (some 122)),oM 5 123])
 .skip))))))))))))))))
 (Rg [oM 124 5,oM 4 124]
 (Fr 4)))))))))⟩
def YmT(lo:Lo):FnE:=Zfe 419 true (Zsg [0,1] [.l Zc3,.ag [.i .u8,.i .u8,.i .i8]] []) (.l Zc3) [] (fun x=>q90 lo x.1 x.2.1 x.2.2.1 x.2.2.2:Zt4×Int×Int×Int->Option (Zt4))
def fs91(lo:Lo):List FnE:=YmT lo::fs90 lo
theorem Ywf(h:GZ P fm fs90 lo)(t:Ti P fm 419 Ywe):GZ P fm fs91 lo:=
  h.p (YmT lo) (Ywd lo) t
def q91(lo:Lo)(d0_0:List Int)(d0_1:List Int)(offset1:Int)(s2_0:Int)(s2_1:Int)(s2_2:Int):Option Bool:=
  YAZ (q57 lo d0_0 d0_1) fun y348=>YAZ (q53 lo) fun y349=>bif(!y349)then(YAZ (q53 lo) fun y350=>some y350)else(bif(!y348.2.2)then(YAZ (q53 lo) fun y351=>some y351)else(YAZ (q64 lo y348.1 y348.2.1) fun y352=>YAZ (q87 lo y348.1 y348.2.1 y352 (10000:Int)) fun y353=>bif(!decide (y353.2=(0:Int)))then(some false)else(YAZ (q52 lo y348.1 y348.2.1 y352 y353.1) fun y354=>bif(!y354)then(some false)else(YAZ (q90 lo y353.1 s2_0 s2_1 s2_2) fun y357=>YAZ (q52 lo y348.1 y348.2.1 (YBh .i64 (y352+(YBh .i64 offset1))) y357) fun y358=>YAZ (q71 lo y348.1 y348.2.1 (YBh .i64 (y352+(YBh .i64 offset1))) y357) fun y359=>some (y358==y359)))))
def Ywg:VFn:=⟨true,59,[.t 6],
 (Rg [oG 3 0,oG 5 2,oB 6 false]
 (Rg [oT 15 2 3,oC 16 403 [15],oM 14 16,oE 17 14 0,oE 18 14 1,o 7 (.alloc [.e (cs [I]),.e Zc1]),oS 2 7 17,oM 8 18]
 (.seq (Rg [oC 19 400 [],oX 20 19,oM 21 20,gF 22 21 (.mv 8),gF 23 21 (.not 22),oP 24 21 (kb true) 23]
 (.cond 24 (Rg [oC 25 400 [],oM 6 25]
 (Fr 6))
 .skip))
 (Rg [oT 26 2 7,oC 27 408 [26],oM 9 27]
 (Rg [oT 29 2 7,oM 30 9,oC 31 417 [29,30,(k 10000)],oM 28 31,oE 32 28 0,oE 33 28 1,oM 10 32,oM 11 33]
 (.seq (Rg [oM 34 11,oR 35 .neq 34 (k 0),oM 36 35,gF 37 36 (.load true 2 7),gF 38 36 (.mv 9),gF 39 36 (.mv 10),gF 40 36 (.call 411 [37,38,39]),gF 41 36 (.not 40),oP 42 36 (kb true) 41]
 (.cond 42 (Rg [oB 6 false]
 (Fr 6))
 .skip))
 (Rg [oM 43 10,oT 44 3 5,oC 45 419 [43,44],oM 46 9,oM 47 1,o 48 (.conv .i64 47),oR 49 .add 46 48,oM 12 45,oM 13 49]
 (Rg [oT 50 2 7,oM 51 13,oM 52 12,oC 53 411 [50,51,52],oT 54 2 7,oM 55 13,oM 56 12,oC 57 412 [54,55,56],o 58 (.beq false 53 57),oM 6 58]
 (Fr 6)))))))))⟩
def q91_f(lo:Lo):FnE:=Zfe 398 true (Zsg [0,1,2] [.ag [.l (cs [.i .u8]),.l (cs [.i .u16])],.i .i8,.ag [.i .u8,.i .u8,.i .i8]] []) .b [] (fun x=>q91 lo x.1 x.2.1 x.2.2.1 x.2.2.2.1 x.2.2.2.2.1 x.2.2.2.2.2:(List Int)× (List Int)×Int×Int×Int×Int->Option Bool)
def fs92(lo:Lo):List FnE:=q91_f lo::fs91 lo
theorem Ywh(h:GZ P fm fs91 lo)(t:Ti P fm 398 Ywg):GZ P fm fs92 lo:=
  h.p (q91_f lo) .n t
end Go.Abs.G39
