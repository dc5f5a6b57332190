/- Functions of the program as functions of data (written by program). No condition. -/
import Derived.Test.YtlmcnindhfbkhaaGreatDoorB
set_option linter.unusedVariables false
set_option linter.unusedSimpArgs false
set_option linter.unusedSectionVars false
open List renaming mem_cons_self → YEg
open Nat renaming beq → YEH, ble → YEL
open Option renaming bind → YEV
open ByteArray renaming mk → YFf
open Go.IntKind renaming wrap → YFg
namespace Go.Abs.G47
open Go Go.Abs
abbrev Zt5:Type:=List (ByteArray×Int×Int×ByteArray)
abbrev Zt0:Type:=List (ByteArray×Zt5)
abbrev Zt4:Type:=List ByteArray
abbrev Zt7:Type:=List (Int×Int×ByteArray)
abbrev Zt15:Type:=List (Int×Zt7)
abbrev Zt1:Type:=List (ByteArray×Zt4×Zt15)
abbrev Zc9:Cs:=cs [.s,I,I,.s]
abbrev Zc2:Cs:=cs [.s,.l Zc9]
abbrev Zc10:Cs:=cs [I,I,.s]
abbrev Zc18:Cs:=cs [I,.l Zc10]
abbrev Zc3:Cs:=cs [.s,.l (cs [.s]),.l Zc18]
abbrev Zt6:Type:=List (Int×ByteArray×Int×Int×ByteArray)
abbrev Zt8:Type:=List (Int×ByteArray×ByteArray×Int×Int×ByteArray)
abbrev Zt11:Type:=List (Int×ByteArray×Zt7)
abbrev Zc12:Cs:=cs [I,.s,I,I,.s]
abbrev Zt13:Type:=List ((List Int))
abbrev Zc14:Cs:=cs [I,.s,.l Zc10]
abbrev Zc16:Cs:=cs [I,.s,.s,I,I,.s]
abbrev Zc17:Cs:=cs [.l (cs [I])]
abbrev Zc19:Cs:=cs [.l (cs [.s]),.l Zc2,.l (cs [.s]),.l Zc2]
abbrev Zc20:Cs:=cs [.l (cs [.s]),.l Zc2]
abbrev Zc21:Cs:=cs [.b,.l (cs [.s]),.l Zc2,.l Zc3,I,.l Zc12,.b,.b,.l (cs [I]),I,.l Zc14,.b,.l (cs [.s])]
abbrev Zc22:Cs:=cs [.b,.l (cs [.s]),.l Zc2,.l Zc3,I,.l Zc12,.b,.b,.l (cs [I]),.l Zc17,.l (cs [.s])]
abbrev Zc23:Cs:=cs [.l (cs [.s]),.l Zc2,.l Zc3,I,.l Zc12,.b,.b,.l (cs [I])]
abbrev Zc24:Cs:=cs [.l Zc9,I,I,.l (cs [.s]),.l Zc2,.l Zc3,I,.l Zc12,.b,.b,.l (cs [I]),I,.l Zc14,.b,I,.l Zc10,.l (cs [.s])]
abbrev Zc25:Cs:=cs [.b,.l (cs [.s]),.l Zc2,.l Zc3,I,.l Zc12,.b,.b,.l (cs [I]),.l Zc17]
abbrev Zc26:Cs:=cs [.l Zc9,I,I,.l (cs [.s]),.l Zc2,.l Zc3,I,.l Zc12,.b,.b,.l (cs [I]),.l Zc17,I,.l Zc10,.l (cs [.s])]
abbrev Zc27:Cs:=cs [.l (cs [.s])]
abbrev Zc28:Cs:=cs [I,I,I,.b,.b,.l (cs [.s])]
abbrev Zc29:Cs:=cs [.l Zc10,.l (cs [.s]),I,I,.l (cs [.s]),.l Zc2,.l Zc3,I,.l Zc12,.b,.b,.l (cs [I])]
abbrev Zc30:Cs:=cs [.l (cs [.s]),.l Zc2,.l Zc3,I,.l Zc12,.b,.b,.l (cs [I]),I,.l Zc14,.b,.l Zc10]
abbrev Zc31:Cs:=cs [.l Zc10]
abbrev Zc32:Cs:=cs [.b,.l (cs [.s]),.l Zc2,.l Zc3,I,.l Zc12,.b,.b,I,.l Zc14,.b,.l (cs [I])]
abbrev Zc33:Cs:=cs [I,.b,.l Zc9,I,I,.l (cs [.s]),.l Zc2,.l Zc3,I,.l Zc12,.b,.b,.l (cs [I]),I,.l Zc14,.b,I,.l Zc10,.l (cs [.s]),.s,I,I,.s,I,I,.s]
abbrev Zc34:Cs:=cs [I,.b,.l Zc9,I,I,.l (cs [.s]),.l Zc2,.l Zc3,I,.l Zc12,.b,.b,.l (cs [I]),.l Zc17,I,.l Zc10,.l (cs [.s]),.s,I,I,.s,I,I,.s]
abbrev Zc35:Cs:=cs [I,.l (cs [.s]),.l Zc2,.l (cs [.s]),.l Zc2]
abbrev Zc36:Cs:=cs [I,.s]
abbrev Zc37:Cs:=cs [.l Zc2]
abbrev Zc38:Cs:=cs [.i .u8]
abbrev Zc39:Cs:=cs [I,.b,.l Zc18,I,I,I,I,.l (cs [.s]),.l Zc2,.l Zc3,I,.l Zc12,.b,.b,I,.l Zc14,.b,.l (cs [.s]),.l (cs [I])]
abbrev Zc40:Cs:=cs [.l Zc9,I,I,I,.l Zc16,.b,.b,.s,.l Zc9,.l (cs [.s])]
abbrev Zc41:Cs:=cs [.l Zc3,.l (cs [.s]),.l Zc2,.l Zc10]
abbrev Zc42:Cs:=cs [I,I,I,.l (cs [.s])]
abbrev Zp43:Type:=Int×Bool×Zt15×Int×Int×Int×Int×Zt4×Zt0×Zt1×Int×Zt6×Bool×Bool×Int×Zt11×Bool×Zt4× (List Int)
abbrev Zp44:Type:=Int×Bool×Zt15×Int×Int×Int×Int×Zt4×Zt0×Zt1×Int×Zt6×Bool×Bool×Zt4× (List Int)×Zt13
abbrev Zp45:Type:=Zt5×Int×Int×Zt4×Zt0×Zt1×Int×Zt6×Bool×Bool× (List Int)×Int×Zt11×Bool×Int×Zt7×Zt4
abbrev Zp46:Type:=Int×Int×Zt4×Zt0×Int×Zt11×Bool×Zt1×Int×Zt6×Bool×Bool× (List Int)×Zt7×ByteArray
abbrev Zp47:Type:=Int×Zt15×Int×Int×Zt4×Zt0×Zt1×Int×Zt6×Bool×Bool×Int×Zt11×Bool× (List Int)
abbrev Zp48:Type:=Zt4×Int×Int×Zt4×Zt0×Zt1×Int×Zt6×Bool×Bool× (List Int)×Int×Zt11×Bool×Zt7
abbrev Zp49:Type:=Zt5×Int×Int×Zt4×Zt0×Zt1×Int×Zt6×Bool×Bool× (List Int)×Zt13×Int×Zt7×Zt4
abbrev Zp50:Type:=Int×Zt15×Int×Int×Zt4×Zt0×Zt1×Int×Zt6×Bool×Bool× (List Int)×Zt13
abbrev Zp51:Type:=Int×Zt4×Zt0×Zt1×Int×Zt6×Bool×Bool× (List Int)×Int×Zt11×Bool
abbrev Zp52:Type:=Zt0×Int×Int×Zt1×Zt4×Zt0×Zt1×Int×Zt6×Bool×Bool× (List Int)
abbrev Zp53:Type:=Zt7×Zt4×Int×Int×Zt4×Zt0×Zt1×Int×Zt6×Bool×Bool× (List Int)
abbrev Zp54:Type:=Zt0×Int×Int×Zt5×Int×Int×Zt4×Zt0×Zt4×ByteArray×Zt5×Zt4
abbrev Zp55:Type:=Zt0×Zt0×Zt0×Int×Int×Zt4×Int×Int×Int×Zt8×Bool×Bool
abbrev Zp56:Type:=Int×Zt4×Zt0×Zt1×Int×Zt6×Bool×Bool× (List Int)×Zt13
abbrev Zp57:Type:=Zt5×Int×Int×Int×Zt8×Bool×Bool×ByteArray×Zt5×Zt4
abbrev Zp58:Type:=Zt4×Int×Int×Zt4×Zt0×Zt4×Zt0×Int×Zt8×Bool×Bool
abbrev Zp59:Type:=Zt5×Bool×Int×Zt4×Zt5×ByteArray×Zt5×Zt4×Zt5
abbrev Zp60:Type:=(Zt4×Int×Int× (List Int)×Bool×Int×Zt11×Bool)
abbrev Zp61:Type:=Zt0×Zt0×Zt0×Int×Int×Int×Zt8×Bool×Bool
abbrev Zp62:Type:=ByteArray×Zt1×Int×Int×ByteArray×Zt4×Zt15
abbrev Zp63:Type:=Int×Zt4×Zt0×Zt4×Zt0×Zt4×Zt5×Zt4×Zt5
abbrev Zp64:Type:=Int×Int× (List (Zt7))×Zt4×Int×Zt11×Bool
abbrev Zp65:Type:=Int×Zt15×Int×Int×ByteArray×Zt4×Zt15
abbrev Zp66:Type:=Zt4×Int×Int×Int×Zt8×Bool×Bool×Zt5
abbrev Zp67:Type:=(List Int)×Int×Int×Int×Zt7×Int×Zt7
abbrev Zp68:Type:=Int×Int×Int×Int×ByteArray×ByteArray
abbrev Zp69:Type:=(List (Zt0))×Int× (List (Zt0))×Int×Int
abbrev Zp70:Type:=Zt4×Int×Int×ByteArray×Zt4×Zt15
abbrev Zp71:Type:=Zt0×Int×Int×Zt5×Int×Int×Zt4
abbrev Zp72:Type:=Zt0×Int×Int×Zt4×Zt0×Zt4×Zt0
abbrev Zp73:Type:=Zt0×Zt0×Int×Zt4×Zt5×Zt4×Zt5
abbrev Zp74:Type:=Int×Int×Int×Bool×Bool×Zt4
abbrev Zp75:Type:=Zt0×Zt0×Int×Zt8×Bool×Bool
abbrev Zp76:Type:=ByteArray×Int×Int×ByteArray
abbrev oM(n a:Nat):VI:=o n (.mv (t a))
abbrev oL(n a:Nat):VI:=o n (.load false 1 (t a))
abbrev oF(n i a:Nat):VI:=o n (.fad i (t a))
abbrev oE(n a i:Nat):VI:=o n (.ext (t a) i)
abbrev oN(n a:Nat):VI:=o n (.len (t a))
set_option maxRecDepth 100000
set_option maxHeartbeats 1000000
abbrev pf:Nat->Bool:=fun g=> !(List.any ([310,502,512,513,514,149,151,515,520,532,534,537,539,540,541,164,543,546,188,557,200,559,560,426,561,196,323,324,293,442,327,309,491,271,301,311,312,313,315,316,318,319,322,1084,487,492,493,269,527,245,548]:List Nat) (YEH g))
abbrev GZ(P:Program)(fm:FM)(fs:Lo->List FnE)(lo:Lo):Prop:=GS P fm pf (fs lo) lo
abbrev Ti(P:Program)(fm:FM)(g:Nat)(F:VFn):Prop:=TieF P fm pf g F
def fs0(_:Lo):List FnE:=[]
def q0(lo:Lo)(i0:Int):Option Zp76:=
  some ((YFf #[]),(1:Int),i0,(YFf #[]))
def YrZ:VFn:=⟨true,6,[.c 2 true 4],
 (.seq (.reg [o 2 (.alloc [.s (⟨#[]⟩),.i .i64 0,.i .i64 0,.s (⟨#[]⟩)])])
 (.seq (.reg [oM 3 0,o 4 (.build [.i .i64 0,.i .i64 0,.s (⟨#[]⟩)] [(0,1,(k 1)),(1,1,(t 3))]),o 5 (.build [.s (⟨#[]⟩),.i .i64 0,.i .i64 0,.s (⟨#[]⟩)] [(1,3,(t 4))]),on (.store 4 (t 2) (t 5))])
 (.fz [2] .ret)))⟩
def Yj2(lo:Lo):FnE:=⟨498,true,⟨[0],[.i .i64],[],(cs [I])⟩,.ag [.s,.i .i64,.i .i64,.s],[],Zc9,(fun x=>q0 lo x:Int->Option Zp76)⟩
def fs1(lo:Lo):List FnE:=Yj2 lo::fs0 lo
theorem Yr0{P:Program}{fm:FM}{lo:Lo}(h:GZ P fm fs0 lo)(t:Ti P fm 498 YrZ):GZ P fm fs1 lo:=
  h.p (Yj2 lo) .n t (by kernel_rfl) (by kernel_rfl) fun x=>by kernel_rfl
def q1_L3_b:VCode:=
 (.seq (.reg [o 13 (.bin .lss (t 12) (t 11))])
 (.seq (.cond (t 13) .skip
 (.exit 0))
 (.seq (.blk 1 (.seq (.reg [o 14 (.iad 1 (t 10) (t 12)),oL 15 14,oM 7 15])
 (.reg [oF 16 1 5,oL 17 16,oM 18 7,o 19 (.call 498 [(t 18)]),o 20 (.fld true 1 3 (t 19)),o 21 (.bsl Zc10 1 [(0,(t 20))]),o 22 (.app Zc10 0 (t 17) (t 21)),oF 23 1 5,on (.store 1 (t 23) (t 22))])))
 (.reg [o 24 (.bin .add (t 12) (k 1)),oM 12 24]))))
def Yj3(lo:Lo):Zp67->Option (Zp67⊕ ((Int×Zt7×Int×Zt7))):=fun x=>match x with
  | (v10,v11,v12,v4_0,v4_1,r5,h2)=>bif(decide (v12<v11))then(chk (0<=v12/\v12< (v10.length:Int)) (YEV (q0 lo (v10.getD v12.toNat (0:Int))) fun y0=>chk (h2.length+[y0.2].length<=maxEl) (some (.inl (v10,v11,(YFg .i64 (v12+(1:Int))),v4_0,v4_1,r5,(h2++[y0.2]))))))else(some (.inr (v4_0,v4_1,r5,h2)))
def Yj4(lo:Lo):Zp67->Option ((Int×Zt7×Int×Zt7)):=lo.run (Yj3 lo)
def Yr1(lo:Lo):LpE:=⟨3,[(5,some 1,false)],⟨[4,5,10,11,12],[.ptr 0 0 0,.ptr 1 0 0,.l (cs [I]),.i .i64,.i .i64],[.st [.i .i64,.l Zc10],.st [.i .i64,.ref 2],.sq Zc10],(cs [.l (cs [I]),I,I,I,.l Zc10,I,.l Zc10])⟩,[⟨.exit 0,⟨[4,5],[.ptr 0 0 0,.ptr 1 0 0],[.st [.i .i64,.l Zc10],.st [.i .i64,.ref 2],.sq Zc10],(cs [I,.l Zc10,I,.l Zc10])⟩⟩],Yj4 lo⟩
def Yr2(lo:Lo):LL:=(Yr1 lo,.loop q1_L3_b.er)::[]
theorem Yr3(lo:Lo):Lk lo pf (fs1 lo) 0 (Yr2 lo):=.l .n (Yj3 lo) rfl (by kernel_rfl) fun x=>by kernel_rfl
def q1(lo:Lo)(id0:Int)(l1:List Int):Option (Int×Zt7):=
  YEV (Yj4 lo (l1,(l1.length:Int),(0:Int),(0:Int),([]:List (Int×Int×ByteArray)),id0,[])) fun y1=>some (y1.2.2.1,y1.2.2.2)
def Yr4:VFn:=⟨true,26,[.c 4 true 2],
 (.seq (.reg [o 4 (.alloc [.i .i64 0,.e Zc10])])
 (.seq (.reg [oM 8 0,o 9 (.build [.i .i64 0,.e Zc10] [(0,1,(t 8))]),o 5 (.alloc [.i .i64 0,.e Zc10]),on (.store 2 (t 5) (t 9))])
 (.seq (.seq (.reg [oM 10 1,oN 11 10,o 12 (.mv (k 0))])
 (.blk 0 (.loop 3 q1_L3_b)))
 (.seq (.reg [o 25 (.load true 2 (t 5)),on (.store 2 (t 4) (t 25))])
 (.fz [4] .ret)))))⟩
def Yj5(lo:Lo):FnE:=⟨497,true,⟨[0,1],[.i .i64,.l (cs [I])],[],(cs [I,.l (cs [I])])⟩,.ag [.i .i64,.l Zc10],[],Zc18,(fun x=>q1 lo x.1 x.2:Int× (List Int)->Option (Int×Zt7))⟩
def fs2(lo:Lo):List FnE:=Yj5 lo::fs1 lo
theorem Yr5{P:Program}{fm:FM}{lo:Lo}(h:GZ P fm fs1 lo)(t:Ti P fm 497 Yr4):GZ P fm fs2 lo:=
  h.p (Yj5 lo) (Yr3 lo) t (by kernel_rfl) (by kernel_rfl) fun x=>by kernel_rfl
def q2(lo:Lo)(s0:ByteArray):Option Zp76:=
  some (s0,(0:Int),(0:Int),(YFf #[]))
def Yr6:VFn:=⟨true,5,[.c 2 true 4],
 (.seq (.reg [o 2 (.alloc [.s (⟨#[]⟩),.i .i64 0,.i .i64 0,.s (⟨#[]⟩)])])
 (.seq (.reg [oM 3 0,o 4 (.build [.s (⟨#[]⟩),.i .i64 0,.i .i64 0,.s (⟨#[]⟩)] [(0,1,(t 3))]),on (.store 4 (t 2) (t 4))])
 (.fz [2] .ret)))⟩
def Yj6(lo:Lo):FnE:=⟨499,true,⟨[0],[.s],[],(cs [.s])⟩,.ag [.s,.i .i64,.i .i64,.s],[],Zc9,(fun x=>q2 lo x:ByteArray->Option Zp76)⟩
def fs3(lo:Lo):List FnE:=Yj6 lo::fs2 lo
theorem Yr7{P:Program}{fm:FM}{lo:Lo}(h:GZ P fm fs2 lo)(t:Ti P fm 499 Yr6):GZ P fm fs3 lo:=
  h.p (Yj6 lo) .n t (by kernel_rfl) (by kernel_rfl) fun x=>by kernel_rfl
def q3_L3_b:VCode:=
 (.seq (.reg [o 20 (.bin .lss (t 19) (t 18))])
 (.seq (.cond (t 20) .skip
 (.exit 0))
 (.seq (.blk 1 (.seq (.reg [oM 21 19,oM 3 21])
 (.seq (.reg [oM 22 0,oM 23 3,o 24 (.idx (t 22) (t 23)),oM 4 24])
 (.seq (.reg [oM 25 4,o 26 (.bin .geq (t 25) (ki .u8 97)),oM 27 26,og 28 27 true (.mv (t 4)),og 29 27 true (.bin .leq (t 28) (ki .u8 122)),o 30 (.pick (t 27) (t 29) (kb false)),oM 31 30,og 32 31 false (.mv (t 4)),og 33 31 false (.bin .geq (t 32) (ki .u8 65)),og 34 31 false (.mv (t 33)),og 35 34 true (.mv (t 4)),og 36 34 true (.bin .leq (t 35) (ki .u8 90)),og 37 31 false (.pick (t 34) (t 36) (kb false)),o 38 (.pick (t 31) (kb true) (t 37)),oM 39 38,og 40 39 false (.mv (t 4)),og 41 39 false (.bin .eql (t 40) (ki .u8 95)),o 42 (.pick (t 39) (kb true) (t 41)),oM 5 42])
 (.seq (.reg [oM 43 5,o 44 (.not (t 43)),oM 45 44,og 46 45 true (.mv (t 3)),og 47 45 true (.bin .eql (t 46) (k 0)),og 48 45 true (.mv (t 47)),og 49 48 false (.mv (t 4)),og 50 48 false (.bin .lss (t 49) (ki .u8 48)),og 51 45 true (.pick (t 48) (kb true) (t 50)),og 52 45 true (.mv (t 51)),og 53 52 false (.mv (t 4)),og 54 52 false (.bin .gtr (t 53) (ki .u8 57)),og 55 45 true (.pick (t 52) (kb true) (t 54)),o 56 (.pick (t 45) (t 55) (kb false))])
 (.cond (t 56) (.seq (.reg [o 2 (.mv (kb false))])
 (.fz [2] .ret))
 .skip))))))
 (.reg [o 57 (.bin .add (t 19) (k 1)),oM 19 57]))))
def Yj7(lo:Lo):ByteArray×Int×Int->Option ((ByteArray×Int×Int)⊕ (Bool⊕Unit)):=fun x=>match x with
  | (s0,v18,v19)=>bif(decide (v19<v18))then(chk (0<=v19/\v19< (s0.size:Int)) (bif(decide ((97:Int)<=(YzT s0 v19)))then(bif(decide ((YzT s0 v19)<=(122:Int)))then(bif(!true)then(bif(decide (v19=(0:Int)))then(some (.inr (.inl false)))else(bif(decide ((YzT s0 v19)< (48:Int)))then(some (.inr (.inl false)))else(bif(decide ((57:Int)< (YzT s0 v19)))then(some (.inr (.inl false)))else(some (.inl (s0,v18,(YFg .i64 (v19+(1:Int)))))))))else(some (.inl (s0,v18,(YFg .i64 (v19+(1:Int)))))))else(bif(decide ((65:Int)<=(YzT s0 v19)))then(bif(decide ((YzT s0 v19)<=(90:Int)))then(bif(!true)then(bif(decide (v19=(0:Int)))then(some (.inr (.inl false)))else(bif(decide ((YzT s0 v19)< (48:Int)))then(some (.inr (.inl false)))else(bif(decide ((57:Int)< (YzT s0 v19)))then(some (.inr (.inl false)))else(some (.inl (s0,v18,(YFg .i64 (v19+(1:Int)))))))))else(some (.inl (s0,v18,(YFg .i64 (v19+(1:Int)))))))else(bif(!(decide ((YzT s0 v19)=(95:Int))))then(bif(decide (v19=(0:Int)))then(some (.inr (.inl false)))else(bif(decide ((YzT s0 v19)< (48:Int)))then(some (.inr (.inl false)))else(bif(decide ((57:Int)< (YzT s0 v19)))then(some (.inr (.inl false)))else(some (.inl (s0,v18,(YFg .i64 (v19+(1:Int)))))))))else(some (.inl (s0,v18,(YFg .i64 (v19+(1:Int))))))))else(bif(!(decide ((YzT s0 v19)=(95:Int))))then(bif(decide (v19=(0:Int)))then(some (.inr (.inl false)))else(bif(decide ((YzT s0 v19)< (48:Int)))then(some (.inr (.inl false)))else(bif(decide ((57:Int)< (YzT s0 v19)))then(some (.inr (.inl false)))else(some (.inl (s0,v18,(YFg .i64 (v19+(1:Int)))))))))else(some (.inl (s0,v18,(YFg .i64 (v19+(1:Int)))))))))else(bif(decide ((65:Int)<=(YzT s0 v19)))then(bif(decide ((YzT s0 v19)<=(90:Int)))then(bif(!true)then(bif(decide (v19=(0:Int)))then(some (.inr (.inl false)))else(bif(decide ((YzT s0 v19)< (48:Int)))then(some (.inr (.inl false)))else(bif(decide ((57:Int)< (YzT s0 v19)))then(some (.inr (.inl false)))else(some (.inl (s0,v18,(YFg .i64 (v19+(1:Int)))))))))else(some (.inl (s0,v18,(YFg .i64 (v19+(1:Int)))))))else(bif(!(decide ((YzT s0 v19)=(95:Int))))then(bif(decide (v19=(0:Int)))then(some (.inr (.inl false)))else(bif(decide ((YzT s0 v19)< (48:Int)))then(some (.inr (.inl false)))else(bif(decide ((57:Int)< (YzT s0 v19)))then(some (.inr (.inl false)))else(some (.inl (s0,v18,(YFg .i64 (v19+(1:Int)))))))))else(some (.inl (s0,v18,(YFg .i64 (v19+(1:Int))))))))else(bif(!(decide ((YzT s0 v19)=(95:Int))))then(bif(decide (v19=(0:Int)))then(some (.inr (.inl false)))else(bif(decide ((YzT s0 v19)< (48:Int)))then(some (.inr (.inl false)))else(bif(decide ((57:Int)< (YzT s0 v19)))then(some (.inr (.inl false)))else(some (.inl (s0,v18,(YFg .i64 (v19+(1:Int)))))))))else(some (.inl (s0,v18,(YFg .i64 (v19+(1:Int))))))))))else(some (.inr (.inr ())))
def Yj8(lo:Lo):ByteArray×Int×Int->Option (Bool⊕Unit):=lo.run (Yj7 lo)
def Yr8(lo:Lo):LpE:=⟨3,[],⟨[0,18,19],[.s,.i .i64,.i .i64],[],(cs [.s,I,I])⟩,[⟨.ret,⟨[2],[.b],[],(cs [.b])⟩⟩,⟨.exit 0,⟨[],[],[],(cs [])⟩⟩],Yj8 lo⟩
def Yr9(lo:Lo):LL:=(Yr8 lo,.loop q3_L3_b.er)::[]
theorem Ysa(lo:Lo):Lk lo pf (fs3 lo) 0 (Yr9 lo):=.l .n (Yj7 lo) rfl (by kernel_rfl) fun x=>by kernel_rfl
def q3(lo:Lo)(s0:ByteArray):Option Bool:=
  bif(decide (s0=(YFf #[])))then(some false)else(bif(decide ((24:Int)< (s0.size:Int)))then(some false)else(bif(decide (s0=(YFf #[110,117,108,108])))then(some false)else(YEV (Yj8 lo (s0,(s0.size:Int),(0:Int))) fun y9=>alt2 y9 (fun y10=>some y10) (fun y11=>some true))))
def Ysb:VFn:=⟨true,58,[.t 2],
 (.seq (.reg [o 2 (.mv (kb false))])
 (.seq (.seq (.reg [oM 6 0,o 7 (.bin .eql (t 6) (ks (⟨#[]⟩))),oM 8 7,og 9 8 false (.mv (t 0)),og 10 8 false (.lenS (t 9)),og 11 8 false (.bin .gtr (t 10) (k 24)),o 12 (.pick (t 8) (kb true) (t 11)),oM 13 12,og 14 13 false (.mv (t 0)),og 15 13 false (.bin .eql (t 14) (ks (⟨#[110,117,108,108]⟩))),o 16 (.pick (t 13) (kb true) (t 15))])
 (.cond (t 16) (.seq (.reg [o 2 (.mv (kb false))])
 (.fz [2] .ret))
 .skip))
 (.seq (.seq (.reg [oM 17 0,o 18 (.lenS (t 17)),o 19 (.mv (k 0))])
 (.blk 0 (.loop 3 q3_L3_b)))
 (.seq (.reg [o 2 (.mv (kb true))])
 (.fz [2] .ret)))))⟩
def Yj9(lo:Lo):FnE:=⟨255,true,⟨[0],[.s],[],(cs [.s])⟩,.b,[],(cs [.b]),(fun x=>q3 lo x:ByteArray->Option Bool)⟩
def fs4(lo:Lo):List FnE:=Yj9 lo::fs3 lo
theorem Ysc{P:Program}{fm:FM}{lo:Lo}(h:GZ P fm fs3 lo)(t:Ti P fm 255 Ysb):GZ P fm fs4 lo:=
  h.p (Yj9 lo) (Ysa lo) t (by kernel_rfl) (by kernel_rfl) fun x=>by kernel_rfl
def q4_L3_b:VCode:=
 (.seq (.reg [o 9 (.bin .lss (t 8) (t 7))])
 (.seq (.cond (t 9) .skip
 (.exit 0))
 (.seq (.blk 1 (.seq (.reg [oM 10 8,oM 5 10])
 (.seq (.reg [oM 11 1,oM 12 0,oM 13 5,o 14 (.iad 1 (t 12) (t 13)),oL 15 14,o 16 (.bin .eql (t 11) (t 15))])
 (.cond (t 16) (.seq (.reg [oM 17 5,oM 4 17])
 (.fz [4] .ret))
 .skip))))
 (.reg [o 18 (.bin .add (t 8) (k 1)),oM 8 18]))))
def YdT(lo:Lo):Zt4×ByteArray×Int×Int->Option ((Zt4×ByteArray×Int×Int)⊕ (Int⊕Unit)):=fun x=>match x with
  | (s0,v1,v7,v8)=>bif(decide (v8<v7))then(chk (0<=v8/\v8< (s0.length:Int)) (bif(decide (v1=(s0.getD v8.toNat (YFf #[]))))then(some (.inr (.inl v8)))else(some (.inl (s0,v1,v7,(YFg .i64 (v8+(1:Int))))))))else(some (.inr (.inr ())))
def YfJ(lo:Lo):Zt4×ByteArray×Int×Int->Option (Int⊕Unit):=lo.run (YdT lo)
def Ysd(lo:Lo):LpE:=⟨3,[],⟨[0,1,7,8],[.l (cs [.s]),.s,.i .i64,.i .i64],[],(cs [.l (cs [.s]),.s,I,I])⟩,[⟨.ret,⟨[4],[.i .i64],[],(cs [I])⟩⟩,⟨.exit 0,⟨[],[],[],(cs [])⟩⟩],YfJ lo⟩
def Yse(lo:Lo):LL:=(Ysd lo,.loop q4_L3_b.er)::[]
theorem Ysf(lo:Lo):Lk lo pf (fs4 lo) 0 (Yse lo):=.l .n (YdT lo) rfl (by kernel_rfl) fun x=>by kernel_rfl
def q4(lo:Lo)(s0:List ByteArray)(v1:ByteArray):Option Int:=
  YEV (YfJ lo (s0,v1,(s0.length:Int),(0:Int))) fun y14=>alt2 y14 (fun y15=>some y15) (fun y16=>some (-1:Int))
def Ysg:VFn:=⟨true,19,[.t 4],
 (.seq (.reg [o 4 (.mv (k 0))])
 (.seq (.seq (.reg [oM 6 0,oN 7 6,o 8 (.mv (k 0))])
 (.blk 0 (.loop 3 q4_L3_b)))
 (.seq (.reg [o 4 (.mv (k (-1)))])
 (.fz [4] .ret))))⟩
def Yka(lo:Lo):FnE:=⟨173,true,⟨[0,1],[.l (cs [.s]),.s],[],(cs [.l (cs [.s]),.s])⟩,.i .i64,[],(cs [I]),(fun x=>q4 lo x.1 x.2:Zt4×ByteArray->Option Int)⟩
def fs5(lo:Lo):List FnE:=Yka lo::fs4 lo
theorem Ysh{P:Program}{fm:FM}{lo:Lo}(h:GZ P fm fs4 lo)(t:Ti P fm 173 Ysg):GZ P fm fs5 lo:=
  h.p (Yka lo) (Ysf lo) t (by kernel_rfl) (by kernel_rfl) fun x=>by kernel_rfl
def q5(lo:Lo)(s0:List ByteArray)(v1:ByteArray):Option Bool:=
  YEV (q4 lo s0 v1) fun y17=>some (decide ((0:Int)<=y17))
def Ysi:VFn:=⟨true,9,[.t 4],
 (.seq (.reg [o 4 (.mv (kb false))])
 (.seq (.reg [oM 5 0,oM 6 1,o 7 (.call 173 [(t 5),(t 6)]),o 8 (.bin .geq (t 7) (k 0)),oM 4 8])
 (.fz [4] .ret)))⟩
def Ykb(lo:Lo):FnE:=⟨256,true,⟨[0,1],[.l (cs [.s]),.s],[],(cs [.l (cs [.s]),.s])⟩,.b,[],(cs [.b]),(fun x=>q5 lo x.1 x.2:Zt4×ByteArray->Option Bool)⟩
def fs6(lo:Lo):List FnE:=Ykb lo::fs5 lo
theorem Ysj{P:Program}{fm:FM}{lo:Lo}(h:GZ P fm fs5 lo)(t:Ti P fm 256 Ysi):GZ P fm fs6 lo:=
  h.p (Ykb lo) .n t (by kernel_rfl) (by kernel_rfl) fun x=>by kernel_rfl
def q6(lo:Lo)(v0_0:Int)(v0_1:Int)(v0_2:ByteArray):Option Bool:=
  bif(decide (v0_0=(0:Int)))then(bif(decide (v0_1=(0:Int)))then(some (decide (v0_2=(YFf #[]))))else(some false))else(bif(decide (v0_0=(1:Int)))then(some (decide (v0_2=(YFf #[]))))else(bif(decide (v0_0=(2:Int)))then(bif(decide (v0_1=(0:Int)))then(some (decide ((v0_2.size:Int)<=(200:Int))))else(some false))else(bif(decide (v0_0=(3:Int)))then(bif(decide ((1:Int)<=v0_1))then(some (decide (v0_2=(YFf #[]))))else(some false))else(some false))))
def Ysk:VFn:=⟨true,41,[.t 2],
 (.seq (.reg [o 1 (.box (t 0)),o 2 (.mv (kb false))])
 (.seq (.seq (.reg [oF 3 0 1,oL 4 3])
 (.blk 0 (.seq (.reg [o 6 (.bin .eql (t 4) (k 0)),oM 5 6])
 (.cond (t 5) (.seq (.reg [oF 7 1 1,oL 8 7,o 9 (.bin .eql (t 8) (k 0)),oM 10 9,og 11 10 true (.fad 2 (t 1)),og 12 10 true (.load false 1 (t 11)),og 13 10 true (.bin .eql (t 12) (ks (⟨#[]⟩))),o 14 (.pick (t 10) (t 13) (kb false)),oM 2 14])
 (.fz [2] .ret))
 (.seq (.reg [o 16 (.bin .eql (t 4) (k 1)),oM 15 16])
 (.cond (t 15) (.seq (.reg [oF 17 2 1,oL 18 17,o 19 (.bin .eql (t 18) (ks (⟨#[]⟩))),oM 2 19])
 (.fz [2] .ret))
 (.seq (.reg [o 21 (.bin .eql (t 4) (k 2)),oM 20 21])
 (.cond (t 20) (.seq (.reg [oF 22 1 1,oL 23 22,o 24 (.bin .eql (t 23) (k 0)),oM 25 24,og 26 25 true (.fad 2 (t 1)),og 27 25 true (.load false 1 (t 26)),og 28 25 true (.lenS (t 27)),og 29 25 true (.bin .leq (t 28) (k 200)),o 30 (.pick (t 25) (t 29) (kb false)),oM 2 30])
 (.fz [2] .ret))
 (.seq (.reg [o 32 (.bin .eql (t 4) (k 3)),oM 31 32])
 (.cond (t 31) (.seq (.reg [oF 33 1 1,oL 34 33,o 35 (.bin .geq (t 34) (k 1)),oM 36 35,og 37 36 true (.fad 2 (t 1)),og 38 36 true (.load false 1 (t 37)),og 39 36 true (.bin .eql (t 38) (ks (⟨#[]⟩))),o 40 (.pick (t 36) (t 39) (kb false)),oM 2 40])
 (.fz [2] .ret))
 .skip))))))))))
 (.seq (.reg [o 2 (.mv (kb false))])
 (.fz [2] .ret))))⟩
def Ykc(lo:Lo):FnE:=⟨283,true,⟨[0],[.ag [.i .i64,.i .i64,.s]],[],Zc10⟩,.b,[],(cs [.b]),(fun x=>q6 lo x.1 x.2.1 x.2.2:Int×Int×ByteArray->Option Bool)⟩
def fs7(lo:Lo):List FnE:=Ykc lo::fs6 lo
theorem Ysl{P:Program}{fm:FM}{lo:Lo}(h:GZ P fm fs6 lo)(t:Ti P fm 283 Ysk):GZ P fm fs7 lo:=
  h.p (Ykc lo) .n t (by kernel_rfl) (by kernel_rfl) fun x=>by kernel_rfl
def q7(lo:Lo)(v0_0:Int)(v0_1:Int)(v0_2:ByteArray):Option Bool:=
  YEV (q6 lo v0_0 v0_1 v0_2) fun y22=>some (!y22)
def Ysm:VFn:=⟨true,6,[.t 2],
 (.seq (.reg [o 1 (.box (t 0)),o 2 (.mv (kb false))])
 (.seq (.reg [o 3 (.load true 3 (t 1)),o 4 (.call 283 [(t 3)]),o 5 (.not (t 4)),oM 2 5])
 (.fz [2] .ret)))⟩
def Ykd(lo:Lo):FnE:=⟨294,true,⟨[0],[.ag [.i .i64,.i .i64,.s]],[],Zc10⟩,.b,[],(cs [.b]),(fun x=>q7 lo x.1 x.2.1 x.2.2:Int×Int×ByteArray->Option Bool)⟩
def fs8(lo:Lo):List FnE:=Ykd lo::fs7 lo
theorem Ysn{P:Program}{fm:FM}{lo:Lo}(h:GZ P fm fs7 lo)(t:Ti P fm 294 Ysm):GZ P fm fs8 lo:=
  h.p (Ykd lo) .n t (by kernel_rfl) (by kernel_rfl) fun x=>by kernel_rfl
def q8_L3_b:VCode:=
 (.seq (.reg [o 9 (.bin .lss (t 8) (t 7))])
 (.seq (.cond (t 9) .skip
 (.exit 0))
 (.seq (.blk 1 (.seq (.reg [oM 10 8,oM 5 10])
 (.seq (.reg [oM 11 1,oM 12 0,oM 13 5,o 14 (.iad 3 (t 12) (t 13)),o 15 (.load true 3 (t 14)),o 16 (.dyn (t 11) [(t 15)])])
 (.cond (t 16) (.seq (.reg [oM 17 5,oM 4 17])
 .ret)
 .skip))))
 (.reg [o 18 (.bin .add (t 8) (k 1)),oM 8 18]))))
def Yke(lo:Lo):Zt7×Int×Int->Option ((Zt7×Int×Int)⊕ (Int⊕Unit)):=fun x=>match x with
  | (s0,v7,v8)=>bif(decide (v8<v7))then(chk (0<=v8/\v8< (s0.length:Int)) (YEV (q7 lo ((s0.getD v8.toNat ((0:Int),(0:Int),(YFf #[]))).1) ((s0.getD v8.toNat ((0:Int),(0:Int),(YFf #[]))).2.1) ((s0.getD v8.toNat ((0:Int),(0:Int),(YFf #[]))).2.2)) fun y23=>bif y23 then(some (.inr (.inl v8)))else(some (.inl (s0,v7,(YFg .i64 (v8+(1:Int))))))))else(some (.inr (.inr ())))
def Ykf(lo:Lo):Zt7×Int×Int->Option (Int⊕Unit):=lo.run (Yke lo)
def Yso(lo:Lo):LpE:=⟨3,[],⟨[0,1,7,8],[.l Zc10,.clo 294 [],.i .i64,.i .i64],[],(cs [.l Zc10,I,I])⟩,[⟨.ret,⟨[4],[.i .i64],[],(cs [I])⟩⟩,⟨.exit 0,⟨[],[],[],(cs [])⟩⟩],Ykf lo⟩
def Ysp(lo:Lo):LL:=(Yso lo,.loop q8_L3_b.er)::[]
theorem Ysq(lo:Lo):Lk lo pf (fs8 lo) 0 (Ysp lo):=.l .n (Yke lo) rfl (by kernel_rfl) fun x=>by kernel_rfl
def q8(lo:Lo)(s0:List (Int×Int×ByteArray)):Option Int:=
  YEV (Ykf lo (s0,(s0.length:Int),(0:Int))) fun y24=>alt2 y24 (fun y25=>some y25) (fun y26=>some (-1:Int))
def Ysr:VFn:=⟨true,19,[.t 4],
 (.seq (.reg [o 4 (.mv (k 0))])
 (.seq (.seq (.reg [oM 6 0,oN 7 6,o 8 (.mv (k 0))])
 (.blk 0 (.loop 3 q8_L3_b)))
 (.seq (.reg [o 4 (.mv (k (-1)))])
 .ret)))⟩
def Ykg(lo:Lo):FnE:=⟨309,false,⟨[0,1],[.l Zc10,.clo 294 []],[],Zc31⟩,.i .i64,[],(cs [I]),(fun x=>q8 lo x:Zt7->Option Int)⟩
def fs9(lo:Lo):List FnE:=Ykg lo::fs8 lo
theorem Yss{P:Program}{fm:FM}{lo:Lo}(h:GZ P fm fs8 lo)(t:Ti P fm 309 Ysr):GZ P fm fs9 lo:=
  h.i (Ykg lo) (Ysq lo) t (by kernel_rfl) (by kernel_rfl) fun x=>by kernel_rfl
def q9(lo:Lo)(s0:List (Int×Int×ByteArray)):Option Bool:=
  YEV (q8 lo s0) fun y27=>some (decide ((0:Int)<=y27))
def Yst:VFn:=⟨true,9,[.t 4],
 (.seq (.reg [o 4 (.mv (kb false))])
 (.seq (.reg [oM 5 0,oM 6 1,o 7 (.call 309 [(t 5),(t 6)]),o 8 (.bin .geq (t 7) (k 0)),oM 4 8])
 .ret))⟩
def Ykh(lo:Lo):FnE:=⟨293,false,⟨[0,1],[.l Zc10,.clo 294 []],[],Zc31⟩,.b,[],(cs [.b]),(fun x=>q9 lo x:Zt7->Option Bool)⟩
def fs10(lo:Lo):List FnE:=Ykh lo::fs9 lo
theorem Ysu{P:Program}{fm:FM}{lo:Lo}(h:GZ P fm fs9 lo)(t:Ti P fm 293 Yst):GZ P fm fs10 lo:=
  h.i (Ykh lo) .n t (by kernel_rfl) (by kernel_rfl) fun x=>by kernel_rfl
def q10(lo:Lo)(l0:List (Int×Int×ByteArray)):Option Bool:=
  YEV (q9 lo l0) fun y28=>some (!y28)
def Ysv:VFn:=⟨true,6,[.t 2],
 (.seq (.reg [o 2 (.mv (kb false))])
 (.seq (.reg [oM 3 0,o 4 (.call 293 [(t 3),(.c (.f 294))]),o 5 (.not (t 4)),oM 2 5])
 (.fz [2] .ret)))⟩
def Yki(lo:Lo):FnE:=⟨257,true,⟨[0],[.l Zc10],[],Zc31⟩,.b,[],(cs [.b]),(fun x=>q10 lo x:Zt7->Option Bool)⟩
def fs11(lo:Lo):List FnE:=Yki lo::fs10 lo
theorem Ysw{P:Program}{fm:FM}{lo:Lo}(h:GZ P fm fs10 lo)(t:Ti P fm 257 Ysv):GZ P fm fs11 lo:=
  h.p (Yki lo) .n t (by kernel_rfl) (by kernel_rfl) fun x=>by kernel_rfl
def q11_L20_b:VCode:=
 (.seq (.reg [o 26 (.bin .lss (t 25) (t 24))])
 (.seq (.cond (t 26) .skip
 (.exit 0))
 (.seq (.blk 1 (.seq (.reg [oM 27 25,o 28 (.iad 1 (t 23) (t 25)),oL 29 28,oM 3 27,oM 4 29])
 (.seq (.reg [oM 30 4,o 31 (.call 255 [(t 30)]),o 32 (.not (t 31)),oM 33 32,og 34 33 false (.fad 1 (t 1)),og 35 33 false (.load false 1 (t 34)),og 36 33 false (.mv (t 3)),og 37 33 false (.slcR 1 (t 35) none (some (t 36))),og 38 33 false (.mv (t 4)),og 39 33 false (.call 256 [(t 37),(t 38)]),o 40 (.pick (t 33) (kb true) (t 39))])
 (.cond (t 40) (.seq (.reg [o 2 (.mv (k 1))])
 (.fz [2] .ret))
 .skip))))
 (.reg [o 41 (.bin .add (t 25) (k 1)),oM 25 41]))))
def Ykj(lo:Lo):Zp70->Option (Zp70⊕ (Int⊕ (ByteArray×Zt4×Zt15))):=fun x=>match x with
  | (v23,v24,v25,t1_0,t1_1,t1_2)=>bif(decide (v25<v24))then(chk (0<=v25/\v25< (v23.length:Int)) (YEV (q3 lo (v23.getD v25.toNat (YFf #[]))) fun y13=>bif(!y13)then(some (.inr (.inl (1:Int))))else(chk (0<=(0:Int)/\ (0:Int)<=v25/\v25<=(t1_1.length:Int)) (YEV (q5 lo ((t1_1.take v25.toNat).drop 0) (v23.getD v25.toNat (YFf #[]))) fun y18=>bif y18 then(some (.inr (.inl (1:Int))))else(some (.inl (v23,v24,(YFg .i64 (v25+(1:Int))),t1_0,t1_1,t1_2)))))))else(some (.inr (.inr (t1_0,t1_1,t1_2))))
def Ykk(lo:Lo):Zp70->Option (Int⊕ (ByteArray×Zt4×Zt15)):=lo.run (Ykj lo)
def Ysx(lo:Lo):LpE:=⟨20,[],⟨[1,23,24,25],[.ptr 0 0 0,.l (cs [.s]),.i .i64,.i .i64],[.st [.s,.l (cs [.s]),.l Zc18]],(cs [.l (cs [.s]),I,I,.s,.l (cs [.s]),.l Zc18])⟩,[⟨.ret,⟨[2],[.i .i64],[],(cs [I])⟩⟩,⟨.exit 0,⟨[1],[.ptr 0 0 0],[.st [.s,.l (cs [.s]),.l Zc18]],Zc3⟩⟩],Ykk lo⟩
def Ykl(lo:Lo):LL:=(Ysx lo,.loop q11_L20_b.er)::[]
theorem Ysy(lo:Lo):Lk lo pf (fs11 lo) 0 (Ykl lo):=.l .n (Ykj lo) rfl (by kernel_rfl) fun x=>by kernel_rfl
def q11_L3_b:VCode:=
 (.seq (.reg [o 46 (.bin .lss (t 45) (t 44))])
 (.seq (.cond (t 46) .skip
 (.exit 2))
 (.seq (.blk 3 (.seq (.reg [o 47 (.iad 2 (t 43) (t 45)),o 48 (.load true 2 (t 47)),o 7 (.alloc [.i .i64 0,.e Zc10]),on (.store 2 (t 7) (t 48))])
 (.seq (.blk 4 (.seq (.reg [oF 50 0 7,oL 51 50,oM 52 5,o 53 (.bin .leq (t 51) (t 52)),oM 49 53])
 (.cond (t 49) (.seq (.reg [o 2 (.mv (k 1))])
 (.fz [2] .ret))
 (.seq (.reg [oF 55 1 7,oL 56 55,oN 57 56,oF 58 1 1,oL 59 58,oN 60 59,o 61 (.bin .neq (t 57) (t 60)),oM 54 61])
 (.cond (t 54) (.seq (.reg [o 2 (.mv (k 6))])
 (.fz [2] .ret))
 (.seq (.reg [oF 63 1 7,oL 64 63,o 65 (.call 257 [(t 64)]),o 66 (.not (t 65)),oM 62 66])
 (.cond (t 62) (.seq (.reg [o 2 (.mv (k 1))])
 (.fz [2] .ret))
 .skip)))))))
 (.reg [oF 67 0 7,oL 68 67,oM 5 68]))))
 (.reg [o 69 (.bin .add (t 45) (k 1)),oM 45 69]))))
def Ykm(lo:Lo):Zp65->Option (Zp65⊕ (Int⊕Unit)):=fun x=>match x with
  | (last5,v43,v44,v45,t1_0,t1_1,t1_2)=>bif(decide (v45<v44))then(chk (0<=v45/\v45< (v43.length:Int)) (bif(decide ((v43.getD v45.toNat ((0:Int),[])).1<=last5))then(some (.inr (.inl (1:Int))))else(bif(!decide ((((v43.getD v45.toNat ((0:Int),[])).2).length:Int)=(t1_1.length:Int)))then(some (.inr (.inl (6:Int))))else(YEV (q10 lo ((v43.getD v45.toNat ((0:Int),[])).2)) fun y29=>bif(!y29)then(some (.inr (.inl (1:Int))))else(some (.inl ((v43.getD v45.toNat ((0:Int),[])).1,v43,v44,(YFg .i64 (v45+(1:Int))),t1_0,t1_1,t1_2)))))))else(some (.inr (.inr ())))
def Ykn(lo:Lo):Zp65->Option (Int⊕Unit):=lo.run (Ykm lo)
def Ysz(lo:Lo):LpE:=⟨3,[],⟨[1,5,43,44,45],[.ptr 0 0 0,.i .i64,.l Zc18,.i .i64,.i .i64],[.st [.s,.l (cs [.s]),.l Zc18]],(cs [I,.l Zc18,I,I,.s,.l (cs [.s]),.l Zc18])⟩,[⟨.ret,⟨[2],[.i .i64],[],(cs [I])⟩⟩,⟨.exit 2,⟨[],[],[],(cs [])⟩⟩],Ykn lo⟩
def YsA(lo:Lo):LL:=(Ysz lo,.loop q11_L3_b.er)::Ykl lo
theorem YsB(lo:Lo):Lk lo pf (fs11 lo) 0 (YsA lo):=.l (Ysy lo) (Ykm lo) rfl (by kernel_rfl) fun x=>by kernel_rfl
def q11(lo:Lo)(t0_0:ByteArray)(t0_1:List ByteArray)(t0_2:List (Int×Zt7)):Option Int:=
  YEV (q3 lo t0_0) fun y12=>bif(!y12)then(some (1:Int))else(bif(decide ((16:Int)< (t0_1.length:Int)))then(some (3:Int))else(bif(decide ((1000:Int)< (t0_2.length:Int)))then(some (3:Int))else(YEV (Ykk lo (t0_1,(t0_1.length:Int),(0:Int),t0_0,t0_1,t0_2)) fun y19=>alt2 y19 (fun y20=>some y20) (fun y21=>YEV (Ykn lo ((0:Int),y21.2.2,(y21.2.2.length:Int),(0:Int),y21.1,y21.2.1,y21.2.2)) fun y30=>alt2 y30 (fun y31=>some y31) (fun y32=>some (0:Int))))))
def YsC:VFn:=⟨true,70,[.t 2],
 (.seq (.reg [o 1 (.box (t 0)),o 2 (.mv (k 0))])
 (.seq (.seq (.reg [oF 8 0 1,oL 9 8,o 10 (.call 255 [(t 9)]),o 11 (.not (t 10))])
 (.cond (t 11) (.seq (.reg [o 2 (.mv (k 1))])
 (.fz [2] .ret))
 .skip))
 (.seq (.seq (.reg [oF 12 1 1,oL 13 12,oN 14 13,o 15 (.bin .gtr (t 14) (k 16)),oM 16 15,og 17 16 false (.fad 2 (t 1)),og 18 16 false (.load false 1 (t 17)),og 19 16 false (.len (t 18)),og 20 16 false (.bin .gtr (t 19) (k 1000)),o 21 (.pick (t 16) (kb true) (t 20))])
 (.cond (t 21) (.seq (.reg [o 2 (.mv (k 3))])
 (.fz [2] .ret))
 .skip))
 (.seq (.seq (.reg [oF 22 1 1,oL 23 22,oN 24 23,o 25 (.mv (k 0))])
 (.blk 0 (.loop 20 q11_L20_b)))
 (.seq (.reg [o 5 (.mv (k 0))])
 (.seq (.seq (.reg [oF 42 2 1,oL 43 42,oN 44 43,o 45 (.mv (k 0))])
 (.blk 2 (.loop 3 q11_L3_b)))
 (.seq (.reg [o 2 (.mv (k 0))])
 (.fz [2] .ret))))))))⟩
def Yko(lo:Lo):FnE:=⟨230,true,⟨[0],[.ag [.s,.l (cs [.s]),.l Zc18]],[],Zc3⟩,.i .i64,[],(cs [I]),(fun x=>q11 lo x.1 x.2.1 x.2.2:ByteArray×Zt4×Zt15->Option Int)⟩
def fs12(lo:Lo):List FnE:=Yko lo::fs11 lo
theorem YsD{P:Program}{fm:FM}{lo:Lo}(h:GZ P fm fs11 lo)(t:Ti P fm 230 YsC):GZ P fm fs12 lo:=
  h.p (Yko lo) (YsB lo) t (by kernel_rfl) (by kernel_rfl) fun x=>by kernel_rfl
def q12(lo:Lo)(t0_0:ByteArray)(t0_1:List ByteArray)(t0_2:List (Int×Zt7))(v1:ByteArray):Option (Bool×ByteArray):=
  some ((decide (t0_0=v1)),v1)
def YsE:VFn:=⟨true,8,[.t 3],
 (.seq (.reg [o 2 (.box (t 0)),o 3 (.mv (kb false))])
 (.seq (.reg [oF 4 0 2,oL 5 4,oL 6 1,o 7 (.bin .eql (t 5) (t 6)),oM 3 7])
 .ret))⟩
def Ykp(lo:Lo):FnE:=⟨560,false,⟨[0,1],[.ag [.s,.l (cs [.s]),.l Zc18],.ptr 0 0 0],[.st [.s]],(cs [.s,.l (cs [.s]),.l Zc18,.s])⟩,.b,[.st [.s]],(cs [.b,.s]),(fun x=>q12 lo x.1 x.2.1 x.2.2.1 x.2.2.2:ByteArray×Zt4×Zt15×ByteArray->Option (Bool×ByteArray))⟩
def fs13(lo:Lo):List FnE:=Ykp lo::fs12 lo
theorem YsF{P:Program}{fm:FM}{lo:Lo}(h:GZ P fm fs12 lo)(t:Ti P fm 560 YsE):GZ P fm fs13 lo:=
  h.i (Ykp lo) .n t (by kernel_rfl) (by kernel_rfl) fun x=>by kernel_rfl
def q13_L3_b:VCode:=
 (.seq (.reg [o 9 (.bin .lss (t 8) (t 7))])
 (.seq (.cond (t 9) .skip
 (.exit 0))
 (.seq (.blk 1 (.seq (.reg [oM 10 8,oM 5 10])
 (.seq (.reg [oM 11 1,oM 12 0,oM 13 5,o 14 (.iad 3 (t 12) (t 13)),o 15 (.load true 3 (t 14)),o 16 (.dyn (t 11) [(t 15)])])
 (.cond (t 16) (.seq (.reg [oM 17 5,oM 4 17])
 .ret)
 .skip))))
 (.reg [o 18 (.bin .add (t 8) (k 1)),oM 8 18]))))
def Ykq(lo:Lo):Zt1×Int×Int×ByteArray->Option ((Zt1×Int×Int×ByteArray)⊕ ((Int×ByteArray)⊕ByteArray)):=fun x=>match x with
  | (s0,v7,v8,h0)=>bif(decide (v8<v7))then(chk (0<=v8/\v8< (s0.length:Int)) (YEV (q12 lo ((s0.getD v8.toNat ((YFf #[]),[],[])).1) ((s0.getD v8.toNat ((YFf #[]),[],[])).2.1) ((s0.getD v8.toNat ((YFf #[]),[],[])).2.2) h0) fun y34=>bif y34.1 then(some (.inr (.inl (v8,y34.2))))else(some (.inl (s0,v7,(YFg .i64 (v8+(1:Int))),y34.2)))))else(some (.inr (.inr h0)))
def Ykr(lo:Lo):Zt1×Int×Int×ByteArray->Option ((Int×ByteArray)⊕ByteArray):=lo.run (Ykq lo)
def YsG(lo:Lo):LpE:=⟨3,[],⟨[0,1,7,8],[.l Zc3,.clo 560 [.ptr 0 0 0],.i .i64,.i .i64],[.st [.s]],(cs [.l Zc3,I,I,.s])⟩,[⟨.ret,⟨[4],[.i .i64],[.st [.s]],Zc36⟩⟩,⟨.exit 0,⟨[],[],[.st [.s]],(cs [.s])⟩⟩],Ykr lo⟩
def YsH(lo:Lo):LL:=(YsG lo,.loop q13_L3_b.er)::[]
theorem YsI(lo:Lo):Lk lo pf (fs13 lo) 1 (YsH lo):=.l .n (Ykq lo) rfl (by kernel_rfl) fun x=>by kernel_rfl
def q13(lo:Lo)(s0:List (ByteArray×Zt4×Zt15))(h0:ByteArray):Option (Int×ByteArray):=
  YEV (Ykr lo (s0,(s0.length:Int),(0:Int),h0)) fun y35=>alt2 y35 (fun y36=>some (y36.1,y36.2)) (fun y37=>some ((-1:Int),y37))
def YsJ:VFn:=⟨true,19,[.t 4],
 (.seq (.reg [o 4 (.mv (k 0))])
 (.seq (.seq (.reg [oM 6 0,oN 7 6,o 8 (.mv (k 0))])
 (.blk 0 (.loop 3 q13_L3_b)))
 (.seq (.reg [o 4 (.mv (k (-1)))])
 .ret)))⟩
def Yks(lo:Lo):FnE:=⟨559,false,⟨[0,1],[.l Zc3,.clo 560 [.ptr 0 0 0]],[.st [.s]],(cs [.l Zc3,.s])⟩,.i .i64,[.st [.s]],Zc36,(fun x=>q13 lo x.1 x.2:Zt1×ByteArray->Option (Int×ByteArray))⟩
def fs14(lo:Lo):List FnE:=Yks lo::fs13 lo
theorem YsK{P:Program}{fm:FM}{lo:Lo}(h:GZ P fm fs13 lo)(t:Ti P fm 559 YsJ):GZ P fm fs14 lo:=
  h.i (Yks lo) (YsI lo) t (by kernel_rfl) (by kernel_rfl) fun x=>by kernel_rfl
def q14(lo:Lo)(l0:List (ByteArray×Zt4×Zt15))(name1:ByteArray):Option Int:=
  YEV (q13 lo l0 name1) fun y38=>some y38.1
def YsL:VFn:=⟨true,8,[.t 4],
 (.seq (.reg [o 3 (.box (t 1)),o 4 (.mv (k 0))])
 (.seq (.reg [oM 5 0,o 6 (.mkf 560 [(t 3)]),o 7 (.call 559 [(t 5),(t 6)]),oM 4 7])
 (.fz [4] .ret)))⟩
def Ykt(lo:Lo):FnE:=⟨552,true,⟨[0,1],[.l Zc3,.s],[],(cs [.l Zc3,.s])⟩,.i .i64,[],(cs [I]),(fun x=>q14 lo x.1 x.2:Zt1×ByteArray->Option Int)⟩
def fs15(lo:Lo):List FnE:=Ykt lo::fs14 lo
theorem YsM{P:Program}{fm:FM}{lo:Lo}(h:GZ P fm fs14 lo)(t:Ti P fm 552 YsL):GZ P fm fs15 lo:=
  h.p (Ykt lo) .n t (by kernel_rfl) (by kernel_rfl) fun x=>by kernel_rfl
def q15_L3_b:VCode:=
 (.seq (.reg [o 14 (.bin .lss (t 13) (t 12))])
 (.seq (.cond (t 14) .skip
 (.exit 0))
 (.seq (.blk 1 (.seq (.reg [oM 15 13,o 16 (.iad 3 (t 11) (t 13)),o 17 (.load true 3 (t 16)),o 4 (.alloc [.s (⟨#[]⟩),.e (cs [.s]),.e Zc18]),oM 3 15,on (.store 3 (t 4) (t 17))])
 (.seq (.seq (.reg [o 18 (.load true 3 (t 4)),o 19 (.call 230 [(t 18)]),oM 5 19])
 (.seq (.reg [oM 20 5,o 21 (.bin .neq (t 20) (k 0))])
 (.cond (t 21) (.seq (.reg [oM 22 5,oM 2 22])
 (.fz [2] .ret))
 .skip)))
 (.seq (.reg [oF 23 0 1,oL 24 23,oM 25 3,o 26 (.slcR 3 (t 24) none (some (t 25))),oF 27 0 4,oL 28 27,o 29 (.call 552 [(t 26),(t 28)]),o 30 (.bin .geq (t 29) (k 0))])
 (.cond (t 30) (.seq (.reg [o 2 (.mv (k 5))])
 (.fz [2] .ret))
 .skip)))))
 (.reg [o 31 (.bin .add (t 13) (k 1)),oM 13 31]))))
def Yku(lo:Lo):Zt1×Int×Int×Zt1->Option ((Zt1×Int×Int×Zt1)⊕ (Int⊕Unit)):=fun x=>match x with
  | (v11,v12,v13,db1)=>bif(decide (v13<v12))then(chk (0<=v13/\v13< (v11.length:Int)) (YEV (q11 lo ((v11.getD v13.toNat ((YFf #[]),[],[])).1) ((v11.getD v13.toNat ((YFf #[]),[],[])).2.1) ((v11.getD v13.toNat ((YFf #[]),[],[])).2.2)) fun y33=>bif(!decide (y33=(0:Int)))then(some (.inr (.inl y33)))else(chk (0<=(0:Int)/\ (0:Int)<=v13/\v13<=(db1.length:Int)) (YEV (q14 lo ((db1.take v13.toNat).drop 0) ((v11.getD v13.toNat ((YFf #[]),[],[])).1)) fun y39=>bif(decide ((0:Int)<=y39))then(some (.inr (.inl (5:Int))))else(some (.inl (v11,v12,(YFg .i64 (v13+(1:Int))),db1)))))))else(some (.inr (.inr ())))
def Ykv(lo:Lo):Zt1×Int×Int×Zt1->Option (Int⊕Unit):=lo.run (Yku lo)
def YsN(lo:Lo):LpE:=⟨3,[],⟨[1,11,12,13],[.ptr 0 0 0,.l Zc3,.i .i64,.i .i64],[.st [.l Zc3]],(cs [.l Zc3,I,I,.l Zc3])⟩,[⟨.ret,⟨[2],[.i .i64],[],(cs [I])⟩⟩,⟨.exit 0,⟨[],[],[],(cs [])⟩⟩],Ykv lo⟩
def YsO(lo:Lo):LL:=(YsN lo,.loop q15_L3_b.er)::[]
theorem YsP(lo:Lo):Lk lo pf (fs15 lo) 0 (YsO lo):=.l .n (Yku lo) rfl (by kernel_rfl) fun x=>by kernel_rfl
def q15(lo:Lo)(db0:List (ByteArray×Zt4×Zt15)):Option Int:=
  bif(decide ((50:Int)< (db0.length:Int)))then(some (3:Int))else(YEV (Ykv lo (db0,(db0.length:Int),(0:Int),db0)) fun y40=>alt2 y40 (fun y41=>some y41) (fun y42=>some (0:Int)))
def YsQ:VFn:=⟨true,32,[.t 2],
 (.seq (.reg [o 1 (.box (t 0)),o 2 (.mv (k 0))])
 (.seq (.seq (.reg [oF 6 0 1,oL 7 6,oN 8 7,o 9 (.bin .gtr (t 8) (k 50))])
 (.cond (t 9) (.seq (.reg [o 2 (.mv (k 3))])
 (.fz [2] .ret))
 .skip))
 (.seq (.seq (.reg [oF 10 0 1,oL 11 10,oN 12 11,o 13 (.mv (k 0))])
 (.blk 0 (.loop 3 q15_L3_b)))
 (.seq (.reg [o 2 (.mv (k 0))])
 (.fz [2] .ret)))))⟩
def Ykw(lo:Lo):FnE:=⟨535,true,⟨[0],[.ag [.l Zc3]],[],(cs [.l Zc3])⟩,.i .i64,[],(cs [I]),(fun x=>q15 lo x:Zt1->Option Int)⟩
def fs16(lo:Lo):List FnE:=Ykw lo::fs15 lo
theorem YsR{P:Program}{fm:FM}{lo:Lo}(h:GZ P fm fs15 lo)(t:Ti P fm 535 YsQ):GZ P fm fs16 lo:=
  h.p (Ykw lo) (YsP lo) t (by kernel_rfl) (by kernel_rfl) fun x=>by kernel_rfl
def q16(lo:Lo)(a0:Int)(v1:Int):Option (Bool×Int):=
  bif(decide (a0< (0:Int)))then(some (true,v1))else(some ((decide (v1<=a0)),v1))
def YsS:VFn:=⟨true,11,[.t 3],
 (.seq (.reg [o 3 (.mv (kb false))])
 (.seq (.reg [oM 4 0,o 5 (.bin .lss (t 4) (k 0)),oM 6 5,og 7 6 false (.mv (t 0)),og 8 6 false (.load false 1 (t 1)),og 9 6 false (.bin .geq (t 7) (t 8)),o 10 (.pick (t 6) (kb true) (t 9)),oM 3 10])
 .ret))⟩
def Ykx(lo:Lo):FnE:=⟨561,false,⟨[0,1],[.i .i64,.ptr 0 0 0],[.st [.i .i64]],(cs [I,I])⟩,.b,[.st [.i .i64]],(cs [.b,I]),(fun x=>q16 lo x.1 x.2:Int×Int->Option (Bool×Int))⟩
def fs17(lo:Lo):List FnE:=Ykx lo::fs16 lo
theorem YsT{P:Program}{fm:FM}{lo:Lo}(h:GZ P fm fs16 lo)(t:Ti P fm 561 YsS):GZ P fm fs17 lo:=
  h.i (Ykx lo) .n t (by kernel_rfl) (by kernel_rfl) fun x=>by kernel_rfl
def q17_L3_b:VCode:=
 (.seq (.reg [o 9 (.bin .lss (t 8) (t 7))])
 (.seq (.cond (t 9) .skip
 (.exit 0))
 (.seq (.blk 1 (.seq (.reg [oM 10 8,oM 5 10])
 (.seq (.reg [oM 11 1,oM 12 0,oM 13 5,o 14 (.iad 1 (t 12) (t 13)),oL 15 14,o 16 (.dyn (t 11) [(t 15)])])
 (.cond (t 16) (.seq (.reg [oM 17 5,oM 4 17])
 .ret)
 .skip))))
 (.reg [o 18 (.bin .add (t 8) (k 1)),oM 8 18]))))
def Yky(lo:Lo):(List Int)×Int×Int×Int->Option (((List Int)×Int×Int×Int)⊕ ((Int×Int)⊕Int)):=fun x=>match x with
  | (s0,v7,v8,h0)=>bif(decide (v8<v7))then(chk (0<=v8/\v8< (s0.length:Int)) (YEV (q16 lo (s0.getD v8.toNat (0:Int)) h0) fun y46=>bif y46.1 then(some (.inr (.inl (v8,y46.2))))else(some (.inl (s0,v7,(YFg .i64 (v8+(1:Int))),y46.2)))))else(some (.inr (.inr h0)))
def Ykz(lo:Lo):(List Int)×Int×Int×Int->Option ((Int×Int)⊕Int):=lo.run (Yky lo)
def YsU(lo:Lo):LpE:=⟨3,[],⟨[0,1,7,8],[.l (cs [I]),.clo 561 [.ptr 0 0 0],.i .i64,.i .i64],[.st [.i .i64]],(cs [.l (cs [I]),I,I,I])⟩,[⟨.ret,⟨[4],[.i .i64],[.st [.i .i64]],(cs [I,I])⟩⟩,⟨.exit 0,⟨[],[],[.st [.i .i64]],(cs [I])⟩⟩],Ykz lo⟩
def YsV(lo:Lo):LL:=(YsU lo,.loop q17_L3_b.er)::[]
theorem YsW(lo:Lo):Lk lo pf (fs17 lo) 1 (YsV lo):=.l .n (Yky lo) rfl (by kernel_rfl) fun x=>by kernel_rfl
def q17(lo:Lo)(s0:List Int)(h0:Int):Option (Int×Int):=
  YEV (Ykz lo (s0,(s0.length:Int),(0:Int),h0)) fun y47=>alt2 y47 (fun y48=>some (y48.1,y48.2)) (fun y49=>some ((-1:Int),y49))
def YsX:VFn:=⟨true,19,[.t 4],
 (.seq (.reg [o 4 (.mv (k 0))])
 (.seq (.seq (.reg [oM 6 0,oN 7 6,o 8 (.mv (k 0))])
 (.blk 0 (.loop 3 q17_L3_b)))
 (.seq (.reg [o 4 (.mv (k (-1)))])
 .ret)))⟩
def YkA(lo:Lo):FnE:=⟨442,false,⟨[0,1],[.l (cs [I]),.clo 561 [.ptr 0 0 0]],[.st [.i .i64]],(cs [.l (cs [I]),I])⟩,.i .i64,[.st [.i .i64]],(cs [I,I]),(fun x=>q17 lo x.1 x.2:(List Int)×Int->Option (Int×Int))⟩
def fs18(lo:Lo):List FnE:=YkA lo::fs17 lo
theorem YsY{P:Program}{fm:FM}{lo:Lo}(h:GZ P fm fs17 lo)(t:Ti P fm 442 YsX):GZ P fm fs18 lo:=
  h.i (YkA lo) (YsW lo) t (by kernel_rfl) (by kernel_rfl) fun x=>by kernel_rfl
def q18(lo:Lo)(s0:List Int)(h0:Int):Option (Bool×Int):=
  YEV (q17 lo s0 h0) fun y50=>some ((decide ((0:Int)<=y50.1)),y50.2)
def YsZ:VFn:=⟨true,9,[.t 4],
 (.seq (.reg [o 4 (.mv (kb false))])
 (.seq (.reg [oM 5 0,oM 6 1,o 7 (.call 442 [(t 5),(t 6)]),o 8 (.bin .geq (t 7) (k 0)),oM 4 8])
 .ret))⟩
def YkB(lo:Lo):FnE:=⟨426,false,⟨[0,1],[.l (cs [I]),.clo 561 [.ptr 0 0 0]],[.st [.i .i64]],(cs [.l (cs [I]),I])⟩,.b,[.st [.i .i64]],(cs [.b,I]),(fun x=>q18 lo x.1 x.2:(List Int)×Int->Option (Bool×Int))⟩
def fs19(lo:Lo):List FnE:=YkB lo::fs18 lo
theorem Ys0{P:Program}{fm:FM}{lo:Lo}(h:GZ P fm fs18 lo)(t:Ti P fm 426 YsZ):GZ P fm fs19 lo:=
  h.i (YkB lo) .n t (by kernel_rfl) (by kernel_rfl) fun x=>by kernel_rfl
def q19(lo:Lo)(l0:List Int)(n1:Int):Option Bool:=
  YEV (q18 lo l0 n1) fun y51=>some (!y51.1)
def Ys1:VFn:=⟨true,9,[.t 4],
 (.seq (.reg [o 3 (.box (t 1)),o 4 (.mv (kb false))])
 (.seq (.reg [oM 5 0,o 6 (.mkf 561 [(t 3)]),o 7 (.call 426 [(t 5),(t 6)]),o 8 (.not (t 7)),oM 4 8])
 (.fz [4] .ret)))⟩
def YkC(lo:Lo):FnE:=⟨553,true,⟨[0,1],[.l (cs [I]),.i .i64],[],(cs [.l (cs [I]),I])⟩,.b,[],(cs [.b]),(fun x=>q19 lo x.1 x.2:(List Int)×Int->Option Bool)⟩
def fs20(lo:Lo):List FnE:=YkC lo::fs19 lo
theorem Ys2{P:Program}{fm:FM}{lo:Lo}(h:GZ P fm fs19 lo)(t:Ti P fm 553 Ys1):GZ P fm fs20 lo:=
  h.p (YkC lo) .n t (by kernel_rfl) (by kernel_rfl) fun x=>by kernel_rfl
def q20_L3_b:VCode:=
 (.seq (.reg [o 9 (.bin .lss (t 8) (t 7))])
 (.seq (.cond (t 9) .skip
 (.exit 0))
 (.seq (.blk 1 (.seq (.reg [oM 10 8,oM 5 10])
 (.seq (.reg [oM 11 1,oM 12 0,oM 13 5,o 14 (.iad 1 (t 12) (t 13)),oL 15 14,o 16 (.bin .eql (t 11) (t 15))])
 (.cond (t 16) (.seq (.reg [oM 17 5,oM 4 17])
 (.fz [4] .ret))
 .skip))))
 (.reg [o 18 (.bin .add (t 8) (k 1)),oM 8 18]))))
def YkD(lo:Lo):(List Int)×Int×Int×Int->Option (((List Int)×Int×Int×Int)⊕ (Int⊕Unit)):=fun x=>match x with
  | (s0,v1,v7,v8)=>bif(decide (v8<v7))then(chk (0<=v8/\v8< (s0.length:Int)) (bif(decide (v1=(s0.getD v8.toNat (0:Int))))then(some (.inr (.inl v8)))else(some (.inl (s0,v1,v7,(YFg .i64 (v8+(1:Int))))))))else(some (.inr (.inr ())))
def YkE(lo:Lo):(List Int)×Int×Int×Int->Option (Int⊕Unit):=lo.run (YkD lo)
def Ys3(lo:Lo):LpE:=⟨3,[],⟨[0,1,7,8],[.l (cs [I]),.i .i64,.i .i64,.i .i64],[],(cs [.l (cs [I]),I,I,I])⟩,[⟨.ret,⟨[4],[.i .i64],[],(cs [I])⟩⟩,⟨.exit 0,⟨[],[],[],(cs [])⟩⟩],YkE lo⟩
def Ys4(lo:Lo):LL:=(Ys3 lo,.loop q20_L3_b.er)::[]
theorem Ys5(lo:Lo):Lk lo pf (fs20 lo) 0 (Ys4 lo):=.l .n (YkD lo) rfl (by kernel_rfl) fun x=>by kernel_rfl
def q20(lo:Lo)(s0:List Int)(v1:Int):Option Int:=
  YEV (YkE lo (s0,v1,(s0.length:Int),(0:Int))) fun y54=>alt2 y54 (fun y55=>some y55) (fun y56=>some (-1:Int))
def Ys6:VFn:=⟨true,19,[.t 4],
 (.seq (.reg [o 4 (.mv (k 0))])
 (.seq (.seq (.reg [oM 6 0,oN 7 6,o 8 (.mv (k 0))])
 (.blk 0 (.loop 3 q20_L3_b)))
 (.seq (.reg [o 4 (.mv (k (-1)))])
 (.fz [4] .ret))))⟩
def YkF(lo:Lo):FnE:=⟨448,true,⟨[0,1],[.l (cs [I]),.i .i64],[],(cs [.l (cs [I]),I])⟩,.i .i64,[],(cs [I]),(fun x=>q20 lo x.1 x.2:(List Int)×Int->Option Int)⟩
def fs21(lo:Lo):List FnE:=YkF lo::fs20 lo
theorem Ys7{P:Program}{fm:FM}{lo:Lo}(h:GZ P fm fs20 lo)(t:Ti P fm 448 Ys6):GZ P fm fs21 lo:=
  h.p (YkF lo) (Ys5 lo) t (by kernel_rfl) (by kernel_rfl) fun x=>by kernel_rfl
def q21(lo:Lo)(s0:List Int)(v1:Int):Option Bool:=
  YEV (q20 lo s0 v1) fun y57=>some (decide ((0:Int)<=y57))
def Ys8:VFn:=⟨true,9,[.t 4],
 (.seq (.reg [o 4 (.mv (kb false))])
 (.seq (.reg [oM 5 0,oM 6 1,o 7 (.call 448 [(t 5),(t 6)]),o 8 (.bin .geq (t 7) (k 0)),oM 4 8])
 (.fz [4] .ret)))⟩
def YkG(lo:Lo):FnE:=⟨434,true,⟨[0,1],[.l (cs [I]),.i .i64],[],(cs [.l (cs [I]),I])⟩,.b,[],(cs [.b]),(fun x=>q21 lo x.1 x.2:(List Int)×Int->Option Bool)⟩
def fs22(lo:Lo):List FnE:=YkG lo::fs21 lo
theorem Ys9{P:Program}{fm:FM}{lo:Lo}(h:GZ P fm fs21 lo)(t:Ti P fm 434 Ys8):GZ P fm fs22 lo:=
  h.p (YkG lo) .n t (by kernel_rfl) (by kernel_rfl) fun x=>by kernel_rfl
def q22_L3_b:VCode:=
 (.seq (.reg [o 8 (.bin .lss (t 7) (t 6))])
 (.seq (.cond (t 8) .skip
 (.exit 0))
 (.seq (.blk 1 (.seq (.reg [oM 9 7,o 10 (.iad 1 (t 5) (t 7)),oL 11 10,oM 3 9,oM 4 11])
 (.seq (.reg [oM 12 0,oM 13 3,o 14 (.slcR 1 (t 12) none (some (t 13))),oM 15 4,o 16 (.call 434 [(t 14),(t 15)])])
 (.cond (t 16) (.seq (.reg [o 2 (.mv (kb true))])
 (.fz [2] .ret))
 .skip))))
 (.reg [o 17 (.bin .add (t 7) (k 1)),oM 7 17]))))
def YkH(lo:Lo):(List Int)× (List Int)×Int×Int->Option (((List Int)× (List Int)×Int×Int)⊕ (Bool⊕Unit)):=fun x=>match x with
  | (l0,v5,v6,v7)=>bif(decide (v7<v6))then(chk (0<=v7/\v7< (v5.length:Int)) (chk (0<=(0:Int)/\ (0:Int)<=v7/\v7<=(l0.length:Int)) (YEV (q21 lo ((l0.take v7.toNat).drop 0) (v5.getD v7.toNat (0:Int))) fun y58=>bif y58 then(some (.inr (.inl true)))else(some (.inl (l0,v5,v6,(YFg .i64 (v7+(1:Int)))))))))else(some (.inr (.inr ())))
def YkI(lo:Lo):(List Int)× (List Int)×Int×Int->Option (Bool⊕Unit):=lo.run (YkH lo)
def Yta(lo:Lo):LpE:=⟨3,[],⟨[0,5,6,7],[.l (cs [I]),.l (cs [I]),.i .i64,.i .i64],[],(cs [.l (cs [I]),.l (cs [I]),I,I])⟩,[⟨.ret,⟨[2],[.b],[],(cs [.b])⟩⟩,⟨.exit 0,⟨[],[],[],(cs [])⟩⟩],YkI lo⟩
def Ytb(lo:Lo):LL:=(Yta lo,.loop q22_L3_b.er)::[]
theorem Ytc(lo:Lo):Lk lo pf (fs22 lo) 0 (Ytb lo):=.l .n (YkH lo) rfl (by kernel_rfl) fun x=>by kernel_rfl
def q22(lo:Lo)(l0:List Int):Option Bool:=
  YEV (YkI lo (l0,l0,(l0.length:Int),(0:Int))) fun y59=>alt2 y59 (fun y60=>some y60) (fun y61=>some false)
def Ytd:VFn:=⟨true,18,[.t 2],
 (.seq (.reg [o 2 (.mv (kb false))])
 (.seq (.seq (.reg [oM 5 0,oN 6 5,o 7 (.mv (k 0))])
 (.blk 0 (.loop 3 q22_L3_b)))
 (.seq (.reg [o 2 (.mv (kb false))])
 (.fz [2] .ret))))⟩
def YkJ(lo:Lo):FnE:=⟨554,true,⟨[0],[.l (cs [I])],[],Zc17⟩,.b,[],(cs [.b]),(fun x=>q22 lo x:(List Int)->Option Bool)⟩
def fs23(lo:Lo):List FnE:=YkJ lo::fs22 lo
theorem Yte{P:Program}{fm:FM}{lo:Lo}(h:GZ P fm fs22 lo)(t:Ti P fm 554 Ytd):GZ P fm fs23 lo:=
  h.p (YkJ lo) (Ytc lo) t (by kernel_rfl) (by kernel_rfl) fun x=>by kernel_rfl
end Go.Abs.G47
namespace Go.Abs.G47
open Go Go.Abs
set_option maxRecDepth 100000
set_option maxHeartbeats 1000000
def q23(lo:Lo)(db0:List (ByteArray×Zt4×Zt15))(d1_0:ByteArray)(d1_1:List Int)(d1_2:ByteArray)(d1_3:List Int):Option Int:=
  YEV (q14 lo db0 d1_0) fun y44=>YEV (q14 lo db0 d1_2) fun y45=>bif(decide (y44< (0:Int)))then(some (4:Int))else(bif(decide (y45< (0:Int)))then(some (4:Int))else(bif(!decide ((d1_1.length:Int)=(d1_3.length:Int)))then(some (6:Int))else(chk (0<=y44/\y44< (db0.length:Int)) (YEV (q19 lo d1_1 (((db0.getD y44.toNat ((YFf #[]),[],[])).2.1).length:Int)) fun y52=>bif(!y52)then(some (6:Int))else(chk (0<=y45/\y45< (db0.length:Int)) (YEV (q19 lo d1_3 (((db0.getD y45.toNat ((YFf #[]),[],[])).2.1).length:Int)) fun y53=>bif(!y53)then(some (6:Int))else(YEV (q22 lo d1_1) fun y62=>bif y62 then(some (1:Int))else(YEV (q22 lo d1_3) fun y63=>bif y63 then(some (1:Int))else(some (0:Int))))))))))
def Ytf:VFn:=⟨true,64,[.t 4],
 (.seq (.reg [o 2 (.box (t 0)),o 3 (.box (t 1)),o 4 (.mv (k 0))])
 (.seq (.reg [oF 7 0 2,oL 8 7,oF 9 0 3,oL 10 9,o 11 (.call 552 [(t 8),(t 10)]),oF 12 0 2,oL 13 12,oF 14 2 3,oL 15 14,o 16 (.call 552 [(t 13),(t 15)]),oM 5 11,oM 6 16])
 (.seq (.seq (.reg [oM 17 5,o 18 (.bin .lss (t 17) (k 0)),oM 19 18,og 20 19 false (.mv (t 6)),og 21 19 false (.bin .lss (t 20) (k 0)),o 22 (.pick (t 19) (kb true) (t 21))])
 (.cond (t 22) (.seq (.reg [o 4 (.mv (k 4))])
 (.fz [4] .ret))
 .skip))
 (.seq (.seq (.reg [oF 23 1 3,oL 24 23,oN 25 24,oF 26 3 3,oL 27 26,oN 28 27,o 29 (.bin .neq (t 25) (t 28)),oM 30 29,og 31 30 false (.fad 1 (t 3)),og 32 30 false (.load false 1 (t 31)),og 33 30 false (.fad 0 (t 2)),og 34 30 false (.load false 1 (t 33)),og 35 30 false (.mv (t 5)),og 36 30 false (.iad 3 (t 34) (t 35)),og 37 30 false (.fad 1 (t 36)),og 38 30 false (.load false 1 (t 37)),og 39 30 false (.len (t 38)),og 40 30 false (.call 553 [(t 32),(t 39)]),og 41 30 false (.not (t 40)),o 42 (.pick (t 30) (kb true) (t 41)),oM 43 42,og 44 43 false (.fad 3 (t 3)),og 45 43 false (.load false 1 (t 44)),og 46 43 false (.fad 0 (t 2)),og 47 43 false (.load false 1 (t 46)),og 48 43 false (.mv (t 6)),og 49 43 false (.iad 3 (t 47) (t 48)),og 50 43 false (.fad 1 (t 49)),og 51 43 false (.load false 1 (t 50)),og 52 43 false (.len (t 51)),og 53 43 false (.call 553 [(t 45),(t 52)]),og 54 43 false (.not (t 53)),o 55 (.pick (t 43) (kb true) (t 54))])
 (.cond (t 55) (.seq (.reg [o 4 (.mv (k 6))])
 (.fz [4] .ret))
 .skip))
 (.seq (.seq (.reg [oF 56 1 3,oL 57 56,o 58 (.call 554 [(t 57)]),oM 59 58,og 60 59 false (.fad 3 (t 3)),og 61 59 false (.load false 1 (t 60)),og 62 59 false (.call 554 [(t 61)]),o 63 (.pick (t 59) (kb true) (t 62))])
 (.cond (t 63) (.seq (.reg [o 4 (.mv (k 1))])
 (.fz [4] .ret))
 .skip))
 (.seq (.reg [o 4 (.mv (k 0))])
 (.fz [4] .ret)))))))⟩
def YkK(lo:Lo):FnE:=⟨536,true,⟨[0,1],[.ag [.l Zc3],.ag [.s,.l (cs [I]),.s,.l (cs [I])]],[],(cs [.l Zc3,.s,.l (cs [I]),.s,.l (cs [I])])⟩,.i .i64,[],(cs [I]),(fun x=>q23 lo x.1 x.2.1 x.2.2.1 x.2.2.2.1 x.2.2.2.2:Zt1×ByteArray× (List Int)×ByteArray× (List Int)->Option Int)⟩
def fs24(lo:Lo):List FnE:=YkK lo::fs23 lo
theorem Ytg{P:Program}{fm:FM}{lo:Lo}(h:GZ P fm fs23 lo)(t:Ti P fm 536 Ytf):GZ P fm fs24 lo:=
  h.p (YkK lo) .n t (by kernel_rfl) (by kernel_rfl) fun x=>by kernel_rfl
def q24(lo:Lo)(db0:List (ByteArray×Zt4×Zt15))(d1_0:ByteArray)(d1_1:List Int)(d1_2:ByteArray)(d1_3:List Int):Option Int:=
  YEV (q15 lo db0) fun y43=>bif(!decide (y43=(0:Int)))then(some y43)else(YEV (q23 lo db0 d1_0 d1_1 d1_2 d1_3) fun y64=>some y64)
def Yth:VFn:=⟨true,14,[.t 4],
 (.seq (.reg [o 2 (.box (t 0)),o 3 (.box (t 1)),o 4 (.mv (k 0))])
 (.seq (.seq (.reg [o 6 (.load true 1 (t 2)),o 7 (.call 535 [(t 6)]),oM 5 7])
 (.seq (.reg [oM 8 5,o 9 (.bin .neq (t 8) (k 0))])
 (.cond (t 9) (.seq (.reg [oM 10 5,oM 4 10])
 (.fz [4] .ret))
 .skip)))
 (.seq (.reg [o 11 (.load true 1 (t 2)),o 12 (.load true 4 (t 3)),o 13 (.call 536 [(t 11),(t 12)]),oM 4 13])
 (.fz [4] .ret))))⟩
def YkL(lo:Lo):FnE:=⟨500,true,⟨[0,1],[.ag [.l Zc3],.ag [.s,.l (cs [I]),.s,.l (cs [I])]],[],(cs [.l Zc3,.s,.l (cs [I]),.s,.l (cs [I])])⟩,.i .i64,[],(cs [I]),(fun x=>q24 lo x.1 x.2.1 x.2.2.1 x.2.2.2.1 x.2.2.2.2:Zt1×ByteArray× (List Int)×ByteArray× (List Int)->Option Int)⟩
def fs25(lo:Lo):List FnE:=YkL lo::fs24 lo
theorem Yti{P:Program}{fm:FM}{lo:Lo}(h:GZ P fm fs24 lo)(t:Ti P fm 500 Yth):GZ P fm fs25 lo:=
  h.p (YkL lo) .n t (by kernel_rfl) (by kernel_rfl) fun x=>by kernel_rfl
def q25_L3_b:VCode:=
 (.seq (.reg [o 12 (.bin .lss (t 11) (t 10))])
 (.seq (.cond (t 12) .skip
 (.exit 0))
 (.seq (.blk 1 (.seq (.reg [o 13 (.iad 3 (t 9) (t 11)),o 14 (.load true 3 (t 13)),o 7 (.alloc [.s (⟨#[]⟩),.e (cs [.s]),.e Zc18]),on (.store 3 (t 7) (t 14))])
 (.seq (.reg [oF 15 0 7,oL 16 15,oM 17 1,o 18 (.bin .eql (t 16) (t 17))])
 (.cond (t 18) (.seq (.reg [o 19 (.load true 3 (t 7)),on (.store 3 (t 4) (t 19)),o 5 (.mv (kb true))])
 (.fz [4,5] .ret))
 .skip))))
 (.reg [o 20 (.bin .add (t 11) (k 1)),oM 11 20]))))
def YkM(lo:Lo):Zp62->Option (Zp62⊕ ((Bool×ByteArray×Zt4×Zt15)⊕ (ByteArray×Zt4×Zt15))):=fun x=>match x with
  | (name1,v9,v10,v11,v4_0,v4_1,v4_2)=>bif(decide (v11<v10))then(chk (0<=v11/\v11< (v9.length:Int)) (bif(decide ((v9.getD v11.toNat ((YFf #[]),[],[])).1=name1))then(some (.inr (.inl (true,(v9.getD v11.toNat ((YFf #[]),[],[])).1,(v9.getD v11.toNat ((YFf #[]),[],[])).2.1,(v9.getD v11.toNat ((YFf #[]),[],[])).2.2))))else(some (.inl (name1,v9,v10,(YFg .i64 (v11+(1:Int))),v4_0,v4_1,v4_2)))))else(some (.inr (.inr (v4_0,v4_1,v4_2))))
def YkN(lo:Lo):Zp62->Option ((Bool×ByteArray×Zt4×Zt15)⊕ (ByteArray×Zt4×Zt15)):=lo.run (YkM lo)
def Ytj(lo:Lo):LpE:=⟨3,[],⟨[1,4,9,10,11],[.s,.ptr 0 0 0,.l Zc3,.i .i64,.i .i64],[.st [.s,.l (cs [.s]),.l Zc18]],(cs [.s,.l Zc3,I,I,.s,.l (cs [.s]),.l Zc18])⟩,[⟨.ret,⟨[4,5],[.ptr 0 0 0,.b],[.st [.s,.l (cs [.s]),.l Zc18]],(cs [.b,.s,.l (cs [.s]),.l Zc18])⟩⟩,⟨.exit 0,⟨[4],[.ptr 0 0 0],[.st [.s,.l (cs [.s]),.l Zc18]],Zc3⟩⟩],YkN lo⟩
def Ytk(lo:Lo):LL:=(Ytj lo,.loop q25_L3_b.er)::[]
theorem Ytl(lo:Lo):Lk lo pf (fs25 lo) 0 (Ytk lo):=.l .n (YkM lo) rfl (by kernel_rfl) fun x=>by kernel_rfl
def q25(lo:Lo)(db0:List (ByteArray×Zt4×Zt15))(name1:ByteArray):Option (ByteArray×Zt4×Zt15×Bool):=
  YEV (YkN lo (name1,db0,(db0.length:Int),(0:Int),(YFf #[]),([]:List ByteArray),([]:List (Int×Zt7)))) fun y66=>alt2 y66 (fun y67=>some (y67.2.1,y67.2.2.1,y67.2.2.2,y67.1)) (fun y68=>some ((YFf #[]),([]:List ByteArray),([]:List (Int×Zt7)),false))
def Ytm:VFn:=⟨true,22,[.c 4 true 3,.t 5],
 (.seq (.reg [o 2 (.box (t 0)),o 4 (.alloc [.s (⟨#[]⟩),.e (cs [.s]),.e Zc18]),o 5 (.mv (kb false))])
 (.seq (.seq (.reg [oF 8 0 2,oL 9 8,oN 10 9,o 11 (.mv (k 0))])
 (.blk 0 (.loop 3 q25_L3_b)))
 (.seq (.reg [o 21 (.build [.s (⟨#[]⟩),.e (cs [.s]),.e Zc18] []),on (.store 3 (t 4) (t 21)),o 5 (.mv (kb false))])
 (.fz [4,5] .ret))))⟩
def YkO(lo:Lo):FnE:=⟨501,true,⟨[0,1],[.ag [.l Zc3],.s],[],(cs [.l Zc3,.s])⟩,.tp [.ag [.s,.l (cs [.s]),.l Zc18],.b],[],(cs [.s,.l (cs [.s]),.l Zc18,.b]),(fun x=>q25 lo x.1 x.2:Zt1×ByteArray->Option (ByteArray×Zt4×Zt15×Bool))⟩
def fs26(lo:Lo):List FnE:=YkO lo::fs25 lo
theorem Ytn{P:Program}{fm:FM}{lo:Lo}(h:GZ P fm fs25 lo)(t:Ti P fm 501 Ytm):GZ P fm fs26 lo:=
  h.p (YkO lo) (Ytl lo) t (by kernel_rfl) (by kernel_rfl) fun x=>by kernel_rfl
def q26(lo:Lo)(c0:Int):Option Bool:=
  bif(decide ((97:Int)<=c0))then(bif(decide (c0<=(122:Int)))then(some true)else(bif(decide ((65:Int)<=c0))then(bif(decide (c0<=(90:Int)))then(some true)else(some (decide (c0=(95:Int)))))else(some (decide (c0=(95:Int))))))else(bif(decide ((65:Int)<=c0))then(bif(decide (c0<=(90:Int)))then(some true)else(some (decide (c0=(95:Int)))))else(some (decide (c0=(95:Int)))))
def Yto:VFn:=⟨true,21,[.t 2],
 (.seq (.reg [o 2 (.mv (kb false))])
 (.seq (.reg [oM 3 0,o 4 (.bin .geq (t 3) (ki .u8 97)),oM 5 4,og 6 5 true (.mv (t 0)),og 7 5 true (.bin .leq (t 6) (ki .u8 122)),o 8 (.pick (t 5) (t 7) (kb false)),oM 9 8,og 10 9 false (.mv (t 0)),og 11 9 false (.bin .geq (t 10) (ki .u8 65)),og 12 9 false (.mv (t 11)),og 13 12 true (.mv (t 0)),og 14 12 true (.bin .leq (t 13) (ki .u8 90)),og 15 9 false (.pick (t 12) (t 14) (kb false)),o 16 (.pick (t 9) (kb true) (t 15)),oM 17 16,og 18 17 false (.mv (t 0)),og 19 17 false (.bin .eql (t 18) (ki .u8 95)),o 20 (.pick (t 17) (kb true) (t 19)),oM 2 20])
 (.fz [2] .ret)))⟩
def YkP(lo:Lo):FnE:=⟨555,true,⟨[0],[.i .u8],[],Zc38⟩,.b,[],(cs [.b]),(fun x=>q26 lo x:Int->Option Bool)⟩
def fs27(lo:Lo):List FnE:=YkP lo::fs26 lo
theorem Ytp{P:Program}{fm:FM}{lo:Lo}(h:GZ P fm fs26 lo)(t:Ti P fm 555 Yto):GZ P fm fs27 lo:=
  h.p (YkP lo) .n t (by kernel_rfl) (by kernel_rfl) fun x=>by kernel_rfl
def q27(lo:Lo)(c0:Int):Option Bool:=
  bif(decide ((48:Int)<=c0))then(some (decide (c0<=(57:Int))))else(some false)
def Ytq:VFn:=⟨true,9,[.t 2],
 (.seq (.reg [o 2 (.mv (kb false))])
 (.seq (.reg [oM 3 0,o 4 (.bin .geq (t 3) (ki .u8 48)),oM 5 4,og 6 5 true (.mv (t 0)),og 7 5 true (.bin .leq (t 6) (ki .u8 57)),o 8 (.pick (t 5) (t 7) (kb false)),oM 2 8])
 (.fz [2] .ret)))⟩
def YkQ(lo:Lo):FnE:=⟨556,true,⟨[0],[.i .u8],[],Zc38⟩,.b,[],(cs [.b]),(fun x=>q27 lo x:Int->Option Bool)⟩
def fs28(lo:Lo):List FnE:=YkQ lo::fs27 lo
theorem Ytr{P:Program}{fm:FM}{lo:Lo}(h:GZ P fm fs27 lo)(t:Ti P fm 556 Ytq):GZ P fm fs28 lo:=
  h.p (YkQ lo) .n t (by kernel_rfl) (by kernel_rfl) fun x=>by kernel_rfl
def q28_L3_b:VCode:=
 (.seq (.reg [o 24 (.bin .lss (t 23) (t 22))])
 (.seq (.cond (t 24) .skip
 (.exit 0))
 (.seq (.blk 1 (.seq (.reg [oM 25 23,oM 3 25])
 (.seq (.reg [oM 26 0,oM 27 3,o 28 (.idx (t 26) (t 27)),o 29 (.call 555 [(t 28)]),o 30 (.not (t 29)),oM 31 30,og 32 31 true (.mv (t 0)),og 33 31 true (.mv (t 3)),og 34 31 true (.idx (t 32) (t 33)),og 35 31 true (.call 556 [(t 34)]),og 36 31 true (.not (t 35)),o 37 (.pick (t 31) (t 36) (kb false))])
 (.cond (t 37) (.seq (.reg [o 2 (.mv (kb false))])
 (.fz [2] .ret))
 .skip))))
 (.reg [o 38 (.bin .add (t 23) (k 1)),oM 23 38]))))
def YdU(lo:Lo):ByteArray×Int×Int->Option ((ByteArray×Int×Int)⊕ (Bool⊕Unit)):=fun x=>match x with
  | (s0,v22,v23)=>bif(decide (v23<v22))then(chk (0<=v23/\v23< (s0.size:Int)) (YEV (q26 lo (YzT s0 v23)) fun y71=>bif(!y71)then(chk (0<=v23/\v23< (s0.size:Int)) (YEV (q27 lo (YzT s0 v23)) fun y72=>bif(!y72)then(some (.inr (.inl false)))else(some (.inl (s0,v22,(YFg .i64 (v23+(1:Int))))))))else(some (.inl (s0,v22,(YFg .i64 (v23+(1:Int))))))))else(some (.inr (.inr ())))
def YfK(lo:Lo):ByteArray×Int×Int->Option (Bool⊕Unit):=lo.run (YdU lo)
def Yts(lo:Lo):LpE:=⟨3,[],⟨[0,22,23],[.s,.i .i64,.i .i64],[],(cs [.s,I,I])⟩,[⟨.ret,⟨[2],[.b],[],(cs [.b])⟩⟩,⟨.exit 0,⟨[],[],[],(cs [])⟩⟩],YfK lo⟩
def Ytt(lo:Lo):LL:=(Yts lo,.loop q28_L3_b.er)::[]
theorem Ytu(lo:Lo):Lk lo pf (fs28 lo) 0 (Ytt lo):=.l .n (YdU lo) rfl (by kernel_rfl) fun x=>by kernel_rfl
def q28(lo:Lo)(s0:ByteArray):Option Bool:=
  bif(decide (s0=(YFf #[])))then(some false)else(bif(decide ((24:Int)< (s0.size:Int)))then(some false)else(bif(decide (s0=(YFf #[110,117,108,108])))then(some false)else(chk (0<=(0:Int)/\ (0:Int)< (s0.size:Int)) (YEV (q26 lo (YzT s0 (0:Int))) fun y70=>bif(!y70)then(some false)else(YEV (YfK lo (s0,(s0.size:Int),(0:Int))) fun y73=>alt2 y73 (fun y74=>some y74) (fun y75=>some true))))))
def Ytv:VFn:=⟨true,39,[.t 2],
 (.seq (.reg [o 2 (.mv (kb false))])
 (.seq (.seq (.reg [oM 4 0,o 5 (.bin .eql (t 4) (ks (⟨#[]⟩))),oM 6 5,og 7 6 false (.mv (t 0)),og 8 6 false (.lenS (t 7)),og 9 6 false (.bin .gtr (t 8) (k 24)),o 10 (.pick (t 6) (kb true) (t 9)),oM 11 10,og 12 11 false (.mv (t 0)),og 13 11 false (.bin .eql (t 12) (ks (⟨#[110,117,108,108]⟩))),o 14 (.pick (t 11) (kb true) (t 13)),oM 15 14,og 16 15 false (.mv (t 0)),og 17 15 false (.idx (t 16) (k 0)),og 18 15 false (.call 555 [(t 17)]),og 19 15 false (.not (t 18)),o 20 (.pick (t 15) (kb true) (t 19))])
 (.cond (t 20) (.seq (.reg [o 2 (.mv (kb false))])
 (.fz [2] .ret))
 .skip))
 (.seq (.seq (.reg [oM 21 0,o 22 (.lenS (t 21)),o 23 (.mv (k 0))])
 (.blk 0 (.loop 3 q28_L3_b)))
 (.seq (.reg [o 2 (.mv (kb true))])
 (.fz [2] .ret)))))⟩
def YkR(lo:Lo):FnE:=⟨538,true,⟨[0],[.s],[],(cs [.s])⟩,.b,[],(cs [.b]),(fun x=>q28 lo x:ByteArray->Option Bool)⟩
def fs29(lo:Lo):List FnE:=YkR lo::fs28 lo
theorem Ytw{P:Program}{fm:FM}{lo:Lo}(h:GZ P fm fs28 lo)(t:Ti P fm 538 Ytv):GZ P fm fs29 lo:=
  h.p (YkR lo) (Ytu lo) t (by kernel_rfl) (by kernel_rfl) fun x=>by kernel_rfl
def q29(lo:Lo)(t0_0:ByteArray)(t0_1:Int)(t0_2:Int)(t0_3:ByteArray):Option Bool:=
  bif(!decide (t0_0=(YFf #[])))then(YEV (q28 lo t0_0) fun y76=>bif y76 then(some ((decide (t0_1=(0:Int)))&& ((decide (t0_2=(0:Int)))&& ((decide (t0_3=(YFf #[])))&&true))))else(some false))else(YEV (q6 lo t0_1 t0_2 t0_3) fun y77=>some y77)
def Ytx:VFn:=⟨true,18,[.t 2],
 (.seq (.reg [o 1 (.box (t 0)),o 2 (.mv (kb false))])
 (.seq (.seq (.reg [oF 3 0 1,oL 4 3,o 5 (.bin .neq (t 4) (ks (⟨#[]⟩)))])
 (.cond (t 5) (.seq (.reg [oF 6 0 1,oL 7 6,o 8 (.call 538 [(t 7)]),oM 9 8,og 10 9 true (.fad 1 (t 1)),og 11 9 true (.load true 3 (t 10)),og 12 9 true (.build [.i .i64 0,.i .i64 0,.s (⟨#[]⟩)] []),og 13 9 true (.eqa false [1,1,2] (t 11) (t 12)),o 14 (.pick (t 9) (t 13) (kb false)),oM 2 14])
 (.fz [2] .ret))
 .skip))
 (.seq (.reg [oF 15 1 1,o 16 (.load true 3 (t 15)),o 17 (.call 283 [(t 16)]),oM 2 17])
 (.fz [2] .ret))))⟩
def YkS(lo:Lo):FnE:=⟨504,true,⟨[0],[.ag [.s,.i .i64,.i .i64,.s]],[],Zc9⟩,.b,[],(cs [.b]),(fun x=>q29 lo x.1 x.2.1 x.2.2.1 x.2.2.2:Zp76->Option Bool)⟩
def fs30(lo:Lo):List FnE:=YkS lo::fs29 lo
theorem Yty{P:Program}{fm:FM}{lo:Lo}(h:GZ P fm fs29 lo)(t:Ti P fm 504 Ytx):GZ P fm fs30 lo:=
  h.p (YkS lo) .n t (by kernel_rfl) (by kernel_rfl) fun x=>by kernel_rfl
def q30(lo:Lo)(t0_0:ByteArray)(t0_1:Int)(t0_2:Int)(t0_3:ByteArray):Option Bool:=
  YEV (q29 lo t0_0 t0_1 t0_2 t0_3) fun y78=>some (!y78)
def Ytz:VFn:=⟨true,6,[.t 2],
 (.seq (.reg [o 1 (.box (t 0)),o 2 (.mv (kb false))])
 (.seq (.reg [o 3 (.load true 4 (t 1)),o 4 (.call 504 [(t 3)]),o 5 (.not (t 4)),oM 2 5])
 (.fz [2] .ret)))⟩
def YkT(lo:Lo):FnE:=⟨503,true,⟨[0],[.ag [.s,.i .i64,.i .i64,.s]],[],Zc9⟩,.b,[],(cs [.b]),(fun x=>q30 lo x.1 x.2.1 x.2.2.1 x.2.2.2:Zp76->Option Bool)⟩
def fs31(lo:Lo):List FnE:=YkT lo::fs30 lo
theorem YtA{P:Program}{fm:FM}{lo:Lo}(h:GZ P fm fs30 lo)(t:Ti P fm 503 Ytz):GZ P fm fs31 lo:=
  h.p (YkT lo) .n t (by kernel_rfl) (by kernel_rfl) fun x=>by kernel_rfl
def q31_L3_b:VCode:=
 (.seq (.reg [o 9 (.bin .lss (t 8) (t 7))])
 (.seq (.cond (t 9) .skip
 (.exit 0))
 (.seq (.blk 1 (.seq (.reg [oM 10 8,oM 5 10])
 (.seq (.reg [oM 11 1,oM 12 0,oM 13 5,o 14 (.iad 4 (t 12) (t 13)),o 15 (.load true 4 (t 14)),o 16 (.dyn (t 11) [(t 15)])])
 (.cond (t 16) (.seq (.reg [oM 17 5,oM 4 17])
 .ret)
 .skip))))
 (.reg [o 18 (.bin .add (t 8) (k 1)),oM 8 18]))))
def YkU(lo:Lo):Zt5×Int×Int->Option ((Zt5×Int×Int)⊕ (Int⊕Unit)):=fun x=>match x with
  | (s0,v7,v8)=>bif(decide (v8<v7))then(chk (0<=v8/\v8< (s0.length:Int)) (YEV (q30 lo ((s0.getD v8.toNat ((YFf #[]),(0:Int),(0:Int),(YFf #[]))).1) ((s0.getD v8.toNat ((YFf #[]),(0:Int),(0:Int),(YFf #[]))).2.1) ((s0.getD v8.toNat ((YFf #[]),(0:Int),(0:Int),(YFf #[]))).2.2.1) ((s0.getD v8.toNat ((YFf #[]),(0:Int),(0:Int),(YFf #[]))).2.2.2)) fun y79=>bif y79 then(some (.inr (.inl v8)))else(some (.inl (s0,v7,(YFg .i64 (v8+(1:Int))))))))else(some (.inr (.inr ())))
def YkV(lo:Lo):Zt5×Int×Int->Option (Int⊕Unit):=lo.run (YkU lo)
def YtB(lo:Lo):LpE:=⟨3,[],⟨[0,1,7,8],[.l Zc9,.clo 503 [],.i .i64,.i .i64],[],(cs [.l Zc9,I,I])⟩,[⟨.ret,⟨[4],[.i .i64],[],(cs [I])⟩⟩,⟨.exit 0,⟨[],[],[],(cs [])⟩⟩],YkV lo⟩
def YtC(lo:Lo):LL:=(YtB lo,.loop q31_L3_b.er)::[]
theorem YtD(lo:Lo):Lk lo pf (fs31 lo) 0 (YtC lo):=.l .n (YkU lo) rfl (by kernel_rfl) fun x=>by kernel_rfl
def q31(lo:Lo)(s0:List Zp76):Option Int:=
  YEV (YkV lo (s0,(s0.length:Int),(0:Int))) fun y80=>alt2 y80 (fun y81=>some y81) (fun y82=>some (-1:Int))
def YtE:VFn:=⟨true,19,[.t 4],
 (.seq (.reg [o 4 (.mv (k 0))])
 (.seq (.seq (.reg [oM 6 0,oN 7 6,o 8 (.mv (k 0))])
 (.blk 0 (.loop 3 q31_L3_b)))
 (.seq (.reg [o 4 (.mv (k (-1)))])
 .ret)))⟩
def YkW(lo:Lo):FnE:=⟨537,false,⟨[0,1],[.l Zc9,.clo 503 []],[],(cs [.l Zc9])⟩,.i .i64,[],(cs [I]),(fun x=>q31 lo x:Zt5->Option Int)⟩
def fs32(lo:Lo):List FnE:=YkW lo::fs31 lo
theorem YtF{P:Program}{fm:FM}{lo:Lo}(h:GZ P fm fs31 lo)(t:Ti P fm 537 YtE):GZ P fm fs32 lo:=
  h.i (YkW lo) (YtD lo) t (by kernel_rfl) (by kernel_rfl) fun x=>by kernel_rfl
def q32(lo:Lo)(s0:List Zp76):Option Bool:=
  YEV (q31 lo s0) fun y83=>some (decide ((0:Int)<=y83))
def YtG:VFn:=⟨true,9,[.t 4],
 (.seq (.reg [o 4 (.mv (kb false))])
 (.seq (.reg [oM 5 0,oM 6 1,o 7 (.call 537 [(t 5),(t 6)]),o 8 (.bin .geq (t 7) (k 0)),oM 4 8])
 .ret))⟩
def YkX(lo:Lo):FnE:=⟨502,false,⟨[0,1],[.l Zc9,.clo 503 []],[],(cs [.l Zc9])⟩,.b,[],(cs [.b]),(fun x=>q32 lo x:Zt5->Option Bool)⟩
def fs33(lo:Lo):List FnE:=YkX lo::fs32 lo
theorem YtH{P:Program}{fm:FM}{lo:Lo}(h:GZ P fm fs32 lo)(t:Ti P fm 502 YtG):GZ P fm fs33 lo:=
  h.i (YkX lo) .n t (by kernel_rfl) (by kernel_rfl) fun x=>by kernel_rfl
def q33(lo:Lo)(t0_0:ByteArray)(t0_1:Int)(t0_2:Int)(t0_3:ByteArray)(v1:ByteArray):Option (Bool×ByteArray):=
  some ((decide (t0_0=v1)),v1)
def YtI:VFn:=⟨true,8,[.t 3],
 (.seq (.reg [o 2 (.box (t 0)),o 3 (.mv (kb false))])
 (.seq (.reg [oF 4 0 2,oL 5 4,oL 6 1,o 7 (.bin .eql (t 5) (t 6)),oM 3 7])
 .ret))⟩
def YkY(lo:Lo):FnE:=⟨541,false,⟨[0,1],[.ag [.s,.i .i64,.i .i64,.s],.ptr 0 0 0],[.st [.s]],(cs [.s,I,I,.s,.s])⟩,.b,[.st [.s]],(cs [.b,.s]),(fun x=>q33 lo x.1 x.2.1 x.2.2.1 x.2.2.2.1 x.2.2.2.2:ByteArray×Int×Int×ByteArray×ByteArray->Option (Bool×ByteArray))⟩
def fs34(lo:Lo):List FnE:=YkY lo::fs33 lo
theorem YtJ{P:Program}{fm:FM}{lo:Lo}(h:GZ P fm fs33 lo)(t:Ti P fm 541 YtI):GZ P fm fs34 lo:=
  h.i (YkY lo) .n t (by kernel_rfl) (by kernel_rfl) fun x=>by kernel_rfl
def q34_L3_b:VCode:=
 (.seq (.reg [o 9 (.bin .lss (t 8) (t 7))])
 (.seq (.cond (t 9) .skip
 (.exit 0))
 (.seq (.blk 1 (.seq (.reg [oM 10 8,oM 5 10])
 (.seq (.reg [oM 11 1,oM 12 0,oM 13 5,o 14 (.iad 4 (t 12) (t 13)),o 15 (.load true 4 (t 14)),o 16 (.dyn (t 11) [(t 15)])])
 (.cond (t 16) (.seq (.reg [oM 17 5,oM 4 17])
 .ret)
 .skip))))
 (.reg [o 18 (.bin .add (t 8) (k 1)),oM 8 18]))))
def YdV(lo:Lo):Zt5×Int×Int×ByteArray->Option ((Zt5×Int×Int×ByteArray)⊕ ((Int×ByteArray)⊕ByteArray)):=fun x=>match x with
  | (s0,v7,v8,h0)=>bif(decide (v8<v7))then(chk (0<=v8/\v8< (s0.length:Int)) (YEV (q33 lo ((s0.getD v8.toNat ((YFf #[]),(0:Int),(0:Int),(YFf #[]))).1) ((s0.getD v8.toNat ((YFf #[]),(0:Int),(0:Int),(YFf #[]))).2.1) ((s0.getD v8.toNat ((YFf #[]),(0:Int),(0:Int),(YFf #[]))).2.2.1) ((s0.getD v8.toNat ((YFf #[]),(0:Int),(0:Int),(YFf #[]))).2.2.2) h0) fun y89=>bif y89.1 then(some (.inr (.inl (v8,y89.2))))else(some (.inl (s0,v7,(YFg .i64 (v8+(1:Int))),y89.2)))))else(some (.inr (.inr h0)))
def YfL(lo:Lo):Zt5×Int×Int×ByteArray->Option ((Int×ByteArray)⊕ByteArray):=lo.run (YdV lo)
def YtK(lo:Lo):LpE:=⟨3,[],⟨[0,1,7,8],[.l Zc9,.clo 541 [.ptr 0 0 0],.i .i64,.i .i64],[.st [.s]],(cs [.l Zc9,I,I,.s])⟩,[⟨.ret,⟨[4],[.i .i64],[.st [.s]],Zc36⟩⟩,⟨.exit 0,⟨[],[],[.st [.s]],(cs [.s])⟩⟩],YfL lo⟩
def YtL(lo:Lo):LL:=(YtK lo,.loop q34_L3_b.er)::[]
theorem YtM(lo:Lo):Lk lo pf (fs34 lo) 1 (YtL lo):=.l .n (YdV lo) rfl (by kernel_rfl) fun x=>by kernel_rfl
def q34(lo:Lo)(s0:List Zp76)(h0:ByteArray):Option (Int×ByteArray):=
  YEV (YfL lo (s0,(s0.length:Int),(0:Int),h0)) fun y90=>alt2 y90 (fun y91=>some (y91.1,y91.2)) (fun y92=>some ((-1:Int),y92))
def YtN:VFn:=⟨true,19,[.t 4],
 (.seq (.reg [o 4 (.mv (k 0))])
 (.seq (.seq (.reg [oM 6 0,oN 7 6,o 8 (.mv (k 0))])
 (.blk 0 (.loop 3 q34_L3_b)))
 (.seq (.reg [o 4 (.mv (k (-1)))])
 .ret)))⟩
def YkZ(lo:Lo):FnE:=⟨537,false,⟨[0,1],[.l Zc9,.clo 541 [.ptr 0 0 0]],[.st [.s]],(cs [.l Zc9,.s])⟩,.i .i64,[.st [.s]],Zc36,(fun x=>q34 lo x.1 x.2:Zt5×ByteArray->Option (Int×ByteArray))⟩
def fs35(lo:Lo):List FnE:=YkZ lo::fs34 lo
theorem YtO{P:Program}{fm:FM}{lo:Lo}(h:GZ P fm fs34 lo)(t:Ti P fm 537 YtN):GZ P fm fs35 lo:=
  h.i (YkZ lo) (YtM lo) t (by kernel_rfl) (by kernel_rfl) fun x=>by kernel_rfl
def q35(lo:Lo)(s0:List Zp76)(h0:ByteArray):Option (Bool×ByteArray):=
  YEV (q34 lo s0 h0) fun y93=>some ((decide ((0:Int)<=y93.1)),y93.2)
def YtP:VFn:=⟨true,9,[.t 4],
 (.seq (.reg [o 4 (.mv (kb false))])
 (.seq (.reg [oM 5 0,oM 6 1,o 7 (.call 537 [(t 5),(t 6)]),o 8 (.bin .geq (t 7) (k 0)),oM 4 8])
 .ret))⟩
def Yk0(lo:Lo):FnE:=⟨502,false,⟨[0,1],[.l Zc9,.clo 541 [.ptr 0 0 0]],[.st [.s]],(cs [.l Zc9,.s])⟩,.b,[.st [.s]],(cs [.b,.s]),(fun x=>q35 lo x.1 x.2:Zt5×ByteArray->Option (Bool×ByteArray))⟩
def fs36(lo:Lo):List FnE:=Yk0 lo::fs35 lo
theorem YtQ{P:Program}{fm:FM}{lo:Lo}(h:GZ P fm fs35 lo)(t:Ti P fm 502 YtP):GZ P fm fs36 lo:=
  h.i (Yk0 lo) .n t (by kernel_rfl) (by kernel_rfl) fun x=>by kernel_rfl
def q36(lo:Lo)(a0_0:ByteArray)(a0_1:List Zp76)(v1:ByteArray):Option (Bool×ByteArray):=
  YEV (q35 lo a0_1 v1) fun y94=>some (y94.1,y94.2)
def YtR:VFn:=⟨true,8,[.t 3],
 (.seq (.reg [o 2 (.box (t 0)),o 3 (.mv (kb false))])
 (.seq (.reg [oF 4 1 2,oL 5 4,o 6 (.mkf 541 [(t 1)]),o 7 (.call 502 [(t 5),(t 6)]),oM 3 7])
 .ret))⟩
def Yk1(lo:Lo):FnE:=⟨540,false,⟨[0,1],[.ag [.s,.l Zc9],.ptr 0 0 0],[.st [.s]],(cs [.s,.l Zc9,.s])⟩,.b,[.st [.s]],(cs [.b,.s]),(fun x=>q36 lo x.1 x.2.1 x.2.2:ByteArray×Zt5×ByteArray->Option (Bool×ByteArray))⟩
def fs37(lo:Lo):List FnE:=Yk1 lo::fs36 lo
theorem YtS{P:Program}{fm:FM}{lo:Lo}(h:GZ P fm fs36 lo)(t:Ti P fm 540 YtR):GZ P fm fs37 lo:=
  h.i (Yk1 lo) .n t (by kernel_rfl) (by kernel_rfl) fun x=>by kernel_rfl
def q37_L3_b:VCode:=
 (.seq (.reg [o 9 (.bin .lss (t 8) (t 7))])
 (.seq (.cond (t 9) .skip
 (.exit 0))
 (.seq (.blk 1 (.seq (.reg [oM 10 8,oM 5 10])
 (.seq (.reg [oM 11 1,oM 12 0,oM 13 5,o 14 (.iad 2 (t 12) (t 13)),o 15 (.load true 2 (t 14)),o 16 (.dyn (t 11) [(t 15)])])
 (.cond (t 16) (.seq (.reg [oM 17 5,oM 4 17])
 .ret)
 .skip))))
 (.reg [o 18 (.bin .add (t 8) (k 1)),oM 8 18]))))
def YdW(lo:Lo):Zt0×Int×Int×ByteArray->Option ((Zt0×Int×Int×ByteArray)⊕ ((Int×ByteArray)⊕ByteArray)):=fun x=>match x with
  | (s0,v7,v8,h0)=>bif(decide (v8<v7))then(chk (0<=v8/\v8< (s0.length:Int)) (YEV (q36 lo ((s0.getD v8.toNat ((YFf #[]),[])).1) ((s0.getD v8.toNat ((YFf #[]),[])).2) h0) fun y95=>bif y95.1 then(some (.inr (.inl (v8,y95.2))))else(some (.inl (s0,v7,(YFg .i64 (v8+(1:Int))),y95.2)))))else(some (.inr (.inr h0)))
def YfM(lo:Lo):Zt0×Int×Int×ByteArray->Option ((Int×ByteArray)⊕ByteArray):=lo.run (YdW lo)
def YtT(lo:Lo):LpE:=⟨3,[],⟨[0,1,7,8],[.l Zc2,.clo 540 [.ptr 0 0 0],.i .i64,.i .i64],[.st [.s]],(cs [.l Zc2,I,I,.s])⟩,[⟨.ret,⟨[4],[.i .i64],[.st [.s]],Zc36⟩⟩,⟨.exit 0,⟨[],[],[.st [.s]],(cs [.s])⟩⟩],YfM lo⟩
def YtU(lo:Lo):LL:=(YtT lo,.loop q37_L3_b.er)::[]
theorem YtV(lo:Lo):Lk lo pf (fs37 lo) 1 (YtU lo):=.l .n (YdW lo) rfl (by kernel_rfl) fun x=>by kernel_rfl
def q37(lo:Lo)(s0:List (ByteArray×Zt5))(h0:ByteArray):Option (Int×ByteArray):=
  YEV (YfM lo (s0,(s0.length:Int),(0:Int),h0)) fun y96=>alt2 y96 (fun y97=>some (y97.1,y97.2)) (fun y98=>some ((-1:Int),y98))
def YtW:VFn:=⟨true,19,[.t 4],
 (.seq (.reg [o 4 (.mv (k 0))])
 (.seq (.seq (.reg [oM 6 0,oN 7 6,o 8 (.mv (k 0))])
 (.blk 0 (.loop 3 q37_L3_b)))
 (.seq (.reg [o 4 (.mv (k (-1)))])
 .ret)))⟩
def Yk2(lo:Lo):FnE:=⟨557,false,⟨[0,1],[.l Zc2,.clo 540 [.ptr 0 0 0]],[.st [.s]],(cs [.l Zc2,.s])⟩,.i .i64,[.st [.s]],Zc36,(fun x=>q37 lo x.1 x.2:Zt0×ByteArray->Option (Int×ByteArray))⟩
def fs38(lo:Lo):List FnE:=Yk2 lo::fs37 lo
theorem YtX{P:Program}{fm:FM}{lo:Lo}(h:GZ P fm fs37 lo)(t:Ti P fm 557 YtW):GZ P fm fs38 lo:=
  h.i (Yk2 lo) (YtV lo) t (by kernel_rfl) (by kernel_rfl) fun x=>by kernel_rfl
def q38(lo:Lo)(s0:List (ByteArray×Zt5))(h0:ByteArray):Option (Bool×ByteArray):=
  YEV (q37 lo s0 h0) fun y99=>some ((decide ((0:Int)<=y99.1)),y99.2)
def YtY:VFn:=⟨true,9,[.t 4],
 (.seq (.reg [o 4 (.mv (kb false))])
 (.seq (.reg [oM 5 0,oM 6 1,o 7 (.call 557 [(t 5),(t 6)]),o 8 (.bin .geq (t 7) (k 0)),oM 4 8])
 .ret))⟩
def Yk3(lo:Lo):FnE:=⟨539,false,⟨[0,1],[.l Zc2,.clo 540 [.ptr 0 0 0]],[.st [.s]],(cs [.l Zc2,.s])⟩,.b,[.st [.s]],(cs [.b,.s]),(fun x=>q38 lo x.1 x.2:Zt0×ByteArray->Option (Bool×ByteArray))⟩
def fs39(lo:Lo):List FnE:=Yk3 lo::fs38 lo
theorem YtZ{P:Program}{fm:FM}{lo:Lo}(h:GZ P fm fs38 lo)(t:Ti P fm 539 YtY):GZ P fm fs39 lo:=
  h.i (Yk3 lo) .n t (by kernel_rfl) (by kernel_rfl) fun x=>by kernel_rfl
def q39_L3_b:VCode:=
 (.seq (.reg [o 9 (.bin .lss (t 8) (t 7))])
 (.seq (.cond (t 9) .skip
 (.exit 0))
 (.seq (.blk 1 (.seq (.reg [oM 10 8,o 11 (.iad 1 (t 6) (t 8)),oL 12 11,o 4 (.alloc [.s (⟨#[]⟩)]),oM 3 10,on (.store 1 (t 4) (t 12))])
 (.seq (.reg [oL 13 4,o 14 (.bin .eql (t 13) (ks (⟨#[]⟩))),oM 15 14,og 16 15 false (.fad 0 (t 1)),og 17 15 false (.load false 1 (t 16)),og 18 15 false (.mv (t 3)),og 19 15 false (.slcR 1 (t 17) none (some (t 18))),og 20 15 false (.load false 1 (t 4)),og 21 15 false (.call 256 [(t 19),(t 20)]),o 22 (.pick (t 15) (kb true) (t 21)),oM 23 22,og 24 23 false (.fad 1 (t 1)),og 25 23 false (.load false 1 (t 24)),og 26 23 false (.mkf 540 [(t 4)]),og 27 23 false (.call 539 [(t 25),(t 26)]),og 28 23 false (.not (t 27)),o 29 (.pick (t 23) (kb true) (t 28))])
 (.cond (t 29) (.seq (.reg [o 2 (.mv (kb false))])
 (.fz [2] .ret))
 .skip))))
 (.reg [o 30 (.bin .add (t 8) (k 1)),oM 8 30]))))
def YdX(lo:Lo):Zt4×Int×Int×Zt4×Zt0->Option ((Zt4×Int×Int×Zt4×Zt0)⊕ (Bool⊕Unit)):=fun x=>match x with
  | (v6,v7,v8,q1_0,q1_1)=>bif(decide (v8<v7))then(chk (0<=v8/\v8< (v6.length:Int)) (bif(decide ((v6.getD v8.toNat (YFf #[]))=(YFf #[])))then(some (.inr (.inl false)))else(chk (0<=(0:Int)/\ (0:Int)<=v8/\v8<=(q1_0.length:Int)) (YEV (q5 lo ((q1_0.take v8.toNat).drop 0) (v6.getD v8.toNat (YFf #[]))) fun y88=>bif y88 then(some (.inr (.inl false)))else(YEV (q38 lo q1_1 (v6.getD v8.toNat (YFf #[]))) fun y100=>bif(!y100.1)then(some (.inr (.inl false)))else(some (.inl (v6,v7,(YFg .i64 (v8+(1:Int))),q1_0,q1_1))))))))else(some (.inr (.inr ())))
def YfN(lo:Lo):Zt4×Int×Int×Zt4×Zt0->Option (Bool⊕Unit):=lo.run (YdX lo)
def Yt0(lo:Lo):LpE:=⟨3,[],⟨[1,6,7,8],[.ptr 0 0 0,.l (cs [.s]),.i .i64,.i .i64],[.st [.l (cs [.s]),.l Zc2]],(cs [.l (cs [.s]),I,I,.l (cs [.s]),.l Zc2])⟩,[⟨.ret,⟨[2],[.b],[],(cs [.b])⟩⟩,⟨.exit 0,⟨[],[],[],(cs [])⟩⟩],YfN lo⟩
def Yt1(lo:Lo):LL:=(Yt0 lo,.loop q39_L3_b.er)::[]
theorem Yt2(lo:Lo):Lk lo pf (fs39 lo) 0 (Yt1 lo):=.l .n (YdX lo) rfl (by kernel_rfl) fun x=>by kernel_rfl
def q39(lo:Lo)(q0_0:List ByteArray)(q0_1:List (ByteArray×Zt5)):Option Bool:=
  YEV (YfN lo (q0_0,(q0_0.length:Int),(0:Int),q0_0,q0_1)) fun y101=>alt2 y101 (fun y102=>some y102) (fun y103=>some true)
def Yt3:VFn:=⟨true,31,[.t 2],
 (.seq (.reg [o 1 (.box (t 0)),o 2 (.mv (kb false))])
 (.seq (.seq (.reg [oF 5 0 1,oL 6 5,oN 7 6,o 8 (.mv (k 0))])
 (.blk 0 (.loop 3 q39_L3_b)))
 (.seq (.reg [o 2 (.mv (kb true))])
 (.fz [2] .ret))))⟩
def Yk4(lo:Lo):FnE:=⟨505,true,⟨[0],[.ag [.l (cs [.s]),.l Zc2]],[],Zc20⟩,.b,[],(cs [.b]),(fun x=>q39 lo x.1 x.2:Zt4×Zt0->Option Bool)⟩
def fs40(lo:Lo):List FnE:=Yk4 lo::fs39 lo
theorem Yt4{P:Program}{fm:FM}{lo:Lo}(h:GZ P fm fs39 lo)(t:Ti P fm 505 Yt3):GZ P fm fs40 lo:=
  h.p (Yk4 lo) (Yt2 lo) t (by kernel_rfl) (by kernel_rfl) fun x=>by kernel_rfl
def q40_L6_b:VCode:=
 (.seq (.reg [o 30 (.bin .lss (t 29) (t 28))])
 (.seq (.cond (t 30) .skip
 (.exit 0))
 (.seq (.blk 1 (.seq (.reg [o 31 (.iad 2 (t 27) (t 29)),o 32 (.load true 2 (t 31)),o 7 (.alloc [.s (⟨#[]⟩),.e Zc9]),on (.store 2 (t 7) (t 32))])
 (.seq (.reg [o 34 (.load true 1 (t 2)),oF 35 0 7,oL 36 35,o 37 (.call 501 [(t 34),(t 36)]),oM 33 37,oE 38 33 0,oE 39 33 1,o 8 (.alloc [.s (⟨#[]⟩),.e (cs [.s]),.e Zc18]),on (.store 3 (t 8) (t 38)),oM 9 39])
 (.blk 2 (.seq (.reg [oM 41 9,o 42 (.not (t 41)),oM 40 42])
 (.cond (t 40) (.seq (.reg [o 4 (.mv (k 4))])
 (.fz [4] .ret))
 (.seq (.reg [oF 44 1 8,oL 45 44,oN 46 45,oF 47 1 7,oL 48 47,oN 49 48,o 50 (.bin .neq (t 46) (t 49)),oM 43 50])
 (.cond (t 43) (.seq (.reg [o 4 (.mv (k 6))])
 (.fz [4] .ret))
 (.seq (.reg [oF 52 1 7,oL 53 52,o 54 (.call 502 [(t 53),(.c (.f 503))]),oM 51 54])
 (.cond (t 51) (.seq (.reg [o 4 (.mv (k 1))])
 (.fz [4] .ret))
 .skip))))))))))
 (.reg [o 55 (.bin .add (t 29) (k 1)),oM 29 55]))))
def Yk5(lo:Lo):Zt0×Int×Int×Zt1×Zt4×Zt0->Option ((Zt0×Int×Int×Zt1×Zt4×Zt0)⊕ (Int⊕ (Zt4×Zt0))):=fun x=>match x with
  | (v27,v28,v29,db2,q3_0,q3_1)=>bif(decide (v29<v28))then(chk (0<=v29/\v29< (v27.length:Int)) (YEV (q25 lo db2 ((v27.getD v29.toNat ((YFf #[]),[])).1)) fun y69=>bif(!y69.2.2.2)then(some (.inr (.inl (4:Int))))else(bif(!decide ((y69.2.1.length:Int)=(((v27.getD v29.toNat ((YFf #[]),[])).2).length:Int)))then(some (.inr (.inl (6:Int))))else(YEV (q32 lo ((v27.getD v29.toNat ((YFf #[]),[])).2)) fun y84=>bif y84 then(some (.inr (.inl (1:Int))))else(some (.inl (v27,v28,(YFg .i64 (v29+(1:Int))),db2,q3_0,q3_1)))))))else(some (.inr (.inr (q3_0,q3_1))))
def Yk6(lo:Lo):Zt0×Int×Int×Zt1×Zt4×Zt0->Option (Int⊕ (Zt4×Zt0)):=lo.run (Yk5 lo)
def Yt5(lo:Lo):LpE:=⟨6,[],⟨[2,3,27,28,29],[.ptr 0 0 0,.ptr 1 0 0,.l Zc2,.i .i64,.i .i64],[.st [.l Zc3],.st [.l (cs [.s]),.l Zc2]],(cs [.l Zc2,I,I,.l Zc3,.l (cs [.s]),.l Zc2])⟩,[⟨.ret,⟨[4],[.i .i64],[],(cs [I])⟩⟩,⟨.exit 0,⟨[3],[.ptr 0 0 0],[.st [.l (cs [.s]),.l Zc2]],Zc20⟩⟩],Yk6 lo⟩
def Yt6(lo:Lo):LL:=(Yt5 lo,.loop q40_L6_b.er)::[]
theorem Yt7(lo:Lo):Lk lo pf (fs40 lo) 0 (Yt6 lo):=.l .n (Yk5 lo) rfl (by kernel_rfl) fun x=>by kernel_rfl
def q40(lo:Lo)(db0:List (ByteArray×Zt4×Zt15))(q1_0:List ByteArray)(q1_1:List (ByteArray×Zt5)):Option Int:=
  YEV (q24 lo db0 (YFf #[]) ([]:List Int) (YFf #[]) ([]:List Int)) fun y65=>bif(!decide (y65=(4:Int)))then(some y65)else(bif(decide ((q1_1.length:Int)< (1:Int)))then(some (1:Int))else(bif(decide ((6:Int)< (q1_1.length:Int)))then(some (1:Int))else(YEV (Yk6 lo (q1_1,(q1_1.length:Int),(0:Int),db0,q1_0,q1_1)) fun y85=>alt2 y85 (fun y86=>some y86) (fun y87=>YEV (q39 lo y87.1 y87.2) fun y104=>bif(!y104)then(some (1:Int))else(some (0:Int))))))
def Yt8:VFn:=⟨true,59,[.t 4],
 (.seq (.reg [o 2 (.box (t 0)),o 3 (.box (t 1)),o 4 (.mv (k 0))])
 (.seq (.seq (.reg [o 10 (.load true 1 (t 2)),o 11 (.build [.s (⟨#[]⟩),.e (cs [I]),.s (⟨#[]⟩),.e (cs [I])] []),o 12 (.call 500 [(t 10),(t 11)]),oM 5 12])
 (.seq (.reg [oM 13 5,o 14 (.bin .neq (t 13) (k 4))])
 (.cond (t 14) (.seq (.reg [oM 15 5,oM 4 15])
 (.fz [4] .ret))
 .skip)))
 (.seq (.seq (.reg [oF 16 1 3,oL 17 16,oN 18 17,o 19 (.bin .lss (t 18) (k 1)),oM 20 19,og 21 20 false (.fad 1 (t 3)),og 22 20 false (.load false 1 (t 21)),og 23 20 false (.len (t 22)),og 24 20 false (.bin .gtr (t 23) (k 6)),o 25 (.pick (t 20) (kb true) (t 24))])
 (.cond (t 25) (.seq (.reg [o 4 (.mv (k 1))])
 (.fz [4] .ret))
 .skip))
 (.seq (.seq (.reg [oF 26 1 3,oL 27 26,oN 28 27,o 29 (.mv (k 0))])
 (.blk 0 (.loop 6 q40_L6_b)))
 (.seq (.seq (.reg [o 56 (.load true 2 (t 3)),o 57 (.call 505 [(t 56)]),o 58 (.not (t 57))])
 (.cond (t 58) (.seq (.reg [o 4 (.mv (k 1))])
 (.fz [4] .ret))
 .skip))
 (.seq (.reg [o 4 (.mv (k 0))])
 (.fz [4] .ret)))))))⟩
def Yk7(lo:Lo):FnE:=⟨472,true,⟨[0,1],[.ag [.l Zc3],.ag [.l (cs [.s]),.l Zc2]],[],(cs [.l Zc3,.l (cs [.s]),.l Zc2])⟩,.i .i64,[],(cs [I]),(fun x=>q40 lo x.1 x.2.1 x.2.2:Zt1×Zt4×Zt0->Option Int)⟩
def fs41(lo:Lo):List FnE:=Yk7 lo::fs40 lo
theorem Yt9{P:Program}{fm:FM}{lo:Lo}(h:GZ P fm fs40 lo)(t:Ti P fm 472 Yt8):GZ P fm fs41 lo:=
  h.p (Yk7 lo) (Yt7 lo) t (by kernel_rfl) (by kernel_rfl) fun x=>by kernel_rfl
def q41_L3_b:VCode:=
 (.seq (.reg [o 18 (.bin .lss (t 17) (t 16))])
 (.seq (.cond (t 18) .skip
 (.exit 0))
 (.seq (.blk 1 (.seq (.reg [o 19 (.iad 2 (t 15) (t 17)),o 20 (.load true 2 (t 19)),o 7 (.alloc [.s (⟨#[]⟩),.e Zc9]),on (.store 2 (t 7) (t 20))])
 (.seq (.reg [o 22 (.load true 1 (t 2)),oF 23 0 7,oL 24 23,o 25 (.call 501 [(t 22),(t 24)]),oM 21 25,oE 26 21 0,oE 27 21 1,o 8 (.alloc [.s (⟨#[]⟩),.e (cs [.s]),.e Zc18]),on (.store 3 (t 8) (t 26)),oM 9 27])
 (.reg [oM 28 5,oM 29 5,o 30 (.nilc (t 29)),oF 31 2 30,oL 32 31,o 33 (.load true 3 (t 8)),o 34 (.bsl Zc3 1 [(0,(t 33))]),o 35 (.app Zc3 0 (t 32) (t 34)),o 36 (.nilc (t 28)),oF 37 2 36,on (.store 1 (t 37) (t 35))]))))
 (.reg [o 38 (.bin .add (t 17) (k 1)),oM 17 38]))))
def Yk8(lo:Lo):Zp52->Option (Zp52⊕ ((Zt4×Zt0×Zt1×Int×Zt6×Bool×Bool× (List Int)))):=fun x=>match x with
  | (v15,v16,v17,db2,m5_0,m5_1,h2,h3_0,h3_1,h3_2,h3_3,h4)=>bif(decide (v17<v16))then(chk (0<=v17/\v17< (v15.length:Int)) (YEV (q25 lo db2 ((v15.getD v17.toNat ((YFf #[]),[])).1)) fun y106=>chk (h2.length+([(y106.1,y106.2.1,y106.2.2.1)]).length<=maxEl) (some (.inl (v15,v16,(YFg .i64 (v17+(1:Int))),db2,m5_0,m5_1,(h2++([(y106.1,y106.2.1,y106.2.2.1)])),h3_0,h3_1,h3_2,h3_3,h4)))))else(some (.inr (m5_0,m5_1,h2,h3_0,h3_1,h3_2,h3_3,h4)))
def Yk9(lo:Lo):Zp52->Option ((Zt4×Zt0×Zt1×Int×Zt6×Bool×Bool× (List Int))):=lo.run (Yk8 lo)
def Yua(lo:Lo):LpE:=⟨3,[(5,some 2,false),(5,some 4,false)],⟨[2,5,15,16,17],[.ptr 0 0 0,.ptr 1 0 0,.l Zc2,.i .i64,.i .i64],[.st [.l Zc3],.st [.l (cs [.s]),.l Zc2,.ref 2,.np 3,.ref 4,.u],.sq Zc3,.st [.i .i64,.l Zc12,.b,.b],.sq (cs [I])],(cs [.l Zc2,I,I,.l Zc3,.l (cs [.s]),.l Zc2,.l Zc3,I,.l Zc12,.b,.b,.l (cs [I])])⟩,[⟨.exit 0,⟨[5],[.ptr 0 0 0],[.st [.l (cs [.s]),.l Zc2,.ref 1,.np 2,.ref 3,.u],.sq Zc3,.st [.i .i64,.l Zc12,.b,.b],.sq (cs [I])],Zc23⟩⟩],Yk9 lo⟩
def Yub(lo:Lo):LL:=(Yua lo,.loop q41_L3_b.er)::[]
theorem Yuc(lo:Lo):Lk lo pf (fs41 lo) 0 (Yub lo):=.l .n (Yk8 lo) rfl (by kernel_rfl) fun x=>by kernel_rfl
def q41(lo:Lo)(db0:List (ByteArray×Zt4×Zt15))(q1_0:List ByteArray)(q1_1:List (ByteArray×Zt5)):Option (Zt4×Zt0×Zt1×Int×Zt6×Bool×Bool× (List Int)):=
  YEV (Yk9 lo (q1_1,(q1_1.length:Int),(0:Int),db0,q1_0,q1_1,[],(0:Int),([]:List (Int×ByteArray×Int×Int×ByteArray)),false,false,[])) fun y107=>some (y107.1,y107.2.1,y107.2.2.1,y107.2.2.2.1,y107.2.2.2.2.1,y107.2.2.2.2.2.1,y107.2.2.2.2.2.2.1,y107.2.2.2.2.2.2.2)
def Yud:VFn:=⟨true,40,[.t 4],
 (.seq (.reg [o 2 (.box (t 0)),o 3 (.box (t 1)),o 4 (.mv (.c (.one .nl)))])
 (.seq (.reg [o 10 (.load true 2 (t 3)),o 11 (.mkm none I Zc36 true),o 12 (.build [.e (cs [.s]),.e Zc2,.e Zc3,.v (.map none),.e (cs [I]),.v .nilFunc] [(0,2,(t 10)),(3,1,(t 11))]),o 13 (.box (t 12)),oM 5 13])
 (.seq (.seq (.reg [oF 14 1 3,oL 15 14,oN 16 15,o 17 (.mv (k 0))])
 (.blk 0 (.loop 3 q41_L3_b)))
 (.seq (.reg [oM 39 5,oM 4 39])
 (.ow [(4,some 4,false),(4,some 2,false)] .ret)))))⟩
def Yla(lo:Lo):FnE:=⟨512,false,⟨[0,1],[.ag [.l Zc3],.ag [.l (cs [.s]),.l Zc2]],[],(cs [.l Zc3,.l (cs [.s]),.l Zc2])⟩,.ptr 0 0 0,[.st [.l (cs [.s]),.l Zc2,.ref 1,.np 2,.ref 3,.u],.sq Zc3,.st [.i .i64,.l Zc12,.b,.b],.sq (cs [I])],Zc23,(fun x=>q41 lo x.1 x.2.1 x.2.2:Zt1×Zt4×Zt0->Option (Zt4×Zt0×Zt1×Int×Zt6×Bool×Bool× (List Int)))⟩
def fs42(lo:Lo):List FnE:=Yla lo::fs41 lo
theorem Yue{P:Program}{fm:FM}{lo:Lo}(h:GZ P fm fs41 lo)(t:Ti P fm 512 Yud):GZ P fm fs42 lo:=
  h.i (Yla lo) (Yuc lo) t (by kernel_rfl) (by kernel_rfl) fun x=>by kernel_rfl
end Go.Abs.G47
namespace Go.Abs.G47
open Go Go.Abs
set_option maxRecDepth 100000
set_option maxHeartbeats 1000000
def q42_L3_b:VCode:=
 (.seq (.reg [o 13 (.bin .lss (t 12) (t 11))])
 (.seq (.cond (t 13) .skip
 (.exit 0))
 (.seq (.blk 1 (.seq (.reg [o 14 (.iad 1 (t 10) (t 12)),oL 15 14,oM 5 15])
 (.reg [oM 16 3,oM 17 0,o 18 (.nilc (t 17)),oF 19 3 18,oL 20 19,oM 21 5,o 22 (.mget none I Zc36 true false (t 20) (t 21)),o 23 (.bsl Zc10 1 [(0,(t 22))]),o 24 (.app Zc10 0 (t 16) (t 23)),oM 3 24])))
 (.reg [o 25 (.bin .add (t 12) (k 1)),oM 12 25]))))
def Ylb(lo:Lo):Zp48->Option (Zp48⊕ ((Zt4×Zt0×Zt1×Int×Zt6×Bool×Bool× (List Int)×Int×Zt11×Bool×Zt7))):=fun x=>match x with
  | (v10,v11,v12,m0_0,m0_1,h1,h2_0,h2_1,h2_2,h2_3,h3,h6_0,h6_1,h6_2,out3)=>bif(decide (v12<v11))then(chk (0<=v12/\v12< (v10.length:Int)) (chk (out3.length+([(mgt eqS (v10.getD v12.toNat (YFf #[])) h2_1 ((0:Int),(0:Int),(YFf #[])))]).length<=maxEl) (some (.inl (v10,v11,(YFg .i64 (v12+(1:Int))),m0_0,m0_1,h1,h2_0,h2_1,h2_2,h2_3,h3,h6_0,h6_1,h6_2,(out3++([(mgt eqS (v10.getD v12.toNat (YFf #[])) h2_1 ((0:Int),(0:Int),(YFf #[])))])))))))else(some (.inr (m0_0,m0_1,h1,h2_0,h2_1,h2_2,h2_3,h3,h6_0,h6_1,h6_2,out3)))
def Ylc(lo:Lo):Zp48->Option ((Zt4×Zt0×Zt1×Int×Zt6×Bool×Bool× (List Int)×Int×Zt11×Bool×Zt7)):=lo.run (Ylb lo)
def Yuf(lo:Lo):LpE:=⟨3,[(0,some 2,false),(0,some 4,false),(3,none,false)],⟨[0,3,10,11,12],[.ptr 0 0 0,.ref 7,.l (cs [.s]),.i .i64,.i .i64],[.st [.l (cs [.s]),.l Zc2,.ref 1,.np 2,.ref 3,.clo 513 [.ptr 4 0 0,.ptr 5 0 0]],.sq Zc3,.st [.i .i64,.l Zc12,.b,.b],.sq (cs [I]),.st [.ptr 0 0 0],.st [.np 6],.st [.i .i64,.l Zc14,.b],.sq Zc10],(cs [.l (cs [.s]),I,I,.l (cs [.s]),.l Zc2,.l Zc3,I,.l Zc12,.b,.b,.l (cs [I]),I,.l Zc14,.b,.l Zc10])⟩,[⟨.exit 0,⟨[0,3],[.ptr 0 0 0,.ref 7],[.st [.l (cs [.s]),.l Zc2,.ref 1,.np 2,.ref 3,.clo 513 [.ptr 4 0 0,.ptr 5 0 0]],.sq Zc3,.st [.i .i64,.l Zc12,.b,.b],.sq (cs [I]),.st [.ptr 0 0 0],.st [.np 6],.st [.i .i64,.l Zc14,.b],.sq Zc10],Zc30⟩⟩],Ylc lo⟩
def Yug(lo:Lo):LL:=(Yuf lo,.loop q42_L3_b.er)::[]
theorem Yuh(lo:Lo):Lk lo pf (fs42 lo) 7 (Yug lo):=.l .n (Ylb lo) rfl (by kernel_rfl) fun x=>by kernel_rfl
def q42(lo:Lo)(m0_0:List ByteArray)(m0_1:List (ByteArray×Zt5))(h1:List (ByteArray×Zt4×Zt15))(h2_0:Int)(h2_1:List (Int×ByteArray×Int×Int×ByteArray))(h2_2:Bool)(h2_3:Bool)(h3:List Int)(h6_0:Int)(h6_1:List (Int×ByteArray×Zt7))(h6_2:Bool):Option (Zt4×Zt0×Zt1×Int×Zt6×Bool×Bool× (List Int)×Int×Zt11×Bool×Zt7):=
  YEV (Ylc lo (m0_0,(m0_0.length:Int),(0:Int),m0_0,m0_1,h1,h2_0,h2_1,h2_2,h2_3,h3,h6_0,h6_1,h6_2,[])) fun y109=>some (y109.1,y109.2.1,y109.2.2.1,y109.2.2.2.1,y109.2.2.2.2.1,y109.2.2.2.2.2.1,y109.2.2.2.2.2.2.1,y109.2.2.2.2.2.2.2.1,y109.2.2.2.2.2.2.2.2.1,y109.2.2.2.2.2.2.2.2.2.1,y109.2.2.2.2.2.2.2.2.2.2.1,y109.2.2.2.2.2.2.2.2.2.2.2)
def Yui:VFn:=⟨true,27,[.t 2],
 (.seq (.reg [o 2 (.mv (ke Zc10))])
 (.seq (.reg [o 3 (.mv (ke Zc10))])
 (.seq (.seq (.reg [oM 6 0,o 7 (.nilc (t 6)),oF 8 0 7,oF 9 0 8,oL 10 9,oN 11 10,o 12 (.mv (k 0))])
 (.blk 0 (.loop 3 q42_L3_b)))
 (.seq (.reg [oM 26 3,oM 2 26])
 (.ow [(0,some 4,false),(0,some 2,false)] .ret)))))⟩
def Yld(lo:Lo):FnE:=⟨514,false,⟨[0],[.ptr 0 0 0],[.st [.l (cs [.s]),.l Zc2,.ref 1,.np 2,.ref 3,.clo 513 [.ptr 4 0 0,.ptr 5 0 0]],.sq Zc3,.st [.i .i64,.l Zc12,.b,.b],.sq (cs [I]),.st [.ptr 0 0 0],.st [.np 6],.st [.i .i64,.l Zc14,.b]],(cs [.l (cs [.s]),.l Zc2,.l Zc3,I,.l Zc12,.b,.b,.l (cs [I]),I,.l Zc14,.b])⟩,.ref 7,[.st [.l (cs [.s]),.l Zc2,.ref 1,.np 2,.ref 3,.clo 513 [.ptr 4 0 0,.ptr 5 0 0]],.sq Zc3,.st [.i .i64,.l Zc12,.b,.b],.sq (cs [I]),.st [.ptr 0 0 0],.st [.np 6],.st [.i .i64,.l Zc14,.b],.sq Zc10],Zc30,(fun x=>q42 lo x.1 x.2.1 x.2.2.1 x.2.2.2.1 x.2.2.2.2.1 x.2.2.2.2.2.1 x.2.2.2.2.2.2.1 x.2.2.2.2.2.2.2.1 x.2.2.2.2.2.2.2.2.1 x.2.2.2.2.2.2.2.2.2.1 x.2.2.2.2.2.2.2.2.2.2:Zt4×Zt0×Zt1×Int×Zt6×Bool×Bool× (List Int)×Int×Zt11×Bool->Option (Zt4×Zt0×Zt1×Int×Zt6×Bool×Bool× (List Int)×Int×Zt11×Bool×Zt7))⟩
def fs43(lo:Lo):List FnE:=Yld lo::fs42 lo
theorem Yuj{P:Program}{fm:FM}{lo:Lo}(h:GZ P fm fs42 lo)(t:Ti P fm 514 Yui):GZ P fm fs43 lo:=
  h.i (Yld lo) (Yuh lo) t (by kernel_rfl) (by kernel_rfl) fun x=>by kernel_rfl
def q43_L3_b:VCode:=
 (.seq (.seq (.reg [oM 10 6,o 11 (.bin .geq (t 10) (k 0))])
 (.cond (t 11) .skip
 (.exit 0)))
 (.seq (.blk 1 (.reg [oM 14 0,oM 15 5,oM 16 6,o 17 (.bin .shr (t 15) (t 16)),o 18 (.conv .u8 (t 17)),o 19 (.bsl Zc38 1 [(0,(t 18))]),o 20 (.appb (t 14) (t 19)),oM 0 20]))
 (.reg [oM 12 6,o 13 (.bin .sub (t 12) (k 8)),oM 6 13])))
def Yle(lo:Lo):Int×Int×ByteArray->Option ((Int×Int×ByteArray)⊕ByteArray):=fun x=>match x with
  | (u5,shift6,out0)=>bif(decide ((0:Int)<=shift6))then(chk (0<=shift6) (bif inB ([(YFg .u8 (u5.fdiv (2^(min shift6.toNat (IntKind.bits .u64)))))])then(chk (out0.size+([(YFg .u8 (u5.fdiv (2^(min shift6.toNat (IntKind.bits .u64)))))]).length<=maxEl) (some (.inl (u5,(YFg .i64 (shift6-(8:Int))),(out0++Yz3 ([(YFg .u8 (u5.fdiv (2^(min shift6.toNat (IntKind.bits .u64)))))]))))))else none))else(some (.inr out0))
def Ylf(lo:Lo):Int×Int×ByteArray->Option ByteArray:=lo.run (Yle lo)
def Yuk(lo:Lo):LpE:=⟨3,[(0,some 0,false)],⟨[0,5,6],[.ref 1,.i .u64,.i .i64],[.dd,.sb],(cs [.i .u64,I,.s])⟩,[⟨.exit 0,⟨[0],[.ref 1],[.dd,.sb],(cs [.s])⟩⟩],Ylf lo⟩
def Yul(lo:Lo):LL:=(Yuk lo,.loop q43_L3_b.er)::[]
theorem Yum(lo:Lo):Lk lo pf (fs43 lo) 1 (Yul lo):=.l .n (Yle lo) rfl (by kernel_rfl) fun x=>by kernel_rfl
def q43(lo:Lo)(n1:Int)(out0:ByteArray):Option ByteArray:=
  YEV (Ylf lo ((bits .xor .u64 (YFg .u64 n1) (9223372036854775808:Int)),(56:Int),out0)) fun y112=>some y112
def Yun:VFn:=⟨true,22,[.t 4],
 (.seq (.reg [o 4 (.mv (ke Zc38))])
 (.seq (.reg [oM 7 1,o 8 (.conv .u64 (t 7)),o 9 (.bin .xor (t 8) (ki .u64 9223372036854775808)),oM 5 9])
 (.seq (.seq (.reg [o 6 (.mv (k 56))])
 (.blk 0 (.loop 3 q43_L3_b)))
 (.seq (.reg [oM 21 0,oM 4 21])
 .ret))))⟩
def Ylg(lo:Lo):FnE:=⟨310,false,⟨[0,1],[.ref 0,.i .i64],[.sb],Zc36⟩,.ref 1,[.dd,.sb],(cs [.s]),(fun x=>q43 lo x.1 x.2:Int×ByteArray->Option ByteArray)⟩
def fs44(lo:Lo):List FnE:=Ylg lo::fs43 lo
theorem Yuo{P:Program}{fm:FM}{lo:Lo}(h:GZ P fm fs43 lo)(t:Ti P fm 310 Yun):GZ P fm fs44 lo:=
  h.i (Ylg lo) (Yum lo) t (by kernel_rfl) (by kernel_rfl) fun x=>by kernel_rfl
def q44_L5_b:VCode:=
 (.seq (.reg [o 28 (.bin .lss (t 27) (t 26))])
 (.seq (.cond (t 28) .skip
 (.exit 1))
 (.seq (.blk 2 (.seq (.reg [oM 29 27,oM 5 29])
 (.seq (.reg [oM 30 4,oF 31 2 1,oL 32 31,oM 33 5,o 34 (.idx (t 32) (t 33)),o 35 (.bsl Zc38 1 [(0,(t 34))]),o 36 (.appb (t 30) (t 35)),oM 4 36])
 (.seq (.reg [oF 37 2 1,oL 38 37,oM 39 5,o 40 (.idx (t 38) (t 39)),o 41 (.bin .eql (t 40) (ki .u8 0))])
 (.cond (t 41) (.reg [oM 42 4,o 43 (.bsl Zc38 1 [(0,(ki .u8 255))]),o 44 (.appb (t 42) (t 43)),oM 4 44])
 .skip)))))
 (.reg [o 45 (.bin .add (t 27) (k 1)),oM 27 45]))))
def Ylh(lo:Lo):Zp68->Option (Zp68⊕ByteArray):=fun x=>match x with
  | (v26,v27,v1_0,v1_1,v1_2,out4)=>bif(decide (v27<v26))then(chk (0<=v27/\v27< (v1_2.size:Int)) (bif inB ([(YzT v1_2 v27)])then(chk (out4.size+([(YzT v1_2 v27)]).length<=maxEl) (chk (0<=v27/\v27< (v1_2.size:Int)) (bif(decide ((YzT v1_2 v27)=(0:Int)))then(bif inB ([(255:Int)])then(chk ((out4++Yz3 ([(YzT v1_2 v27)])).size+([(255:Int)]).length<=maxEl) (some (.inl (v26,(YFg .i64 (v27+(1:Int))),v1_0,v1_1,v1_2,((out4++Yz3 ([(YzT v1_2 v27)]))++Yz3 ([(255:Int)]))))))else none)else(some (.inl (v26,(YFg .i64 (v27+(1:Int))),v1_0,v1_1,v1_2,(out4++Yz3 ([(YzT v1_2 v27)]))))))))else none))else(some (.inr out4))
def Yli(lo:Lo):Zp68->Option ByteArray:=lo.run (Ylh lo)
def Yup(lo:Lo):LpE:=⟨5,[],⟨[1,4,26,27],[.ptr 0 0 0,.ref 1,.i .i64,.i .i64],[.st [.i .i64,.i .i64,.s],.sb],(cs [I,I,I,I,.s,.s])⟩,[⟨.exit 1,⟨[4],[.ref 0],[.sb],(cs [.s])⟩⟩],Yli lo⟩
def Ylj(lo:Lo):LL:=(Yup lo,.loop q44_L5_b.er)::[]
theorem Yuq(lo:Lo):Lk lo pf (fs44 lo) 0 (Ylj lo):=.l .n (Ylh lo) rfl (by kernel_rfl) fun x=>by kernel_rfl
def q44_J17_b:VCode:=
 (.cond (t 15) (.reg [oM 18 4,oF 19 1 1,oL 20 19,o 21 (.call 310 [(t 18),(t 20)]),oM 4 21])
 (.seq (.reg [o 23 (.bin .eql (t 14) (k 2)),oM 22 23])
 (.cond (t 22) (.seq (.seq (.reg [oF 24 2 1,oL 25 24,o 26 (.lenS (t 25)),o 27 (.mv (k 0))])
 (.blk 1 (.loop 5 q44_L5_b)))
 (.reg [oM 46 4,o 47 (.bsl Zc38 2 [(0,(ki .u8 0)),(1,(ki .u8 1))]),o 48 (.appb (t 46) (t 47)),oM 4 48]))
 .skip)))
def YfO(lo:Lo):Int×Bool×Int×Int×ByteArray×ByteArray->Option ByteArray:=fun x=>match x with
  | (v14,v15,v1_0,v1_1,v1_2,out4)=>bif v15 then(YEV (q43 lo v1_1 out4) fun y113=>some y113)else(bif(decide (v14=(2:Int)))then(YEV (Yli lo ((v1_2.size:Int),(0:Int),v1_0,v1_1,v1_2,out4)) fun y114=>bif inB ([(0:Int),(1:Int)])then(chk (y114.size+([(0:Int),(1:Int)]).length<=maxEl) (some (y114++Yz3 ([(0:Int),(1:Int)]))))else none)else(some out4))
def Yur(lo:Lo):LpE:=⟨17,[],⟨[1,4,14,15],[.ptr 0 0 0,.ref 1,.i .i64,.b],[.st [.i .i64,.i .i64,.s],.sb],(cs [I,.b,I,I,.s,.s])⟩,[⟨.nor,⟨[4],[.ref 0],[.sb],(cs [.s])⟩⟩],YfO lo⟩
def Yus(lo:Lo):LL:=(Yur lo,q44_J17_b.er)::Ylj lo
theorem Yut(lo:Lo):Lk lo pf (fs44 lo) 0 (Yus lo):=.j (Yuq lo) (by kernel_rfl) fun x=>by kernel_rfl
def q44(lo:Lo)(v0_0:Int)(v0_1:Int)(v0_2:ByteArray):Option (ByteArray×Int):=
  YEV (q6 lo v0_0 v0_1 v0_2) fun y111=>bif(!y111)then(some ((YFf #[]),(1:Int)))else(bif inB [(YFg .u8 v0_0)]then(bif(decide (v0_0=(1:Int)))then(YEV (YfO lo (v0_0,true,v0_0,v0_1,v0_2,(Yz3 [(YFg .u8 v0_0)]))) fun y115=>some (y115,(0:Int)))else(YEV (YfO lo (v0_0,(decide (v0_0=(3:Int))),v0_0,v0_1,v0_2,(Yz3 [(YFg .u8 v0_0)]))) fun y116=>some (y116,(0:Int))))else none)
def Yuu:VFn:=⟨true,51,[.t 2,.t 3],
 (.seq (.reg [o 1 (.box (t 0)),o 2 (.mv (ks (⟨#[]⟩))),o 3 (.mv (k 0))])
 (.seq (.seq (.reg [o 6 (.load true 3 (t 1)),o 7 (.call 283 [(t 6)]),o 8 (.not (t 7))])
 (.cond (t 8) (.seq (.reg [o 2 (.mv (ks (⟨#[]⟩))),o 3 (.mv (k 1))])
 (.fz [2,3] .ret))
 .skip))
 (.seq (.reg [oF 9 0 1,oL 10 9,o 11 (.conv .u8 (t 10)),o 12 (.litb [(t 11)]),oM 4 12])
 (.seq (.seq (.reg [oF 13 0 1,oL 14 13])
 (.blk 0 (.seq (.seq (.reg [o 16 (.bin .eql (t 14) (k 1)),oM 15 16])
 (.cond (t 15) .skip
 (.reg [o 17 (.bin .eql (t 14) (k 3)),oM 15 17])))
 (.jn 17 q44_J17_b))))
 (.seq (.reg [oM 49 4,o 50 (.bstr (t 49)),oM 2 50,o 3 (.mv (k 0))])
 (.fz [2,3] .ret))))))⟩
def Ylk(lo:Lo):FnE:=⟨296,true,⟨[0],[.ag [.i .i64,.i .i64,.s]],[],Zc10⟩,.tp [.s,.i .i64],[],(cs [.s,I]),(fun x=>q44 lo x.1 x.2.1 x.2.2:Int×Int×ByteArray->Option (ByteArray×Int))⟩
def fs45(lo:Lo):List FnE:=Ylk lo::fs44 lo
theorem Yuv{P:Program}{fm:FM}{lo:Lo}(h:GZ P fm fs44 lo)(t:Ti P fm 296 Yuu):GZ P fm fs45 lo:=
  h.p (Ylk lo) (Yut lo) t (by kernel_rfl) (by kernel_rfl) fun x=>by kernel_rfl
def q45(lo:Lo)(s:ByteArray):Option ByteArray:=some s
def Yuw(lo:Lo):FnE:=vchkE2 164
def fs46(lo:Lo):List FnE:=Yuw lo::fs45 lo
theorem Yux{P:Program}{fm:FM}{lo:Lo}(h:GZ P fm fs45 lo)(hG: ∀f,fm f=164->YzW P f=true/\ ∃ρ:Go.Shelf.Ren,Go.Proofs.Lays.n240 P ρ/\BldOK P fm ρ/\ρ.f 240=f):GZ P fm fs46 lo:=
  ⟨h.1,h.2,Yrs h.S rfl hG⟩
def q46(lo:Lo)(s1:ByteArray)(h1:ByteArray):Option (Int×ByteArray):=
  YEV (q45 lo h1) fun y118=>chk (y118.size=h1.size) (chk (y118.size+s1.size<=maxEl) (some ((s1.size:Int),(y118++s1))))
def Yuy:VFn:=⟨true,19,[.t 4,.t 5],
 (.seq (.reg [o 4 (.mv (k 0)),o 5 (.mv (.c (.v .nilIface)))])
 (.seq (.reg [oM 6 0,o 7 (.call 164 [(t 6)])])
 (.seq (.reg [oM 8 0,oM 9 0,o 10 (.nilc (t 9)),oF 11 1 10,oL 12 11,oM 13 1,o 14 (.apps (t 12) (t 13)),o 15 (.nilc (t 8)),oF 16 1 15,on (.store 1 (t 16) (t 14))])
 (.seq (.reg [oM 17 1,o 18 (.lenS (t 17)),oM 4 18,o 5 (.mv (.c (.v .nilIface)))])
 .ret))))⟩
def Yll(lo:Lo):FnE:=⟨149,false,⟨[0,1],[.ptr 0 0 0,.s],[.st [.np 0,.ref 1],.sb],(cs [.s,.s])⟩,.tp [.i .i64,.u],[.st [.np 0,.ref 2],.dd,.sb],Zc36,(fun x=>q46 lo x.1 x.2:ByteArray×ByteArray->Option (Int×ByteArray))⟩
def fs47(lo:Lo):List FnE:=Yll lo::fs46 lo
theorem Yuz{P:Program}{fm:FM}{lo:Lo}(h:GZ P fm fs46 lo)(t:Ti P fm 149 Yuy):GZ P fm fs47 lo:=
  h.i (Yll lo) .n t (by kernel_rfl) (by kernel_rfl) fun x=>by kernel_rfl
def q47(lo:Lo)(s:ByteArray):Option ByteArray:=some s
def YuA(lo:Lo):FnE:=vstrE 151
def fs48(lo:Lo):List FnE:=YuA lo::fs47 lo
theorem YuB{P:Program}{fm:FM}{lo:Lo}(h:GZ P fm fs47 lo)(hG: ∀f,fm f=151->YzW P f=true/\ ∃ρ:Go.Shelf.Ren,Go.Proofs.Lays.n169 P ρ/\BldOK P fm ρ/\fm.bu=ρ.t 5/\ρ.f 169=f):GZ P fm fs48 lo:=
  ⟨h.1,h.2,YrA h.S rfl hG⟩
def q48_L4_b:VCode:=
 (.seq (.reg [o 14 (.bin .lss (t 13) (t 12))])
 (.seq (.cond (t 14) .skip
 (.exit 0))
 (.seq (.blk 1 (.seq (.reg [o 15 (.iad 3 (t 11) (t 13)),o 16 (.load true 3 (t 15)),o 6 (.alloc [.i .i64 0,.i .i64 0,.s (⟨#[]⟩)]),on (.store 3 (t 6) (t 16))])
 (.seq (.reg [o 18 (.load true 3 (t 6)),o 19 (.call 296 [(t 18)]),oM 17 19,oE 20 17 0,oE 21 17 1,oM 7 20,oM 8 21])
 (.reg [oM 22 7,o 23 (.call 149 [(t 4),(t 22)])]))))
 (.reg [o 24 (.bin .add (t 13) (k 1)),oM 13 24]))))
def Ylm(lo:Lo):Zp46->Option (Zp46⊕ ((Zt4×Zt0×Int×Zt11×Bool×Zt1×Int×Zt6×Bool×Bool× (List Int)×Zt7×ByteArray))):=fun x=>match x with
  | (v12,v13,h2_0,h2_1,h3_0,h3_1,h3_2,h4,h5_0,h5_1,h5_2,h5_3,h6,l3,h9)=>bif(decide (v13<v12))then(chk (0<=v13/\v13< (l3.length:Int)) (YEV (q44 lo ((l3.getD v13.toNat ((0:Int),(0:Int),(YFf #[]))).1) ((l3.getD v13.toNat ((0:Int),(0:Int),(YFf #[]))).2.1) ((l3.getD v13.toNat ((0:Int),(0:Int),(YFf #[]))).2.2)) fun y123=>YEV (q46 lo y123.1 h9) fun y124=>some (.inl (v12,(YFg .i64 (v13+(1:Int))),h2_0,h2_1,h3_0,h3_1,h3_2,h4,h5_0,h5_1,h5_2,h5_3,h6,l3,y124.2))))else(some (.inr (h2_0,h2_1,h3_0,h3_1,h3_2,h4,h5_0,h5_1,h5_2,h5_3,h6,l3,h9)))
def Yln(lo:Lo):Zp46->Option ((Zt4×Zt0×Int×Zt11×Bool×Zt1×Int×Zt6×Bool×Bool× (List Int)×Zt7×ByteArray)):=lo.run (Ylm lo)
def YuC(lo:Lo):LpE:=⟨4,[],⟨[0,1,3,4,11,12,13],[.ptr 0 0 0,.ptr 1 0 0,.ref 7,.ptr 8 0 0,.ref 7,.i .i64,.i .i64],[.st [.ptr 2 0 0],.st [.np 3],.st [.l (cs [.s]),.l Zc2,.ref 4,.np 5,.ref 6,.clo 513 [.ptr 0 0 0,.ptr 1 0 0]],.st [.i .i64,.l Zc14,.b],.sq Zc3,.st [.i .i64,.l Zc12,.b,.b],.sq (cs [I]),.sq Zc10,.st [.np 8,.ref 9],.sb],(cs [I,I,.l (cs [.s]),.l Zc2,I,.l Zc14,.b,.l Zc3,I,.l Zc12,.b,.b,.l (cs [I]),.l Zc10,.s])⟩,[⟨.exit 0,⟨[0,1,3,4],[.ptr 0 0 0,.ptr 1 0 0,.ref 7,.ptr 8 0 0],[.st [.ptr 2 0 0],.st [.np 3],.st [.l (cs [.s]),.l Zc2,.ref 4,.np 5,.ref 6,.clo 513 [.ptr 0 0 0,.ptr 1 0 0]],.st [.i .i64,.l Zc14,.b],.sq Zc3,.st [.i .i64,.l Zc12,.b,.b],.sq (cs [I]),.sq Zc10,.st [.np 8,.ref 9],.sb],(cs [.l (cs [.s]),.l Zc2,I,.l Zc14,.b,.l Zc3,I,.l Zc12,.b,.b,.l (cs [I]),.l Zc10,.s])⟩⟩],Yln lo⟩
def YuD(lo:Lo):LL:=(YuC lo,.loop q48_L4_b.er)::[]
theorem YuE(lo:Lo):Lk lo pf (fs48 lo) 7 (YuD lo):=.l .n (Ylm lo) rfl (by kernel_rfl) fun x=>by kernel_rfl
def q48(lo:Lo)(h2_0:List ByteArray)(h2_1:List (ByteArray×Zt5))(h3_0:Int)(h3_1:List (Int×ByteArray×Zt7))(h3_2:Bool)(h4:List (ByteArray×Zt4×Zt15))(h5_0:Int)(h5_1:List (Int×ByteArray×Int×Int×ByteArray))(h5_2:Bool)(h5_3:Bool)(h6:List Int):Option (Bool×Zt4×Zt0×Int×Zt11×Bool×Zt1×Int×Zt6×Bool×Bool× (List Int)):=
  YEV (q42 lo h2_0 h2_1 h4 h5_0 h5_1 h5_2 h5_3 h6 h3_0 h3_1 h3_2) fun y122=>chk (y122.2.2.1.length=h4.length) (chk (y122.2.2.2.2.2.2.2.1.length=h6.length) (YEV (Yln lo ((y122.2.2.2.2.2.2.2.2.2.2.2.length:Int),(0:Int),y122.1,y122.2.1,y122.2.2.2.2.2.2.2.2.1,y122.2.2.2.2.2.2.2.2.2.1,y122.2.2.2.2.2.2.2.2.2.2.1,y122.2.2.1,y122.2.2.2.1,y122.2.2.2.2.1,y122.2.2.2.2.2.1,y122.2.2.2.2.2.2.1,y122.2.2.2.2.2.2.2.1,y122.2.2.2.2.2.2.2.2.2.2.2,(YFf #[]))) fun y125=>YEV (q47 lo y125.2.2.2.2.2.2.2.2.2.2.2.2) fun y126=>some ((decide (((mpt eqS y125.2.2.1 y126 y125.2.2.2.2.2.2.2.2.2.2.2.1 y125.2.2.2.1).length:Int)<=(10000:Int))),y125.1,y125.2.1,(mck eqS y125.2.2.1 y126 y125.2.2.2.1),(mpt eqS y125.2.2.1 y126 y125.2.2.2.2.2.2.2.2.2.2.2.1 y125.2.2.2.1),y125.2.2.2.2.1,y125.2.2.2.2.2.1,y125.2.2.2.2.2.2.1,y125.2.2.2.2.2.2.2.1,y125.2.2.2.2.2.2.2.2.1,y125.2.2.2.2.2.2.2.2.2.1,y125.2.2.2.2.2.2.2.2.2.2.1)))
def YuF:VFn:=⟨true,31,[.t 2],
 (.seq (.reg [o 2 (.mv (kb false))])
 (.seq (.reg [oL 9 0,o 10 (.call 514 [(t 9)]),oM 3 10])
 (.seq (.reg [o 4 (.bld)])
 (.ow [(4,some 1,false)] (.seq (.seq (.reg [oM 11 3,oN 12 11,o 13 (.mv (k 0))])
 (.blk 0 (.loop 4 q48_L4_b)))
 (.seq (.fz [3] (.regN [1000000000004] [⟨some 25,.load false 1 (t 1),none,true,false⟩,⟨some 26,.call 151 [(t 4)],none,false,true⟩,oM 27 3,on (.mput none (.l Zc10) (cs []) false (t 25) (t 26) (t 27))]))
 (.seq (.reg [oL 28 1,o 29 (.mlen (t 28)),o 30 (.bin .leq (t 29) (k 10000)),oM 2 30])
 .ret)))))))⟩
def Ylo(lo:Lo):FnE:=⟨513,false,⟨[0,1],[.ptr 0 0 0,.ptr 1 0 0],[.st [.ptr 2 0 0],.st [.np 3],.st [.l (cs [.s]),.l Zc2,.ref 4,.np 5,.ref 6,.clo 513 [.ptr 0 0 0,.ptr 1 0 0]],.st [.i .i64,.l Zc14,.b],.sq Zc3,.st [.i .i64,.l Zc12,.b,.b],.sq (cs [I])],(cs [.l (cs [.s]),.l Zc2,I,.l Zc14,.b,.l Zc3,I,.l Zc12,.b,.b,.l (cs [I])])⟩,.b,[.st [.ptr 2 0 0],.st [.np 3],.st [.l (cs [.s]),.l Zc2,.ref 4,.np 5,.ref 6,.clo 513 [.ptr 0 0 0,.ptr 1 0 0]],.st [.i .i64,.l Zc14,.b],.sq Zc3,.st [.i .i64,.l Zc12,.b,.b],.sq (cs [I])],(cs [.b,.l (cs [.s]),.l Zc2,I,.l Zc14,.b,.l Zc3,I,.l Zc12,.b,.b,.l (cs [I])]),(fun x=>q48 lo x.1 x.2.1 x.2.2.1 x.2.2.2.1 x.2.2.2.2.1 x.2.2.2.2.2.1 x.2.2.2.2.2.2.1 x.2.2.2.2.2.2.2.1 x.2.2.2.2.2.2.2.2.1 x.2.2.2.2.2.2.2.2.2.1 x.2.2.2.2.2.2.2.2.2.2:Zt4×Zt0×Int×Zt11×Bool×Zt1×Int×Zt6×Bool×Bool× (List Int)->Option (Bool×Zt4×Zt0×Int×Zt11×Bool×Zt1×Int×Zt6×Bool×Bool× (List Int)))⟩
def fs49(lo:Lo):List FnE:=Ylo lo::fs48 lo
theorem YuG{P:Program}{fm:FM}{lo:Lo}(h:GZ P fm fs48 lo)(t:Ti P fm 513 YuF):GZ P fm fs49 lo:=
  h.i (Ylo lo) (YuE lo) t (by kernel_rfl) (by kernel_rfl) fun x=>by kernel_rfl
def q49_J13_b:VCode:=
 (.seq (.reg [oM 36 12,o 37 (.not (t 36))])
 (.cond (t 37) (.seq (.reg [oM 38 0,o 39 (.nilc (t 38)),oF 40 3 39,oL 41 40,oF 42 0 10,oL 43 42,oF 44 1 5,oL 45 44,oM 46 9,o 47 (.iad 3 (t 45) (t 46)),o 48 (.load true 3 (t 47)),on (.mput none I Zc36 true (t 41) (t 43) (t 48))])
 (.reg [oM 49 8,oF 50 0 10,oL 51 50,o 52 (.bsl (cs [.s]) 1 [(0,(t 51))]),o 53 (.app (cs [.s]) 0 (t 49) (t 52)),oM 8 53]))
 (.seq (.reg [o 54 (.load true 3 (t 11)),oF 55 1 5,oL 56 55,oM 57 9,o 58 (.iad 3 (t 56) (t 57)),o 59 (.load true 3 (t 58)),o 60 (.eqa true [1,1,2] (t 54) (t 59))])
 (.cond (t 60) (.seq (.reg [oM 61 8,oM 6 61,o 7 (.mv (kb false))])
 (.ow [(0,some 4,false),(0,some 2,false)] .ret))
 .skip))))
def YfP(lo:Lo):Int×Bool×Zt5×Int×Int×Zt4×Zt0×Zt1×Int×Zt6×Bool×Bool× (List Int)×Int×Zt11×Bool×Int×Zt7×Zt4×ByteArray×Int×Int×ByteArray×Int×Int×ByteArray->Option (Zp45⊕ (Bool×Zt4×Zt0×Zt1×Int×Zt6×Bool×Bool× (List Int)×Int×Zt11×Bool×Zt4)):=fun x=>match x with
  | (i9,known12,v14,v15,v16,m0_0,m0_1,h1,h2_0,h2_1,h2_2,h2_3,h3,h6_0,h6_1,h6_2,r5_0,r5_1,fresh8,t10_0,t10_1,t10_2,t10_3,v11_0,v11_1,v11_2)=>bif(!known12)then(chk (0<=i9/\i9< (r5_1.length:Int)) (chk (fresh8.length+[t10_0].length<=maxEl) (some (.inl (v14,v15,v16,m0_0,m0_1,h1,(mck eqS h2_0 t10_0 h2_1),(mpt eqS h2_0 t10_0 (r5_1.getD i9.toNat ((0:Int),(0:Int),(YFf #[]))) h2_1),h2_2,h2_3,h3,h6_0,h6_1,h6_2,r5_0,r5_1,(fresh8++[t10_0]))))))else(chk (0<=i9/\i9< (r5_1.length:Int)) (bif(!((decide (v11_0=(r5_1.getD i9.toNat ((0:Int),(0:Int),(YFf #[]))).1))&& ((decide (v11_1=(r5_1.getD i9.toNat ((0:Int),(0:Int),(YFf #[]))).2.1))&& ((decide (v11_2=(r5_1.getD i9.toNat ((0:Int),(0:Int),(YFf #[]))).2.2))&&true))))then(some (.inr (false,m0_0,m0_1,h1,h2_0,h2_1,h2_2,h2_3,h3,h6_0,h6_1,h6_2,fresh8)))else(some (.inl (v14,v15,v16,m0_0,m0_1,h1,h2_0,h2_1,h2_2,h2_3,h3,h6_0,h6_1,h6_2,r5_0,r5_1,fresh8)))))
def YuH(lo:Lo):LpE:=⟨13,[(0,some 2,false),(0,some 4,false)],⟨[0,5,8,9,10,11,12,14,15,16],[.ptr 0 0 0,.ptr 7 0 0,.ref 8,.i .i64,.ptr 9 0 0,.ptr 10 0 0,.b,.l Zc9,.i .i64,.i .i64],[.st [.l (cs [.s]),.l Zc2,.ref 1,.np 2,.ref 3,.clo 513 [.ptr 4 0 0,.ptr 5 0 0]],.sq Zc3,.st [.i .i64,.l Zc12,.b,.b],.sq (cs [I]),.st [.ptr 0 0 0],.st [.np 6],.st [.i .i64,.l Zc14,.b],.st [.i .i64,.l Zc10],.sq (cs [.s]),.st [.s,.i .i64,.i .i64,.s],.st [.i .i64,.i .i64,.s]],Zc33⟩,[⟨.nor,⟨[0,5,8,14,15,16],[.ptr 0 0 0,.ptr 7 0 0,.ref 8,.l Zc9,.i .i64,.i .i64],[.st [.l (cs [.s]),.l Zc2,.ref 1,.np 2,.ref 3,.clo 513 [.ptr 4 0 0,.ptr 5 0 0]],.sq Zc3,.st [.i .i64,.l Zc12,.b,.b],.sq (cs [I]),.st [.ptr 0 0 0],.st [.np 6],.st [.i .i64,.l Zc14,.b],.st [.i .i64,.l Zc10],.sq (cs [.s])],Zc24⟩⟩,⟨.ret,⟨[6,7,0],[.ref 7,.b,.ptr 0 0 0],[.st [.l (cs [.s]),.l Zc2,.ref 1,.np 2,.ref 3,.clo 513 [.ptr 4 0 0,.ptr 5 0 0]],.sq Zc3,.st [.i .i64,.l Zc12,.b,.b],.sq (cs [I]),.st [.ptr 0 0 0],.st [.np 6],.st [.i .i64,.l Zc14,.b],.sq (cs [.s])],Zc21⟩⟩],YfP lo⟩
def Ylp(lo:Lo):LL:=(YuH lo,q49_J13_b.er)::[]
theorem YuI(lo:Lo):Lk lo pf (fs49 lo) 7 (Ylp lo):=.j .n (by kernel_rfl) fun x=>by kernel_rfl
def q49_L3_b:VCode:=
 (.seq (.reg [o 17 (.bin .lss (t 16) (t 15))])
 (.seq (.cond (t 17) .skip
 (.exit 0))
 (.seq (.blk 1 (.seq (.reg [oM 18 16,o 19 (.iad 4 (t 14) (t 16)),o 20 (.load true 4 (t 19)),o 10 (.alloc [.s (⟨#[]⟩),.i .i64 0,.i .i64 0,.s (⟨#[]⟩)]),oM 9 18,on (.store 4 (t 10) (t 20))])
 (.seq (.reg [oF 21 1 10,o 22 (.load true 3 (t 21)),o 11 (.alloc [.i .i64 0,.i .i64 0,.s (⟨#[]⟩)]),on (.store 3 (t 11) (t 22)),o 12 (.mv (kb true))])
 (.seq (.seq (.reg [oF 23 0 10,oL 24 23,o 25 (.bin .neq (t 24) (ks (⟨#[]⟩)))])
 (.cond (t 25) (.reg [oM 27 0,o 28 (.nilc (t 27)),oF 29 3 28,oL 30 29,oF 31 0 10,oL 32 31,o 33 (.mget none I Zc36 true true (t 30) (t 32)),oM 26 33,oE 34 26 0,oE 35 26 1,on (.store 3 (t 11) (t 34)),oM 12 35])
 .skip))
 (.jn 13 q49_J13_b)))))
 (.reg [o 62 (.bin .add (t 16) (k 1)),oM 16 62]))))
def Ylq(lo:Lo):Zp45->Option (Zp45⊕ ((Bool×Zt4×Zt0×Zt1×Int×Zt6×Bool×Bool× (List Int)×Int×Zt11×Bool×Zt4)⊕ (Zt4×Zt0×Zt1×Int×Zt6×Bool×Bool× (List Int)×Int×Zt11×Bool×Zt4))):=fun x=>match x with
  | (v14,v15,v16,m0_0,m0_1,h1,h2_0,h2_1,h2_2,h2_3,h3,h6_0,h6_1,h6_2,r5_0,r5_1,fresh8)=>bif(decide (v16<v15))then(chk (0<=v16/\v16< (v14.length:Int)) (bif(!decide ((v14.getD v16.toNat ((YFf #[]),(0:Int),(0:Int),(YFf #[]))).1=(YFf #[])))then(YEV (YfP lo (v16,(mhs eqS ((v14.getD v16.toNat ((YFf #[]),(0:Int),(0:Int),(YFf #[]))).1) h2_1),v14,v15,v16,m0_0,m0_1,h1,h2_0,h2_1,h2_2,h2_3,h3,h6_0,h6_1,h6_2,r5_0,r5_1,fresh8,(v14.getD v16.toNat ((YFf #[]),(0:Int),(0:Int),(YFf #[]))).1,(v14.getD v16.toNat ((YFf #[]),(0:Int),(0:Int),(YFf #[]))).2.1,(v14.getD v16.toNat ((YFf #[]),(0:Int),(0:Int),(YFf #[]))).2.2.1,(v14.getD v16.toNat ((YFf #[]),(0:Int),(0:Int),(YFf #[]))).2.2.2,(mgt eqS ((v14.getD v16.toNat ((YFf #[]),(0:Int),(0:Int),(YFf #[]))).1) h2_1 ((0:Int),(0:Int),(YFf #[]))).1,(mgt eqS ((v14.getD v16.toNat ((YFf #[]),(0:Int),(0:Int),(YFf #[]))).1) h2_1 ((0:Int),(0:Int),(YFf #[]))).2.1,(mgt eqS ((v14.getD v16.toNat ((YFf #[]),(0:Int),(0:Int),(YFf #[]))).1) h2_1 ((0:Int),(0:Int),(YFf #[]))).2.2)) fun y128=>alt2 y128 (fun y129=>some (.inl (y129.1,y129.2.1,(YFg .i64 (y129.2.2.1+(1:Int))),y129.2.2.2.1,y129.2.2.2.2.1,y129.2.2.2.2.2.1,y129.2.2.2.2.2.2.1,y129.2.2.2.2.2.2.2.1,y129.2.2.2.2.2.2.2.2.1,y129.2.2.2.2.2.2.2.2.2.1,y129.2.2.2.2.2.2.2.2.2.2.1,y129.2.2.2.2.2.2.2.2.2.2.2.1,y129.2.2.2.2.2.2.2.2.2.2.2.2.1,y129.2.2.2.2.2.2.2.2.2.2.2.2.2.1,y129.2.2.2.2.2.2.2.2.2.2.2.2.2.2.1,y129.2.2.2.2.2.2.2.2.2.2.2.2.2.2.2.1,y129.2.2.2.2.2.2.2.2.2.2.2.2.2.2.2.2))) (fun y130=>some (.inr (.inl (y130.1,y130.2.1,y130.2.2.1,y130.2.2.2.1,y130.2.2.2.2.1,y130.2.2.2.2.2.1,y130.2.2.2.2.2.2.1,y130.2.2.2.2.2.2.2.1,y130.2.2.2.2.2.2.2.2.1,y130.2.2.2.2.2.2.2.2.2.1,y130.2.2.2.2.2.2.2.2.2.2.1,y130.2.2.2.2.2.2.2.2.2.2.2.1,y130.2.2.2.2.2.2.2.2.2.2.2.2)))))else(YEV (YfP lo (v16,true,v14,v15,v16,m0_0,m0_1,h1,h2_0,h2_1,h2_2,h2_3,h3,h6_0,h6_1,h6_2,r5_0,r5_1,fresh8,(v14.getD v16.toNat ((YFf #[]),(0:Int),(0:Int),(YFf #[]))).1,(v14.getD v16.toNat ((YFf #[]),(0:Int),(0:Int),(YFf #[]))).2.1,(v14.getD v16.toNat ((YFf #[]),(0:Int),(0:Int),(YFf #[]))).2.2.1,(v14.getD v16.toNat ((YFf #[]),(0:Int),(0:Int),(YFf #[]))).2.2.2,(v14.getD v16.toNat ((YFf #[]),(0:Int),(0:Int),(YFf #[]))).2.1,(v14.getD v16.toNat ((YFf #[]),(0:Int),(0:Int),(YFf #[]))).2.2.1,(v14.getD v16.toNat ((YFf #[]),(0:Int),(0:Int),(YFf #[]))).2.2.2)) fun y131=>alt2 y131 (fun y132=>some (.inl (y132.1,y132.2.1,(YFg .i64 (y132.2.2.1+(1:Int))),y132.2.2.2.1,y132.2.2.2.2.1,y132.2.2.2.2.2.1,y132.2.2.2.2.2.2.1,y132.2.2.2.2.2.2.2.1,y132.2.2.2.2.2.2.2.2.1,y132.2.2.2.2.2.2.2.2.2.1,y132.2.2.2.2.2.2.2.2.2.2.1,y132.2.2.2.2.2.2.2.2.2.2.2.1,y132.2.2.2.2.2.2.2.2.2.2.2.2.1,y132.2.2.2.2.2.2.2.2.2.2.2.2.2.1,y132.2.2.2.2.2.2.2.2.2.2.2.2.2.2.1,y132.2.2.2.2.2.2.2.2.2.2.2.2.2.2.2.1,y132.2.2.2.2.2.2.2.2.2.2.2.2.2.2.2.2))) (fun y133=>some (.inr (.inl (y133.1,y133.2.1,y133.2.2.1,y133.2.2.2.1,y133.2.2.2.2.1,y133.2.2.2.2.2.1,y133.2.2.2.2.2.2.1,y133.2.2.2.2.2.2.2.1,y133.2.2.2.2.2.2.2.2.1,y133.2.2.2.2.2.2.2.2.2.1,y133.2.2.2.2.2.2.2.2.2.2.1,y133.2.2.2.2.2.2.2.2.2.2.2.1,y133.2.2.2.2.2.2.2.2.2.2.2.2)))))))else(some (.inr (.inr (m0_0,m0_1,h1,h2_0,h2_1,h2_2,h2_3,h3,h6_0,h6_1,h6_2,fresh8))))
def Ylr(lo:Lo):Zp45->Option ((Bool×Zt4×Zt0×Zt1×Int×Zt6×Bool×Bool× (List Int)×Int×Zt11×Bool×Zt4)⊕ (Zt4×Zt0×Zt1×Int×Zt6×Bool×Bool× (List Int)×Int×Zt11×Bool×Zt4)):=lo.run (Ylq lo)
def YuJ(lo:Lo):LpE:=⟨3,[(0,some 2,false),(0,some 4,false),(8,none,false)],⟨[0,5,8,14,15,16],[.ptr 0 0 0,.ptr 7 0 0,.ref 8,.l Zc9,.i .i64,.i .i64],[.st [.l (cs [.s]),.l Zc2,.ref 1,.np 2,.ref 3,.clo 513 [.ptr 4 0 0,.ptr 5 0 0]],.sq Zc3,.st [.i .i64,.l Zc12,.b,.b],.sq (cs [I]),.st [.ptr 0 0 0],.st [.np 6],.st [.i .i64,.l Zc14,.b],.st [.i .i64,.l Zc10],.sq (cs [.s])],Zc24⟩,[⟨.ret,⟨[6,7,0],[.ref 7,.b,.ptr 0 0 0],[.st [.l (cs [.s]),.l Zc2,.ref 1,.np 2,.ref 3,.clo 513 [.ptr 4 0 0,.ptr 5 0 0]],.sq Zc3,.st [.i .i64,.l Zc12,.b,.b],.sq (cs [I]),.st [.ptr 0 0 0],.st [.np 6],.st [.i .i64,.l Zc14,.b],.sq (cs [.s])],Zc21⟩⟩,⟨.exit 0,⟨[0,8],[.ptr 0 0 0,.ref 7],[.st [.l (cs [.s]),.l Zc2,.ref 1,.np 2,.ref 3,.clo 513 [.ptr 4 0 0,.ptr 5 0 0]],.sq Zc3,.st [.i .i64,.l Zc12,.b,.b],.sq (cs [I]),.st [.ptr 0 0 0],.st [.np 6],.st [.i .i64,.l Zc14,.b],.sq (cs [.s])],(cs [.l (cs [.s]),.l Zc2,.l Zc3,I,.l Zc12,.b,.b,.l (cs [I]),I,.l Zc14,.b,.l (cs [.s])])⟩⟩],Ylr lo⟩
def YuK(lo:Lo):LL:=(YuJ lo,.loop q49_L3_b.er)::Ylp lo
theorem YuL(lo:Lo):Lk lo pf (fs49 lo) 7 (YuK lo):=.l (YuI lo) (Ylq lo) rfl (by kernel_rfl) fun x=>by kernel_rfl
def q49(lo:Lo)(a1_0:ByteArray)(a1_1:List Zp76)(r2_0:Int)(r2_1:List (Int×Int×ByteArray))(m0_0:List ByteArray)(m0_1:List (ByteArray×Zt5))(h1:List (ByteArray×Zt4×Zt15))(h2_0:Int)(h2_1:List (Int×ByteArray×Int×Int×ByteArray))(h2_2:Bool)(h2_3:Bool)(h3:List Int)(h6_0:Int)(h6_1:List (Int×ByteArray×Zt7))(h6_2:Bool):Option (Bool×Zt4×Zt0×Zt1×Int×Zt6×Bool×Bool× (List Int)×Int×Zt11×Bool×Zt4):=
  YEV (Ylr lo (a1_1,(a1_1.length:Int),(0:Int),m0_0,m0_1,h1,h2_0,h2_1,h2_2,h2_3,h3,h6_0,h6_1,h6_2,r2_0,r2_1,[])) fun y134=>alt2 y134 (fun y135=>some (y135.1,y135.2.1,y135.2.2.1,y135.2.2.2.1,y135.2.2.2.2.1,y135.2.2.2.2.2.1,y135.2.2.2.2.2.2.1,y135.2.2.2.2.2.2.2.1,y135.2.2.2.2.2.2.2.2.1,y135.2.2.2.2.2.2.2.2.2.1,y135.2.2.2.2.2.2.2.2.2.2.1,y135.2.2.2.2.2.2.2.2.2.2.2.1,y135.2.2.2.2.2.2.2.2.2.2.2.2)) (fun y136=>some (true,y136.1,y136.2.1,y136.2.2.1,y136.2.2.2.1,y136.2.2.2.2.1,y136.2.2.2.2.2.1,y136.2.2.2.2.2.2.1,y136.2.2.2.2.2.2.2.1,y136.2.2.2.2.2.2.2.2.1,y136.2.2.2.2.2.2.2.2.2.1,y136.2.2.2.2.2.2.2.2.2.2.1,y136.2.2.2.2.2.2.2.2.2.2.2))
def YuM:VFn:=⟨true,64,[.t 6,.t 7],
 (.seq (.reg [o 4 (.box (t 1)),o 5 (.box (t 2)),o 6 (.mv (ke (cs [.s]))),o 7 (.mv (kb false))])
 (.seq (.reg [o 8 (.mv (ke (cs [.s])))])
 (.seq (.seq (.reg [oF 13 1 4,oL 14 13,oN 15 14,o 16 (.mv (k 0))])
 (.blk 0 (.loop 3 q49_L3_b)))
 (.seq (.reg [oM 63 8,oM 6 63,o 7 (.mv (kb true))])
 (.ow [(0,some 4,false),(0,some 2,false)] .ret)))))⟩
def Yls(lo:Lo):FnE:=⟨543,false,⟨[0,1,2],[.ptr 0 0 0,.ag [.s,.l Zc9],.ag [.i .i64,.l Zc10]],[.st [.l (cs [.s]),.l Zc2,.ref 1,.np 2,.ref 3,.clo 513 [.ptr 4 0 0,.ptr 5 0 0]],.sq Zc3,.st [.i .i64,.l Zc12,.b,.b],.sq (cs [I]),.st [.ptr 0 0 0],.st [.np 6],.st [.i .i64,.l Zc14,.b]],(cs [.s,.l Zc9,I,.l Zc10,.l (cs [.s]),.l Zc2,.l Zc3,I,.l Zc12,.b,.b,.l (cs [I]),I,.l Zc14,.b])⟩,.tp [.ref 7,.b],[.st [.l (cs [.s]),.l Zc2,.ref 1,.np 2,.ref 3,.clo 513 [.ptr 4 0 0,.ptr 5 0 0]],.sq Zc3,.st [.i .i64,.l Zc12,.b,.b],.sq (cs [I]),.st [.ptr 0 0 0],.st [.np 6],.st [.i .i64,.l Zc14,.b],.sq (cs [.s])],Zc21,(fun x=>q49 lo x.1 x.2.1 x.2.2.1 x.2.2.2.1 x.2.2.2.2.1 x.2.2.2.2.2.1 x.2.2.2.2.2.2.1 x.2.2.2.2.2.2.2.1 x.2.2.2.2.2.2.2.2.1 x.2.2.2.2.2.2.2.2.2.1 x.2.2.2.2.2.2.2.2.2.2.1 x.2.2.2.2.2.2.2.2.2.2.2.1 x.2.2.2.2.2.2.2.2.2.2.2.2.1 x.2.2.2.2.2.2.2.2.2.2.2.2.2.1 x.2.2.2.2.2.2.2.2.2.2.2.2.2.2:ByteArray×Zt5×Int×Zt7×Zt4×Zt0×Zt1×Int×Zt6×Bool×Bool× (List Int)×Int×Zt11×Bool->Option (Bool×Zt4×Zt0×Zt1×Int×Zt6×Bool×Bool× (List Int)×Int×Zt11×Bool×Zt4))⟩
def fs50(lo:Lo):List FnE:=Yls lo::fs49 lo
theorem YuN{P:Program}{fm:FM}{lo:Lo}(h:GZ P fm fs49 lo)(t:Ti P fm 543 YuM):GZ P fm fs50 lo:=
  h.i (Yls lo) (YuL lo) t (by kernel_rfl) (by kernel_rfl) fun x=>by kernel_rfl
end Go.Abs.G47
namespace Go.Abs.G47
open Go Go.Abs
set_option maxRecDepth 100000
set_option maxHeartbeats 1000000
def YfQ(F:Zp51->Option (Bool×Zt4×Zt0×Zt1×Int×Zt6×Bool×Bool×Int×Zt11×Bool× (List Int))):FnE:=⟨515,false,⟨[0,1],[.ptr 0 0 0,.i .i64],[.st [.l (cs [.s]),.l Zc2,.ref 1,.np 2,.ref 3,.clo 513 [.ptr 4 0 0,.ptr 5 0 0]],.sq Zc3,.st [.i .i64,.l Zc12,.b,.b],.sq (cs [I]),.st [.ptr 0 0 0],.st [.np 6],.st [.i .i64,.l Zc14,.b]],(cs [I,.l (cs [.s]),.l Zc2,.l Zc3,I,.l Zc12,.b,.b,.l (cs [I]),I,.l Zc14,.b])⟩,.b,[.st [.l (cs [.s]),.l Zc2,.ref 1,.np 2,.ref 7,.clo 513 [.ptr 4 0 0,.ptr 5 0 0]],.sq Zc3,.st [.i .i64,.l Zc12,.b,.b],.dd,.st [.ptr 0 0 0],.st [.np 6],.st [.i .i64,.l Zc14,.b],.sq (cs [I])],Zc32,F⟩
def q50_L8_b:VCode:=
 (.seq (.reg [o 83 (.bin .lss (t 82) (t 81))])
 (.seq (.cond (t 83) .skip
 (.exit 2))
 (.seq (.blk 3 (.seq (.reg [o 84 (.iad 1 (t 80) (t 82)),oL 85 84,oM 11 85])
 (.reg [oM 86 0,o 87 (.nilc (t 86)),oF 88 3 87,oL 89 88,oM 90 11,on (.mdel none I Zc36 (t 89) (t 90))])))
 (.reg [o 91 (.bin .add (t 82) (k 1)),oM 82 91]))))
def Ylt(lo:Lo)(rec:Zp51->Option (Bool×Zt4×Zt0×Zt1×Int×Zt6×Bool×Bool×Int×Zt11×Bool× (List Int))):Zp43->Option (Zp43⊕ ((Int×Bool×Zt15×Int×Int×Zt4×Zt0×Zt1×Int×Zt6×Bool×Bool×Int×Zt11×Bool× (List Int)))):=fun x=>match x with
  | (i1,on9,v32,v33,v34,v81,v82,m0_0,m0_1,h1,h2_0,h2_1,h2_2,h2_3,h6_0,h6_1,h6_2,v80,h8)=>bif(decide (v82<v81))then(chk (0<=v82/\v82< (v80.length:Int)) (some (.inl (i1,on9,v32,v33,v34,v81,(YFg .i64 (v82+(1:Int))),m0_0,m0_1,h1,h2_0,(mdl eqS (v80.getD v82.toNat (YFf #[])) h2_1),h2_2,h2_3,h6_0,h6_1,h6_2,v80,h8))))else(some (.inr (i1,on9,v32,v33,v34,m0_0,m0_1,h1,h2_0,h2_1,h2_2,h2_3,h6_0,h6_1,h6_2,h8)))
def YfR(lo:Lo)(rec:Zp51->Option (Bool×Zt4×Zt0×Zt1×Int×Zt6×Bool×Bool×Int×Zt11×Bool× (List Int))):Zp43->Option ((Int×Bool×Zt15×Int×Int×Zt4×Zt0×Zt1×Int×Zt6×Bool×Bool×Int×Zt11×Bool× (List Int))):=lo.run (Ylt lo rec)
def YuO(lo:Lo)(rec:Zp51->Option (Bool×Zt4×Zt0×Zt1×Int×Zt6×Bool×Bool×Int×Zt11×Bool× (List Int))):LpE:=⟨8,[(0,some 2,false),(0,some 4,false)],⟨[0,1,9,32,33,34,80,81,82],[.ptr 0 0 0,.i .i64,.b,.l Zc18,.i .i64,.i .i64,.ref 7,.i .i64,.i .i64],[.st [.l (cs [.s]),.l Zc2,.ref 1,.np 2,.ref 8,.clo 513 [.ptr 4 0 0,.ptr 5 0 0]],.sq Zc3,.st [.i .i64,.l Zc12,.b,.b],.dd,.st [.ptr 0 0 0],.st [.np 6],.st [.i .i64,.l Zc14,.b],.sq (cs [.s]),.sq (cs [I])],Zc39⟩,[⟨.exit 2,⟨[0,1,9,32,33,34],[.ptr 0 0 0,.i .i64,.b,.l Zc18,.i .i64,.i .i64],[.st [.l (cs [.s]),.l Zc2,.ref 1,.np 2,.ref 7,.clo 513 [.ptr 4 0 0,.ptr 5 0 0]],.sq Zc3,.st [.i .i64,.l Zc12,.b,.b],.dd,.st [.ptr 0 0 0],.st [.np 6],.st [.i .i64,.l Zc14,.b],.sq (cs [I])],(cs [I,.b,.l Zc18,I,I,.l (cs [.s]),.l Zc2,.l Zc3,I,.l Zc12,.b,.b,I,.l Zc14,.b,.l (cs [I])])⟩⟩],YfR lo rec⟩
def Ylu(lo:Lo)(rec:Zp51->Option (Bool×Zt4×Zt0×Zt1×Int×Zt6×Bool×Bool×Int×Zt11×Bool× (List Int))):LL:=(YuO lo rec,.loop q50_L8_b.er)::[]
theorem YuP(lo:Lo)(rec:Zp51->Option (Bool×Zt4×Zt0×Zt1×Int×Zt6×Bool×Bool×Int×Zt11×Bool× (List Int))):Lk lo pf (YfQ rec::fs50 lo) 7 (Ylu lo rec):=.l .n (Ylt lo rec) rfl (by kernel_rfl) fun x=>by kernel_rfl
def q50_L3_b:VCode:=
 (.seq (.reg [o 35 (.bin .lss (t 34) (t 33))])
 (.seq (.cond (t 35) .skip
 (.exit 0))
 (.seq (.blk 1 (.seq (.reg [o 36 (.iad 2 (t 32) (t 34)),o 37 (.load true 2 (t 36)),o 6 (.alloc [.i .i64 0,.e Zc10]),on (.store 2 (t 6) (t 37))])
 (.seq (.reg [oM 39 0,oM 40 0,o 41 (.nilc (t 40)),oF 42 0 41,oF 43 1 42,oL 44 43,oM 45 1,o 46 (.iad 2 (t 44) (t 45)),o 47 (.load true 2 (t 46)),o 48 (.load true 2 (t 6)),o 49 (.call 543 [(t 39),(t 47),(t 48)]),oM 38 49,oE 50 38 0,oE 51 38 1,oM 7 50,oM 8 51])
 (.seq (.reg [oM 52 0,oM 53 0,o 54 (.nilc (t 53)),oF 55 4 54,oL 56 55,oF 57 0 6,oL 58 57,o 59 (.bsl (cs [I]) 1 [(0,(t 58))]),o 60 (.app (cs [I]) 0 (t 56) (t 59)),o 61 (.nilc (t 52)),oF 62 4 61,on (.store 1 (t 62) (t 60))])
 (.seq (.reg [oM 63 8,o 64 (.not (t 63)),oM 65 64,og 66 65 false (.mv (t 0)),og 67 65 false (.mv (t 1)),og 68 65 false (.bin .add (t 67) (k 1)),og 69 65 false (.call 515 [(t 66),(t 68)]),o 70 (.pick (t 65) (kb true) (t 69)),oM 9 70])
 (.seq (.reg [oM 71 0,oM 72 0,o 73 (.nilc (t 72)),oF 74 4 73,oL 75 74,oM 76 1,o 77 (.slcR 1 (t 75) none (some (t 76))),o 78 (.nilc (t 71)),oF 79 4 78,on (.store 1 (t 79) (t 77))])
 (.seq (.seq (.reg [oM 80 7,oN 81 80,o 82 (.mv (k 0))])
 (.blk 2 (.loop 8 q50_L8_b)))
 (.seq (.reg [oM 92 9,o 93 (.not (t 92))])
 (.cond (t 93) (.seq (.reg [o 4 (.mv (kb false))])
 (.ow [(1000003,none,true),(0,some 4,false),(0,some 2,false)] .ret))
 .skip)))))))))
 (.reg [o 94 (.bin .add (t 34) (k 1)),oM 34 94]))))
def Ylv(lo:Lo)(rec:Zp51->Option (Bool×Zt4×Zt0×Zt1×Int×Zt6×Bool×Bool×Int×Zt11×Bool× (List Int))):Zp47->Option (Zp47⊕ ((Bool×Zt4×Zt0×Zt1×Int×Zt6×Bool×Bool×Int×Zt11×Bool× (List Int))⊕ (Zt4×Zt0×Zt1×Int×Zt6×Bool×Bool×Int×Zt11×Bool× (List Int)))):=fun x=>match x with
  | (i1,v32,v33,v34,m0_0,m0_1,h1,h2_0,h2_1,h2_2,h2_3,h6_0,h6_1,h6_2,h7)=>bif(decide (v34<v33))then(chk (0<=v34/\v34< (v32.length:Int)) (chk (0<=i1/\i1< (m0_1.length:Int)) (YEV (q49 lo ((m0_1.getD i1.toNat ((YFf #[]),[])).1) ((m0_1.getD i1.toNat ((YFf #[]),[])).2) ((v32.getD v34.toNat ((0:Int),[])).1) ((v32.getD v34.toNat ((0:Int),[])).2) m0_0 m0_1 h1 h2_0 h2_1 h2_2 h2_3 h7 h6_0 h6_1 h6_2) fun y156=>chk (y156.2.2.2.1.length=h1.length) (chk (y156.2.2.2.2.2.2.2.2.1.length=h7.length) (chk (y156.2.2.2.2.2.2.2.2.1.length+([(v32.getD v34.toNat ((0:Int),[])).1]).length<=maxEl) (bif(!y156.1)then(chk ((0:Int)=0/\0<=i1/\i1<=((y156.2.2.2.2.2.2.2.2.1++([(v32.getD v34.toNat ((0:Int),[])).1])).length:Int)) (YEV (YfR lo rec (i1,true,v32,v33,v34,(y156.2.2.2.2.2.2.2.2.2.2.2.2.length:Int),(0:Int),y156.2.1,y156.2.2.1,y156.2.2.2.1,y156.2.2.2.2.1,y156.2.2.2.2.2.1,y156.2.2.2.2.2.2.1,y156.2.2.2.2.2.2.2.1,y156.2.2.2.2.2.2.2.2.2.1,y156.2.2.2.2.2.2.2.2.2.2.1,y156.2.2.2.2.2.2.2.2.2.2.2.1,y156.2.2.2.2.2.2.2.2.2.2.2.2,((y156.2.2.2.2.2.2.2.2.1++([(v32.getD v34.toNat ((0:Int),[])).1])).take i1.toNat))) fun y157=>bif(!y157.2.1)then(some (.inr (.inl (false,y157.2.2.2.2.2.1,y157.2.2.2.2.2.2.1,y157.2.2.2.2.2.2.2.1,y157.2.2.2.2.2.2.2.2.1,y157.2.2.2.2.2.2.2.2.2.1,y157.2.2.2.2.2.2.2.2.2.2.1,y157.2.2.2.2.2.2.2.2.2.2.2.1,y157.2.2.2.2.2.2.2.2.2.2.2.2.1,y157.2.2.2.2.2.2.2.2.2.2.2.2.2.1,y157.2.2.2.2.2.2.2.2.2.2.2.2.2.2.1,y157.2.2.2.2.2.2.2.2.2.2.2.2.2.2.2))))else(some (.inl (y157.1,y157.2.2.1,y157.2.2.2.1,(YFg .i64 (y157.2.2.2.2.1+(1:Int))),y157.2.2.2.2.2.1,y157.2.2.2.2.2.2.1,y157.2.2.2.2.2.2.2.1,y157.2.2.2.2.2.2.2.2.1,y157.2.2.2.2.2.2.2.2.2.1,y157.2.2.2.2.2.2.2.2.2.2.1,y157.2.2.2.2.2.2.2.2.2.2.2.1,y157.2.2.2.2.2.2.2.2.2.2.2.2.1,y157.2.2.2.2.2.2.2.2.2.2.2.2.2.1,y157.2.2.2.2.2.2.2.2.2.2.2.2.2.2.1,y157.2.2.2.2.2.2.2.2.2.2.2.2.2.2.2)))))else(YEV (rec ((YFg .i64 (i1+(1:Int))),y156.2.1,y156.2.2.1,y156.2.2.2.1,y156.2.2.2.2.1,y156.2.2.2.2.2.1,y156.2.2.2.2.2.2.1,y156.2.2.2.2.2.2.2.1,(y156.2.2.2.2.2.2.2.2.1++([(v32.getD v34.toNat ((0:Int),[])).1])),y156.2.2.2.2.2.2.2.2.2.1,y156.2.2.2.2.2.2.2.2.2.2.1,y156.2.2.2.2.2.2.2.2.2.2.2.1)) fun y158=>chk (y158.2.2.2.1.length=y156.2.2.2.1.length) (chk ((0:Int)=0/\0<=i1/\i1<=(y158.2.2.2.2.2.2.2.2.2.2.2.length:Int)) (YEV (YfR lo rec (i1,y158.1,v32,v33,v34,(y156.2.2.2.2.2.2.2.2.2.2.2.2.length:Int),(0:Int),y158.2.1,y158.2.2.1,y158.2.2.2.1,y158.2.2.2.2.1,y158.2.2.2.2.2.1,y158.2.2.2.2.2.2.1,y158.2.2.2.2.2.2.2.1,y158.2.2.2.2.2.2.2.2.1,y158.2.2.2.2.2.2.2.2.2.1,y158.2.2.2.2.2.2.2.2.2.2.1,y156.2.2.2.2.2.2.2.2.2.2.2.2,(y158.2.2.2.2.2.2.2.2.2.2.2.take i1.toNat))) fun y159=>bif(!y159.2.1)then(some (.inr (.inl (false,y159.2.2.2.2.2.1,y159.2.2.2.2.2.2.1,y159.2.2.2.2.2.2.2.1,y159.2.2.2.2.2.2.2.2.1,y159.2.2.2.2.2.2.2.2.2.1,y159.2.2.2.2.2.2.2.2.2.2.1,y159.2.2.2.2.2.2.2.2.2.2.2.1,y159.2.2.2.2.2.2.2.2.2.2.2.2.1,y159.2.2.2.2.2.2.2.2.2.2.2.2.2.1,y159.2.2.2.2.2.2.2.2.2.2.2.2.2.2.1,y159.2.2.2.2.2.2.2.2.2.2.2.2.2.2.2))))else(some (.inl (y159.1,y159.2.2.1,y159.2.2.2.1,(YFg .i64 (y159.2.2.2.2.1+(1:Int))),y159.2.2.2.2.2.1,y159.2.2.2.2.2.2.1,y159.2.2.2.2.2.2.2.1,y159.2.2.2.2.2.2.2.2.1,y159.2.2.2.2.2.2.2.2.2.1,y159.2.2.2.2.2.2.2.2.2.2.1,y159.2.2.2.2.2.2.2.2.2.2.2.1,y159.2.2.2.2.2.2.2.2.2.2.2.2.1,y159.2.2.2.2.2.2.2.2.2.2.2.2.2.1,y159.2.2.2.2.2.2.2.2.2.2.2.2.2.2.1,y159.2.2.2.2.2.2.2.2.2.2.2.2.2.2.2))))))))))))else(some (.inr (.inr (m0_0,m0_1,h1,h2_0,h2_1,h2_2,h2_3,h6_0,h6_1,h6_2,h7))))
def Ylw(lo:Lo)(rec:Zp51->Option (Bool×Zt4×Zt0×Zt1×Int×Zt6×Bool×Bool×Int×Zt11×Bool× (List Int))):Zp47->Option ((Bool×Zt4×Zt0×Zt1×Int×Zt6×Bool×Bool×Int×Zt11×Bool× (List Int))⊕ (Zt4×Zt0×Zt1×Int×Zt6×Bool×Bool×Int×Zt11×Bool× (List Int))):=lo.run (Ylv lo rec)
def YuQ(lo:Lo)(rec:Zp51->Option (Bool×Zt4×Zt0×Zt1×Int×Zt6×Bool×Bool×Int×Zt11×Bool× (List Int))):LpE:=⟨3,[(1000003,none,true),(0,some 2,false),(0,some 4,false)],⟨[0,1,32,33,34],[.ptr 0 0 0,.i .i64,.l Zc18,.i .i64,.i .i64],[.st [.l (cs [.s]),.l Zc2,.ref 1,.np 2,.ref 7,.clo 513 [.ptr 4 0 0,.ptr 5 0 0]],.sq Zc3,.st [.i .i64,.l Zc12,.b,.b],.dd,.st [.ptr 0 0 0],.st [.np 6],.st [.i .i64,.l Zc14,.b],.sq (cs [I])],(cs [I,.l Zc18,I,I,.l (cs [.s]),.l Zc2,.l Zc3,I,.l Zc12,.b,.b,I,.l Zc14,.b,.l (cs [I])])⟩,[⟨.ret,⟨[4,0],[.b,.ptr 0 0 0],[.st [.l (cs [.s]),.l Zc2,.ref 1,.np 2,.ref 7,.clo 513 [.ptr 4 0 0,.ptr 5 0 0]],.sq Zc3,.st [.i .i64,.l Zc12,.b,.b],.dd,.st [.ptr 0 0 0],.st [.np 6],.st [.i .i64,.l Zc14,.b],.sq (cs [I])],Zc32⟩⟩,⟨.exit 0,⟨[0],[.ptr 0 0 0],[.st [.l (cs [.s]),.l Zc2,.ref 1,.np 2,.ref 7,.clo 513 [.ptr 4 0 0,.ptr 5 0 0]],.sq Zc3,.st [.i .i64,.l Zc12,.b,.b],.dd,.st [.ptr 0 0 0],.st [.np 6],.st [.i .i64,.l Zc14,.b],.sq (cs [I])],(cs [.l (cs [.s]),.l Zc2,.l Zc3,I,.l Zc12,.b,.b,I,.l Zc14,.b,.l (cs [I])])⟩⟩],Ylw lo rec⟩
def Ylx(lo:Lo)(rec:Zp51->Option (Bool×Zt4×Zt0×Zt1×Int×Zt6×Bool×Bool×Int×Zt11×Bool× (List Int))):LL:=(YuQ lo rec,.loop q50_L3_b.er)::Ylu lo rec
theorem YuR(lo:Lo)(rec:Zp51->Option (Bool×Zt4×Zt0×Zt1×Int×Zt6×Bool×Bool×Int×Zt11×Bool× (List Int))):Lk lo pf (YfQ rec::fs50 lo) 7 (Ylx lo rec):=.l (YuP lo rec) (Ylv lo rec) rfl (by kernel_rfl) fun x=>by kernel_rfl
def YuS(lo:Lo)(rec:Zp51->Option (Bool×Zt4×Zt0×Zt1×Int×Zt6×Bool×Bool×Int×Zt11×Bool× (List Int)))(i1:Int)(m0_0:List ByteArray)(m0_1:List (ByteArray×Zt5))(h1:List (ByteArray×Zt4×Zt15))(h2_0:Int)(h2_1:List (Int×ByteArray×Int×Int×ByteArray))(h2_2:Bool)(h2_3:Bool)(h3:List Int)(h6_0:Int)(h6_1:List (Int×ByteArray×Zt7))(h6_2:Bool):Option (Bool×Zt4×Zt0×Zt1×Int×Zt6×Bool×Bool×Int×Zt11×Bool× (List Int)):=
  bif(decide (i1=(m0_1.length:Int)))then(YEV (q48 lo m0_0 m0_1 h6_0 h6_1 h6_2 h1 h2_0 h2_1 h2_2 h2_3 h3) fun y155=>chk (y155.2.2.2.2.2.2.1.length=h1.length) (chk (y155.2.2.2.2.2.2.2.2.2.2.2.length=h3.length) (some (y155.1,y155.2.1,y155.2.2.1,y155.2.2.2.2.2.2.1,y155.2.2.2.2.2.2.2.1,y155.2.2.2.2.2.2.2.2.1,y155.2.2.2.2.2.2.2.2.2.1,y155.2.2.2.2.2.2.2.2.2.2.1,y155.2.2.2.1,y155.2.2.2.2.1,y155.2.2.2.2.2.1,y155.2.2.2.2.2.2.2.2.2.2.2))))else(chk (0<=i1/\i1< (h1.length:Int)) (YEV (Ylw lo rec (i1,(h1.getD i1.toNat ((YFf #[]),[],[])).2.2,(((h1.getD i1.toNat ((YFf #[]),[],[])).2.2).length:Int),(0:Int),m0_0,m0_1,h1,h2_0,h2_1,h2_2,h2_3,h6_0,h6_1,h6_2,h3)) fun y160=>alt2 y160 (fun y161=>some (y161.1,y161.2.1,y161.2.2.1,y161.2.2.2.1,y161.2.2.2.2.1,y161.2.2.2.2.2.1,y161.2.2.2.2.2.2.1,y161.2.2.2.2.2.2.2.1,y161.2.2.2.2.2.2.2.2.1,y161.2.2.2.2.2.2.2.2.2.1,y161.2.2.2.2.2.2.2.2.2.2.1,y161.2.2.2.2.2.2.2.2.2.2.2)) (fun y162=>some (true,y162.1,y162.2.1,y162.2.2.1,y162.2.2.2.1,y162.2.2.2.2.1,y162.2.2.2.2.2.1,y162.2.2.2.2.2.2.1,y162.2.2.2.2.2.2.2.1,y162.2.2.2.2.2.2.2.2.1,y162.2.2.2.2.2.2.2.2.2.1,y162.2.2.2.2.2.2.2.2.2.2))))
def YfS(lo:Lo):Nat->Int×Zt4×Zt0×Zt1×Int×Zt6×Bool×Bool× (List Int)×Int×Zt11×Bool->Option (Bool×Zt4×Zt0×Zt1×Int×Zt6×Bool×Bool×Int×Zt11×Bool× (List Int))
  |0,_=>none
  |n+1,x=>YuS lo (YfS lo n) x.1 x.2.1 x.2.2.1 x.2.2.2.1 x.2.2.2.2.1 x.2.2.2.2.2.1 x.2.2.2.2.2.2.1 x.2.2.2.2.2.2.2.1 x.2.2.2.2.2.2.2.2.1 x.2.2.2.2.2.2.2.2.2.1 x.2.2.2.2.2.2.2.2.2.2.1 x.2.2.2.2.2.2.2.2.2.2.2
def q50(lo:Lo)(i1:Int)(m0_0:List ByteArray)(m0_1:List (ByteArray×Zt5))(h1:List (ByteArray×Zt4×Zt15))(h2_0:Int)(h2_1:List (Int×ByteArray×Int×Int×ByteArray))(h2_2:Bool)(h2_3:Bool)(h3:List Int)(h6_0:Int)(h6_1:List (Int×ByteArray×Zt7))(h6_2:Bool):Option (Bool×Zt4×Zt0×Zt1×Int×Zt6×Bool×Bool×Int×Zt11×Bool× (List Int)):=lo.run (fixS (YfS lo)) (0,(i1,m0_0,m0_1,h1,h2_0,h2_1,h2_2,h2_3,h3,h6_0,h6_1,h6_2))
def YuT:VFn:=⟨true,95,[.t 4],
 (.seq (.reg [o 4 (.mv (kb false))])
 (.seq (.seq (.reg [oM 12 1,oM 13 0,o 14 (.nilc (t 13)),oF 15 0 14,oF 16 1 15,oL 17 16,oN 18 17,o 19 (.bin .eql (t 12) (t 18))])
 (.cond (t 19) (.seq (.reg [oM 20 0,o 21 (.nilc (t 20)),oF 22 5 21,oL 23 22,o 24 (.dyn (t 23) []),oM 4 24])
 (.ow [(1000003,none,true),(0,some 4,false),(0,some 2,false)] .ret))
 .skip))
 (.seq (.seq (.reg [oM 25 0,o 26 (.nilc (t 25)),oF 27 2 26,oL 28 27,oM 29 1,o 30 (.iad 3 (t 28) (t 29)),oF 31 2 30,oL 32 31,oN 33 32,o 34 (.mv (k 0))])
 (.blk 0 (.loop 3 q50_L3_b)))
 (.seq (.reg [o 4 (.mv (kb true))])
 (.ow [(1000003,none,true),(0,some 4,false),(0,some 2,false)] .ret)))))⟩
def Yly(lo:Lo):FnE:=YfQ (fun x=>q50 lo x.1 x.2.1 x.2.2.1 x.2.2.2.1 x.2.2.2.2.1 x.2.2.2.2.2.1 x.2.2.2.2.2.2.1 x.2.2.2.2.2.2.2.1 x.2.2.2.2.2.2.2.2.1 x.2.2.2.2.2.2.2.2.2.1 x.2.2.2.2.2.2.2.2.2.2.1 x.2.2.2.2.2.2.2.2.2.2.2)
def fs51(lo:Lo):List FnE:=Yly lo::fs50 lo
theorem YuU{P:Program}{fm:FM}{lo:Lo}(h:GZ P fm fs50 lo)(t:Ti P fm 515 YuT):GZ P fm fs51 lo:=
  h.ir (Yly lo) (YfS lo) (ls:=fun rec=>Ylx lo rec) (fun rec=>(YuR lo rec)) t (by kernel_rfl) (fun _=>rfl) rfl (fun _=>by kernel_rfl) fun n x=>by kernel_rfl
def q51_J9_b:VCode:=
 (.seq (.seq (.reg [oM 13 0,o 14 (.bin .geq (t 13) (ki .u64 256))])
 (.cond (t 14) (.seq (.reg [oM 15 0,o 16 (.bin .shr (t 15) (ki .u64 8)),oM 0 16])
 (.reg [oM 17 2,o 18 (.bin .add (t 17) (k 8)),oM 2 18]))
 .skip))
 (.seq (.reg [oM 19 2,oM 20 0,o 21 (.conv .u8 (t 20)),o 22 (.idx (ks (⟨#[0,1,2,2,3,3,3,3,4,4,4,4,4,4,4,4,5,5,5,5,5,5,5,5,5,5,5,5,5,5,5,5,6,6,6,6,6,6,6,6,6,6,6,6,6,6,6,6,6,6,6,6,6,6,6,6,6,6,6,6,6,6,6,6,7,7,7,7,7,7,7,7,7,7,7,7,7,7,7,7,7,7,7,7,7,7,7,7,7,7,7,7,7,7,7,7,7,7,7,7,7,7,7,7,7,7,7,7,7,7,7,7,7,7,7,7,7,7,7,7,7,7,7,7,7,7,7,7,8,8,8,8,8,8,8,8,8,8,8,8,8,8,8,8,8,8,8,8,8,8,8,8,8,8,8,8,8,8,8,8,8,8,8,8,8,8,8,8,8,8,8,8,8,8,8,8,8,8,8,8,8,8,8,8,8,8,8,8,8,8,8,8,8,8,8,8,8,8,8,8,8,8,8,8,8,8,8,8,8,8,8,8,8,8,8,8,8,8,8,8,8,8,8,8,8,8,8,8,8,8,8,8,8,8,8,8,8,8,8,8,8,8,8,8,8,8,8,8,8,8,8,8,8,8,8,8]⟩)) (t 21)),o 23 (.conv .i64 (t 22)),o 24 (.bin .add (t 19) (t 23)),oM 2 24])
 (.fz [2] .ret)))
def YcH(lo:Lo):Int×Int->Option Int:=fun x=>match x with
  | (x0,n2)=>bif(decide ((256:Int)<=x0))then(chk (0<=(8:Int)) (chk (0<=(YFg .u8 (x0.fdiv (2^(min (8:Int).toNat (IntKind.bits .u64)))))/\ (YFg .u8 (x0.fdiv (2^(min (8:Int).toNat (IntKind.bits .u64)))))< ((YFf #[0,1,2,2,3,3,3,3,4,4,4,4,4,4,4,4,5,5,5,5,5,5,5,5,5,5,5,5,5,5,5,5,6,6,6,6,6,6,6,6,6,6,6,6,6,6,6,6,6,6,6,6,6,6,6,6,6,6,6,6,6,6,6,6,7,7,7,7,7,7,7,7,7,7,7,7,7,7,7,7,7,7,7,7,7,7,7,7,7,7,7,7,7,7,7,7,7,7,7,7,7,7,7,7,7,7,7,7,7,7,7,7,7,7,7,7,7,7,7,7,7,7,7,7,7,7,7,7,8,8,8,8,8,8,8,8,8,8,8,8,8,8,8,8,8,8,8,8,8,8,8,8,8,8,8,8,8,8,8,8,8,8,8,8,8,8,8,8,8,8,8,8,8,8,8,8,8,8,8,8,8,8,8,8,8,8,8,8,8,8,8,8,8,8,8,8,8,8,8,8,8,8,8,8,8,8,8,8,8,8,8,8,8,8,8,8,8,8,8,8,8,8,8,8,8,8,8,8,8,8,8,8,8,8,8,8,8,8,8,8,8,8,8,8,8,8,8,8,8,8,8,8,8,8,8,8]).size:Int)) (some (YFg .i64 ((YFg .i64 (n2+(8:Int)))+(YFg .i64 (YzT (YFf #[0,1,2,2,3,3,3,3,4,4,4,4,4,4,4,4,5,5,5,5,5,5,5,5,5,5,5,5,5,5,5,5,6,6,6,6,6,6,6,6,6,6,6,6,6,6,6,6,6,6,6,6,6,6,6,6,6,6,6,6,6,6,6,6,7,7,7,7,7,7,7,7,7,7,7,7,7,7,7,7,7,7,7,7,7,7,7,7,7,7,7,7,7,7,7,7,7,7,7,7,7,7,7,7,7,7,7,7,7,7,7,7,7,7,7,7,7,7,7,7,7,7,7,7,7,7,7,7,8,8,8,8,8,8,8,8,8,8,8,8,8,8,8,8,8,8,8,8,8,8,8,8,8,8,8,8,8,8,8,8,8,8,8,8,8,8,8,8,8,8,8,8,8,8,8,8,8,8,8,8,8,8,8,8,8,8,8,8,8,8,8,8,8,8,8,8,8,8,8,8,8,8,8,8,8,8,8,8,8,8,8,8,8,8,8,8,8,8,8,8,8,8,8,8,8,8,8,8,8,8,8,8,8,8,8,8,8,8,8,8,8,8,8,8,8,8,8,8,8,8,8,8,8,8,8,8]) (YFg .u8 (x0.fdiv (2^(min (8:Int).toNat (IntKind.bits .u64))))))))))))else(chk (0<=(YFg .u8 x0)/\ (YFg .u8 x0)< ((YFf #[0,1,2,2,3,3,3,3,4,4,4,4,4,4,4,4,5,5,5,5,5,5,5,5,5,5,5,5,5,5,5,5,6,6,6,6,6,6,6,6,6,6,6,6,6,6,6,6,6,6,6,6,6,6,6,6,6,6,6,6,6,6,6,6,7,7,7,7,7,7,7,7,7,7,7,7,7,7,7,7,7,7,7,7,7,7,7,7,7,7,7,7,7,7,7,7,7,7,7,7,7,7,7,7,7,7,7,7,7,7,7,7,7,7,7,7,7,7,7,7,7,7,7,7,7,7,7,7,8,8,8,8,8,8,8,8,8,8,8,8,8,8,8,8,8,8,8,8,8,8,8,8,8,8,8,8,8,8,8,8,8,8,8,8,8,8,8,8,8,8,8,8,8,8,8,8,8,8,8,8,8,8,8,8,8,8,8,8,8,8,8,8,8,8,8,8,8,8,8,8,8,8,8,8,8,8,8,8,8,8,8,8,8,8,8,8,8,8,8,8,8,8,8,8,8,8,8,8,8,8,8,8,8,8,8,8,8,8,8,8,8,8,8,8,8,8,8,8,8,8,8,8,8,8,8,8]).size:Int)) (some (YFg .i64 (n2+(YFg .i64 (YzT (YFf #[0,1,2,2,3,3,3,3,4,4,4,4,4,4,4,4,5,5,5,5,5,5,5,5,5,5,5,5,5,5,5,5,6,6,6,6,6,6,6,6,6,6,6,6,6,6,6,6,6,6,6,6,6,6,6,6,6,6,6,6,6,6,6,6,7,7,7,7,7,7,7,7,7,7,7,7,7,7,7,7,7,7,7,7,7,7,7,7,7,7,7,7,7,7,7,7,7,7,7,7,7,7,7,7,7,7,7,7,7,7,7,7,7,7,7,7,7,7,7,7,7,7,7,7,7,7,7,7,8,8,8,8,8,8,8,8,8,8,8,8,8,8,8,8,8,8,8,8,8,8,8,8,8,8,8,8,8,8,8,8,8,8,8,8,8,8,8,8,8,8,8,8,8,8,8,8,8,8,8,8,8,8,8,8,8,8,8,8,8,8,8,8,8,8,8,8,8,8,8,8,8,8,8,8,8,8,8,8,8,8,8,8,8,8,8,8,8,8,8,8,8,8,8,8,8,8,8,8,8,8,8,8,8,8,8,8,8,8,8,8,8,8,8,8,8,8,8,8,8,8,8,8,8,8,8,8]) (YFg .u8 x0)))))))
def YuV(lo:Lo):LpE:=⟨9,[],⟨[0,2],[.i .u64,.i .i64],[],(cs [.i .u64,I])⟩,[⟨.ret,⟨[2],[.i .i64],[],(cs [I])⟩⟩],YcH lo⟩
def YuW(lo:Lo):LL:=(YuV lo,q51_J9_b.er)::[]
theorem YuX(lo:Lo):Lk lo pf (fs51 lo) 0 (YuW lo):=.j .n (by kernel_rfl) fun x=>by kernel_rfl
def q51(lo:Lo)(x0:Int):Option Int:=
  bif(decide ((4294967296:Int)<=x0))then(chk (0<=(32:Int)) (bif(decide ((65536:Int)<=(x0.fdiv (2^(min (32:Int).toNat (IntKind.bits .u64))))))then(chk (0<=(16:Int)) (YEV (YcH lo (((x0.fdiv (2^(min (32:Int).toNat (IntKind.bits .u64)))).fdiv (2^(min (16:Int).toNat (IntKind.bits .u64)))),(YFg .i64 ((32:Int)+(16:Int))))) fun y167=>some y167))else(YEV (YcH lo ((x0.fdiv (2^(min (32:Int).toNat (IntKind.bits .u64)))),(32:Int))) fun y168=>some y168)))else(bif(decide ((65536:Int)<=x0))then(chk (0<=(16:Int)) (YEV (YcH lo ((x0.fdiv (2^(min (16:Int).toNat (IntKind.bits .u64)))),(YFg .i64 ((0:Int)+(16:Int))))) fun y169=>some y169))else(YEV (YcH lo (x0,(0:Int))) fun y170=>some y170))
def YuY:VFn:=⟨true,25,[.t 2],
 (.seq (.reg [o 2 (.mv (k 0))])
 (.seq (.seq (.reg [oM 3 0,o 4 (.bin .geq (t 3) (ki .u64 4294967296))])
 (.cond (t 4) (.seq (.reg [oM 5 0,o 6 (.bin .shr (t 5) (ki .u64 32)),oM 0 6])
 (.reg [o 2 (.mv (k 32))]))
 .skip))
 (.seq (.seq (.reg [oM 7 0,o 8 (.bin .geq (t 7) (ki .u64 65536))])
 (.cond (t 8) (.seq (.reg [oM 9 0,o 10 (.bin .shr (t 9) (ki .u64 16)),oM 0 10])
 (.reg [oM 11 2,o 12 (.bin .add (t 11) (k 16)),oM 2 12]))
 .skip))
 (.jn 9 q51_J9_b))))⟩
def Ylz(lo:Lo):FnE:=⟨187,true,⟨[0],[.i .u64],[],(cs [.i .u64])⟩,.i .i64,[],(cs [I]),(fun x=>q51 lo x:Int->Option Int)⟩
def fs52(lo:Lo):List FnE:=Ylz lo::fs51 lo
theorem YuZ{P:Program}{fm:FM}{lo:Lo}(h:GZ P fm fs51 lo)(t:Ti P fm 187 YuY):GZ P fm fs52 lo:=
  h.p (Ylz lo) (YuX lo) t (by kernel_rfl) (by kernel_rfl) fun x=>by kernel_rfl
def q52(lo:Lo)(x0:Int):Option Int:=
  YEV (q51 lo x0) fun y171=>some y171
def Yu0:VFn:=⟨true,8,[.t 2],
 (.seq (.reg [o 2 (.mv (k 0))])
 (.seq (.cond (kb false) (.seq (.reg [oM 3 0,o 4 (.conv .u32 (t 3)),o 5 (.call 186 [(t 4)]),oM 2 5])
 (.fz [2] .ret))
 .skip)
 (.seq (.reg [oM 6 0,o 7 (.call 187 [(t 6)]),oM 2 7])
 (.fz [2] .ret))))⟩
def YlA(lo:Lo):FnE:=⟨163,true,⟨[0],[.i .u64],[],(cs [.i .u64])⟩,.i .i64,[],(cs [I]),(fun x=>q52 lo x:Int->Option Int)⟩
def fs53(lo:Lo):List FnE:=YlA lo::fs52 lo
theorem Yu1{P:Program}{fm:FM}{lo:Lo}(h:GZ P fm fs52 lo)(t:Ti P fm 163 Yu0):GZ P fm fs53 lo:=
  h.p (YlA lo) .n t (by kernel_rfl) (by kernel_rfl) fun x=>by kernel_rfl
def q53(lo:Lo)(x0:ByteArray):Option Bool:=
  some (!decide (x0=x0))
def Yu2:VFn:=⟨true,6,[.t 2],
 (.seq (.reg [o 2 (.mv (kb false))])
 (.seq (.reg [oM 3 0,oM 4 0,o 5 (.bin .neq (t 3) (t 4)),oM 2 5])
 (.fz [2] .ret)))⟩
def YlB(lo:Lo):FnE:=⟨325,true,⟨[0],[.s],[],(cs [.s])⟩,.b,[],(cs [.b]),(fun x=>q53 lo x:ByteArray->Option Bool)⟩
def fs54(lo:Lo):List FnE:=YlB lo::fs53 lo
theorem Yu3{P:Program}{fm:FM}{lo:Lo}(h:GZ P fm fs53 lo)(t:Ti P fm 325 Yu2):GZ P fm fs54 lo:=
  h.p (YlB lo) .n t (by kernel_rfl) (by kernel_rfl) fun x=>by kernel_rfl
def q54(lo:Lo)(x0:ByteArray)(y1:ByteArray):Option Bool:=
  YEV (q53 lo x0) fun y173=>bif y173 then(YEV (q53 lo y1) fun y174=>bif(!y174)then(some true)else(some (Op.bytesLess x0.toList y1.toList)))else(some (Op.bytesLess x0.toList y1.toList))
def Yu4:VFn:=⟨true,17,[.t 4],
 (.seq (.reg [o 4 (.mv (kb false))])
 (.seq (.reg [oM 5 0,o 6 (.call 325 [(t 5)]),oM 7 6,og 8 7 true (.mv (t 1)),og 9 7 true (.call 325 [(t 8)]),og 10 7 true (.not (t 9)),o 11 (.pick (t 7) (t 10) (kb false)),oM 12 11,og 13 12 false (.mv (t 0)),og 14 12 false (.mv (t 1)),og 15 12 false (.bin .lss (t 13) (t 14)),o 16 (.pick (t 12) (kb true) (t 15)),oM 4 16])
 (.fz [4] .ret)))⟩
def YlC(lo:Lo):FnE:=⟨317,true,⟨[0,1],[.s,.s],[],(cs [.s,.s])⟩,.b,[],(cs [.b]),(fun x=>q54 lo x.1 x.2:ByteArray×ByteArray->Option Bool)⟩
def fs55(lo:Lo):List FnE:=YlC lo::fs54 lo
theorem Yu5{P:Program}{fm:FM}{lo:Lo}(h:GZ P fm fs54 lo)(t:Ti P fm 317 Yu4):GZ P fm fs55 lo:=
  h.p (YlC lo) .n t (by kernel_rfl) (by kernel_rfl) fun x=>by kernel_rfl
def q55_L3_b:VCode:=
 (.seq (.seq (.reg [oM 16 7,oM 17 1,o 18 (.bin .gtr (t 16) (t 17)),oM 19 18,og 20 19 true (.mv (t 0)),og 21 19 true (.mv (t 7)),og 22 19 true (.iad 1 (t 20) (t 21)),og 23 19 true (.load false 1 (t 22)),og 24 19 true (.mv (t 0)),og 25 19 true (.mv (t 7)),og 26 19 true (.bin .sub (t 25) (k 1)),og 27 19 true (.iad 1 (t 24) (t 26)),og 28 19 true (.load false 1 (t 27)),og 29 19 true (.call 317 [(t 23),(t 28)]),o 30 (.pick (t 19) (t 29) (kb false))])
 (.cond (t 30) .skip
 (.exit 2)))
 (.seq (.blk 3 (.reg [oM 33 0,oM 34 7,oM 35 0,oM 36 7,o 37 (.bin .sub (t 36) (k 1)),oM 38 0,oM 39 7,o 40 (.bin .sub (t 39) (k 1)),o 41 (.iad 1 (t 38) (t 40)),oL 42 41,oM 43 0,oM 44 7,o 45 (.iad 1 (t 43) (t 44)),oL 46 45,o 47 (.iad 1 (t 33) (t 34)),on (.store 1 (t 47) (t 42)),o 48 (.iad 1 (t 35) (t 37)),on (.store 1 (t 48) (t 46))]))
 (.reg [oM 31 7,o 32 (.bin .sub (t 31) (k 1)),oM 7 32])))
def YlD(lo:Lo):Int×Int×Int×Int×Zt4->Option ((Int×Int×Int×Int×Zt4)⊕ ((Int×Int×Int×Zt4))):=fun x=>match x with
  | (a1,b2,i6,j7,data0)=>bif(decide (a1<j7))then(chk (0<=j7/\j7< (data0.length:Int)) (chk (0<=(YFg .i64 (j7-(1:Int)))/\ (YFg .i64 (j7-(1:Int)))< (data0.length:Int)) (YEV (q54 lo (data0.getD j7.toNat (YFf #[])) (data0.getD ((YFg .i64 (j7-(1:Int))).toNat) (YFf #[]))) fun y175=>bif y175 then(chk (0<=(YFg .i64 (j7-(1:Int)))/\ (YFg .i64 (j7-(1:Int)))< (data0.length:Int)) (chk (0<=j7/\j7< (data0.length:Int)) (chk (0<=j7/\j7< (data0.length:Int)) (chk (0<=(YFg .i64 (j7-(1:Int)))/\ (YFg .i64 (j7-(1:Int)))< ((data0.set j7.toNat (data0.getD ((YFg .i64 (j7-(1:Int))).toNat) (YFf #[]))).length:Int)) (some (.inl (a1,b2,i6,(YFg .i64 (j7-(1:Int))),((data0.set j7.toNat (data0.getD ((YFg .i64 (j7-(1:Int))).toNat) (YFf #[]))).set ((YFg .i64 (j7-(1:Int))).toNat) (data0.getD j7.toNat (YFf #[]))))))))))else(some (.inr (a1,b2,i6,data0))))))else(some (.inr (a1,b2,i6,data0)))
def YlE(lo:Lo):Int×Int×Int×Int×Zt4->Option ((Int×Int×Int×Zt4)):=lo.run (YlD lo)
def Yu6(lo:Lo):LpE:=⟨3,[],⟨[0,1,2,6,7],[.ref 0,.i .i64,.i .i64,.i .i64,.i .i64],[.sq (cs [.s])],(cs [I,I,I,I,.l (cs [.s])])⟩,[⟨.exit 2,⟨[0,1,2,6],[.ref 0,.i .i64,.i .i64,.i .i64],[.sq (cs [.s])],Zc42⟩⟩],YlE lo⟩
def YlF(lo:Lo):LL:=(Yu6 lo,.loop q55_L3_b.er)::[]
theorem Yu7(lo:Lo):Lk lo pf (fs55 lo) 1 (YlF lo):=.l .n (YlD lo) rfl (by kernel_rfl) fun x=>by kernel_rfl
def q55_L1_b:VCode:=
 (.seq (.seq (.reg [oM 10 6,oM 11 2,o 12 (.bin .lss (t 10) (t 11))])
 (.cond (t 12) .skip
 (.exit 0)))
 (.seq (.blk 1 (.seq (.reg [oM 15 6,oM 7 15])
 (.blk 2 (.loop 3 q55_L3_b))))
 (.reg [oM 13 6,o 14 (.bin .add (t 13) (k 1)),oM 6 14])))
def YlG(lo:Lo):Int×Int×Int×Zt4->Option ((Int×Int×Int×Zt4)⊕ ((Zt4))):=fun x=>match x with
  | (a1,b2,i6,data0)=>bif(decide (i6<b2))then(YEV (YlE lo (a1,b2,i6,i6,data0)) fun y176=>some (.inl (y176.1,y176.2.1,(YFg .i64 (y176.2.2.1+(1:Int))),y176.2.2.2)))else(some (.inr data0))
def YlH(lo:Lo):Int×Int×Int×Zt4->Option ((Zt4)):=lo.run (YlG lo)
def Yu8(lo:Lo):LpE:=⟨1,[],⟨[0,1,2,6],[.ref 0,.i .i64,.i .i64,.i .i64],[.sq (cs [.s])],Zc42⟩,[⟨.exit 0,⟨[],[],[.sq (cs [.s])],Zc27⟩⟩],YlH lo⟩
def Yu9(lo:Lo):LL:=(Yu8 lo,.loop q55_L1_b.er)::YlF lo
theorem Yva(lo:Lo):Lk lo pf (fs55 lo) 1 (Yu9 lo):=.l (Yu7 lo) (YlG lo) rfl (by kernel_rfl) fun x=>by kernel_rfl
def q55(lo:Lo)(a1:Int)(b2:Int)(data0:List ByteArray):Option (Zt4):=
  YEV (YlH lo (a1,b2,(YFg .i64 (a1+(1:Int))),data0)) fun y177=>some y177
def Yvb:VFn:=⟨true,49,[],
 (.seq (.reg [oM 8 1,o 9 (.bin .add (t 8) (k 1)),oM 6 9])
 (.blk 0 (.loop 1 q55_L1_b)))⟩
def YlI(lo:Lo):FnE:=⟨311,false,⟨[0,1,2],[.ref 0,.i .i64,.i .i64],[.sq (cs [.s])],(cs [I,I,.l (cs [.s])])⟩,.tp [],[.sq (cs [.s])],Zc27,(fun x=>q55 lo x.1 x.2.1 x.2.2:Int×Int×Zt4->Option (Zt4))⟩
def fs56(lo:Lo):List FnE:=YlI lo::fs55 lo
theorem Yvc{P:Program}{fm:FM}{lo:Lo}(h:GZ P fm fs55 lo)(t:Ti P fm 311 Yvb):GZ P fm fs56 lo:=
  h.i (YlI lo) (Yva lo) t (by kernel_rfl) (by kernel_rfl) fun x=>by kernel_rfl
def q56(lo:Lo)(x0:Int)(x1:Int)(x2:List ByteArray):Option (Zt4):=none
def YlJ(lo:Lo):FnE:=⟨312,false,⟨[0,1,2],[.ref 0,.i .i64,.i .i64],[.sq (cs [.s])],(cs [I,I,.l (cs [.s])])⟩,.tp [],[.sq (cs [.s])],Zc27,(fun x=>q56 lo x.1 x.2.1 x.2.2:Int×Int×Zt4->Option (Zt4))⟩
def fs57(lo:Lo):List FnE:=YlJ lo::fs56 lo
theorem Yvd{P:Program}{fm:FM}{lo:Lo}(h:GZ P fm fs56 lo)(hN:True):GZ P fm fs57 lo:=
  ⟨h.1,h.2,YbE h.S (YlJ lo) (fun _=>rfl)⟩
def q57(lo:Lo)(x0:Int)(x1:Int)(x2:List ByteArray):Option (Zt4):=none
def YlK(lo:Lo):FnE:=⟨313,false,⟨[0,1,2],[.ref 0,.i .i64,.i .i64],[.sq (cs [.s])],(cs [I,I,.l (cs [.s])])⟩,.tp [],[.sq (cs [.s])],Zc27,(fun x=>q57 lo x.1 x.2.1 x.2.2:Int×Int×Zt4->Option (Zt4))⟩
def fs58(lo:Lo):List FnE:=YlK lo::fs57 lo
theorem Yve{P:Program}{fm:FM}{lo:Lo}(h:GZ P fm fs57 lo)(hN:True):GZ P fm fs58 lo:=
  ⟨h.1,h.2,YbE h.S (YlK lo) (fun _=>rfl)⟩
def q58(lo:Lo)(x0:List ByteArray)(x1:Int)(x2:Int):Option (Int×Int):=none
def YlL(lo:Lo):FnE:=⟨314,true,⟨[0,1,2],[.l (cs [.s]),.i .i64,.i .i64],[],(cs [.l (cs [.s]),I,I])⟩,.tp [.i .i64,.i .i64],[],(cs [I,I]),(fun x=>q58 lo x.1 x.2.1 x.2.2:Zt4×Int×Int->Option (Int×Int))⟩
def fs59(lo:Lo):List FnE:=YlL lo::fs58 lo
theorem Yvf{P:Program}{fm:FM}{lo:Lo}(h:GZ P fm fs58 lo)(hN:True):GZ P fm fs59 lo:=
  ⟨h.1,h.2,YbE h.S (YlL lo) (fun _=>rfl)⟩
def q59(lo:Lo)(x0:Int)(x1:Int)(x2:List ByteArray):Option (Zt4):=none
def YlM(lo:Lo):FnE:=⟨315,false,⟨[0,1,2],[.ref 0,.i .i64,.i .i64],[.sq (cs [.s])],(cs [I,I,.l (cs [.s])])⟩,.tp [],[.sq (cs [.s])],Zc27,(fun x=>q59 lo x.1 x.2.1 x.2.2:Int×Int×Zt4->Option (Zt4))⟩
def fs60(lo:Lo):List FnE:=YlM lo::fs59 lo
theorem Yvg{P:Program}{fm:FM}{lo:Lo}(h:GZ P fm fs59 lo)(hN:True):GZ P fm fs60 lo:=
  ⟨h.1,h.2,YbE h.S (YlM lo) (fun _=>rfl)⟩
def q60(lo:Lo)(x0:Int)(x1:Int)(x2:List ByteArray):Option (Bool×Zt4):=none
def YlN(lo:Lo):FnE:=⟨316,false,⟨[0,1,2],[.ref 0,.i .i64,.i .i64],[.sq (cs [.s])],(cs [I,I,.l (cs [.s])])⟩,.b,[.sq (cs [.s])],(cs [.b,.l (cs [.s])]),(fun x=>q60 lo x.1 x.2.1 x.2.2:Int×Int×Zt4->Option (Bool×Zt4))⟩
def fs61(lo:Lo):List FnE:=YlN lo::fs60 lo
theorem Yvh{P:Program}{fm:FM}{lo:Lo}(h:GZ P fm fs60 lo)(hN:True):GZ P fm fs61 lo:=
  ⟨h.1,h.2,YbE h.S (YlN lo) (fun _=>rfl)⟩
def q61(lo:Lo)(x0:Int)(x1:Int)(x2:Int)(x3:List ByteArray):Option (Int×Zt4):=none
def YlO(lo:Lo):FnE:=⟨318,false,⟨[0,1,2,3],[.ref 0,.i .i64,.i .i64,.i .i64],[.sq (cs [.s])],Zc42⟩,.i .i64,[.sq (cs [.s])],(cs [I,.l (cs [.s])]),(fun x=>q61 lo x.1 x.2.1 x.2.2.1 x.2.2.2:Int×Int×Int×Zt4->Option (Int×Zt4))⟩
def fs62(lo:Lo):List FnE:=YlO lo::fs61 lo
theorem Yvi{P:Program}{fm:FM}{lo:Lo}(h:GZ P fm fs61 lo)(hN:True):GZ P fm fs62 lo:=
  ⟨h.1,h.2,YbE h.S (YlO lo) (fun _=>rfl)⟩
def q62(lo:Lo)(x0:Int)(x1:Int)(x2:Int)(x3:List ByteArray):Option (Int×Bool×Zt4):=none
def YlP(lo:Lo):FnE:=⟨319,false,⟨[0,1,2,3],[.ref 0,.i .i64,.i .i64,.i .i64],[.sq (cs [.s])],Zc42⟩,.tp [.i .i64,.b],[.sq (cs [.s])],(cs [I,.b,.l (cs [.s])]),(fun x=>q62 lo x.1 x.2.1 x.2.2.1 x.2.2.2:Int×Int×Int×Zt4->Option (Int×Bool×Zt4))⟩
def fs63(lo:Lo):List FnE:=YlP lo::fs62 lo
theorem Yvj{P:Program}{fm:FM}{lo:Lo}(h:GZ P fm fs62 lo)(hN:True):GZ P fm fs63 lo:=
  ⟨h.1,h.2,YbE h.S (YlP lo) (fun _=>rfl)⟩
end Go.Abs.G47
namespace Go.Abs.G47
open Go Go.Abs
set_option maxRecDepth 100000
set_option maxHeartbeats 1000000
def YcI(F:Int×Int×Int×Zt4->Option (Zt4)):FnE:=⟨301,false,⟨[0,1,2,3],[.ref 0,.i .i64,.i .i64,.i .i64],[.sq (cs [.s])],Zc42⟩,.tp [],[.sq (cs [.s])],Zc27,F⟩
def q63_J20_b:VCode:=
 (.seq (.seq (.reg [oM 73 1,o 74 (.bin .gtr (t 73) (k 0)),oM 75 74,og 76 75 true (.mv (t 0)),og 77 75 true (.mv (t 1)),og 78 75 true (.bin .sub (t 77) (k 1)),og 79 75 true (.iad 1 (t 76) (t 78)),og 80 75 true (.load false 1 (t 79)),og 81 75 true (.mv (t 0)),og 82 75 true (.mv (t 11)),og 83 75 true (.iad 1 (t 81) (t 82)),og 84 75 true (.load false 1 (t 83)),og 85 75 true (.call 317 [(t 80),(t 84)]),og 86 75 true (.not (t 85)),o 87 (.pick (t 75) (t 86) (kb false))])
 (.cond (t 87) (.seq (.reg [oM 88 0,oM 89 1,oM 90 2,oM 91 11,o 92 (.call 318 [(t 88),(t 89),(t 90),(t 91)]),oM 13 92])
 (.seq (.reg [oM 93 13,oM 1 93])
 (.exit 1)))
 .skip))
 (.seq (.reg [oM 95 0,oM 96 1,oM 97 2,oM 98 11,o 99 (.call 319 [(t 95),(t 96),(t 97),(t 98)]),oM 94 99,oE 100 94 0,oE 101 94 1,oM 14 100,oM 15 101])
 (.seq (.reg [oM 102 15,oM 9 102])
 (.seq (.reg [oM 103 14,oM 104 1,o 105 (.bin .sub (t 103) (t 104)),oM 106 2,oM 107 14,o 108 (.bin .sub (t 106) (t 107)),oM 16 105,oM 17 108])
 (.seq (.reg [oM 109 10,o 110 (.bin .quo (t 109) (k 8)),oM 18 110])
 (.seq (.reg [oM 111 16,oM 112 17,o 113 (.bin .lss (t 111) (t 112))])
 (.cond (t 113) (.seq (.reg [oM 114 16,oM 115 18,o 116 (.bin .geq (t 114) (t 115)),oM 8 116])
 (.seq (.reg [oM 117 0,oM 118 1,oM 119 14,oM 120 3,o 121 (.call 301 [(t 117),(t 118),(t 119),(t 120)])])
 (.reg [oM 122 14,o 123 (.bin .add (t 122) (k 1)),oM 1 123])))
 (.seq (.reg [oM 124 17,oM 125 18,o 126 (.bin .geq (t 124) (t 125)),oM 8 126])
 (.seq (.reg [oM 127 0,oM 128 14,o 129 (.bin .add (t 128) (k 1)),oM 130 2,oM 131 3,o 132 (.call 301 [(t 127),(t 129),(t 130),(t 131)])])
 (.reg [oM 133 14,oM 2 133]))))))))))
def YcJ(lo:Lo)(rec:Int×Int×Int×Zt4->Option (Zt4)):Int×Int×Int×Bool×Bool×Int×Int×Zt4->Option (Zp74⊕Zp74):=fun x=>match x with
  | (a1,b2,limit3,wasBalanced8,wasPartitioned9,length10,pivot11,data0)=>bif(decide ((0:Int)<a1))then(chk (0<=(YFg .i64 (a1-(1:Int)))/\ (YFg .i64 (a1-(1:Int)))< (data0.length:Int)) (chk (0<=pivot11/\pivot11< (data0.length:Int)) (YEV (q54 lo (data0.getD ((YFg .i64 (a1-(1:Int))).toNat) (YFf #[])) (data0.getD pivot11.toNat (YFf #[]))) fun y184=>bif(!y184)then(YEV (q61 lo a1 b2 pivot11 data0) fun y185=>chk (y185.2.length=data0.length) (some (.inl (y185.1,b2,limit3,wasBalanced8,wasPartitioned9,y185.2))))else(YEV (q62 lo a1 b2 pivot11 data0) fun y186=>chk (y186.2.2.length=data0.length) (chk ((8:Int)≠0) (bif(decide ((YFg .i64 (y186.1-a1))< (YFg .i64 (b2-y186.1))))then(YEV (rec (a1,y186.1,limit3,y186.2.2)) fun y187=>chk (y187.length=y186.2.2.length) (some (.inr ((YFg .i64 (y186.1+(1:Int))),b2,limit3,(decide ((YFg .i64 (length10.tdiv (8:Int)))<=(YFg .i64 (y186.1-a1)))),y186.2.1,y187))))else(YEV (rec ((YFg .i64 (y186.1+(1:Int))),b2,limit3,y186.2.2)) fun y188=>chk (y188.length=y186.2.2.length) (some (.inr (a1,y186.1,limit3,(decide ((YFg .i64 (length10.tdiv (8:Int)))<=(YFg .i64 (b2-y186.1)))),y186.2.1,y188))))))))))else(YEV (q62 lo a1 b2 pivot11 data0) fun y189=>chk (y189.2.2.length=data0.length) (chk ((8:Int)≠0) (bif(decide ((YFg .i64 (y189.1-a1))< (YFg .i64 (b2-y189.1))))then(YEV (rec (a1,y189.1,limit3,y189.2.2)) fun y190=>chk (y190.length=y189.2.2.length) (some (.inr ((YFg .i64 (y189.1+(1:Int))),b2,limit3,(decide ((YFg .i64 (length10.tdiv (8:Int)))<=(YFg .i64 (y189.1-a1)))),y189.2.1,y190))))else(YEV (rec ((YFg .i64 (y189.1+(1:Int))),b2,limit3,y189.2.2)) fun y191=>chk (y191.length=y189.2.2.length) (some (.inr (a1,y189.1,limit3,(decide ((YFg .i64 (length10.tdiv (8:Int)))<=(YFg .i64 (b2-y189.1)))),y189.2.1,y191)))))))
def Yvk(lo:Lo)(rec:Int×Int×Int×Zt4->Option (Zt4)):LpE:=⟨20,[],⟨[0,1,2,3,8,9,10,11],[.ref 0,.i .i64,.i .i64,.i .i64,.b,.b,.i .i64,.i .i64],[.sq (cs [.s])],(cs [I,I,I,.b,.b,I,I,.l (cs [.s])])⟩,[⟨.exit 1,⟨[0,1,2,3,8,9],[.ref 0,.i .i64,.i .i64,.i .i64,.b,.b],[.sq (cs [.s])],Zc28⟩⟩,⟨.nor,⟨[0,1,2,3,8,9],[.ref 0,.i .i64,.i .i64,.i .i64,.b,.b],[.sq (cs [.s])],Zc28⟩⟩],YcJ lo rec⟩
def YlQ(lo:Lo)(rec:Int×Int×Int×Zt4->Option (Zt4)):LL:=(Yvk lo rec,q63_J20_b.er)::[]
theorem Yvl(lo:Lo)(rec:Int×Int×Int×Zt4->Option (Zt4)):Lk lo pf (YcI rec::fs63 lo) 1 (YlQ lo rec):=.j .n (by kernel_rfl) fun x=>by kernel_rfl
def q63_J25_b:VCode:=
 (.seq (.seq (.reg [oM 61 8,oM 62 61,og 63 62 true (.mv (t 9)),o 64 (.pick (t 62) (t 63) (kb false)),oM 65 64,og 66 65 true (.mv (t 12)),og 67 65 true (.bin .eql (t 66) (k 1)),o 68 (.pick (t 65) (t 67) (kb false))])
 (.cond (t 68) (.seq (.reg [oM 69 0,oM 70 1,oM 71 2,o 72 (.call 316 [(t 69),(t 70),(t 71)])])
 (.cond (t 72) .ret
 .skip))
 .skip))
 (.jn 20 q63_J20_b))
def YfT(lo:Lo)(rec:Int×Int×Int×Zt4->Option (Zt4)):Int×Int×Int×Bool×Bool×Int×Int×Int×Zt4->Option ((Zt4)⊕Zp74⊕Zp74):=fun x=>match x with
  | (a1,b2,limit3,wasBalanced8,wasPartitioned9,length10,pivot11,hint12,data0)=>bif wasBalanced8 then(bif wasPartitioned9 then(bif(decide (hint12=(1:Int)))then(YEV (q60 lo a1 b2 data0) fun y183=>chk (y183.2.length=data0.length) (bif y183.1 then(some (.inl y183.2))else(YEV (YcJ lo rec (a1,b2,limit3,wasBalanced8,wasPartitioned9,length10,pivot11,y183.2)) fun y192=>alt2 y192 (fun y193=>some (.inr (.inl (y193.1,y193.2.1,y193.2.2.1,y193.2.2.2.1,y193.2.2.2.2.1,y193.2.2.2.2.2)))) (fun y194=>some (.inr (.inr (y194.1,y194.2.1,y194.2.2.1,y194.2.2.2.1,y194.2.2.2.2.1,y194.2.2.2.2.2)))))))else(YEV (YcJ lo rec (a1,b2,limit3,wasBalanced8,wasPartitioned9,length10,pivot11,data0)) fun y195=>alt2 y195 (fun y196=>some (.inr (.inl (y196.1,y196.2.1,y196.2.2.1,y196.2.2.2.1,y196.2.2.2.2.1,y196.2.2.2.2.2)))) (fun y197=>some (.inr (.inr (y197.1,y197.2.1,y197.2.2.1,y197.2.2.2.1,y197.2.2.2.2.1,y197.2.2.2.2.2))))))else(YEV (YcJ lo rec (a1,b2,limit3,wasBalanced8,wasPartitioned9,length10,pivot11,data0)) fun y198=>alt2 y198 (fun y199=>some (.inr (.inl (y199.1,y199.2.1,y199.2.2.1,y199.2.2.2.1,y199.2.2.2.2.1,y199.2.2.2.2.2)))) (fun y200=>some (.inr (.inr (y200.1,y200.2.1,y200.2.2.1,y200.2.2.2.1,y200.2.2.2.2.1,y200.2.2.2.2.2))))))else(YEV (YcJ lo rec (a1,b2,limit3,wasBalanced8,wasPartitioned9,length10,pivot11,data0)) fun y201=>alt2 y201 (fun y202=>some (.inr (.inl (y202.1,y202.2.1,y202.2.2.1,y202.2.2.2.1,y202.2.2.2.2.1,y202.2.2.2.2.2)))) (fun y203=>some (.inr (.inr (y203.1,y203.2.1,y203.2.2.1,y203.2.2.2.1,y203.2.2.2.2.1,y203.2.2.2.2.2)))))
def Yvm(lo:Lo)(rec:Int×Int×Int×Zt4->Option (Zt4)):LpE:=⟨25,[],⟨[0,1,2,3,8,9,10,11,12],[.ref 0,.i .i64,.i .i64,.i .i64,.b,.b,.i .i64,.i .i64,.i .i64],[.sq (cs [.s])],(cs [I,I,I,.b,.b,I,I,I,.l (cs [.s])])⟩,[⟨.ret,⟨[],[],[.sq (cs [.s])],Zc27⟩⟩,⟨.exit 1,⟨[0,1,2,3,8,9],[.ref 0,.i .i64,.i .i64,.i .i64,.b,.b],[.sq (cs [.s])],Zc28⟩⟩,⟨.nor,⟨[0,1,2,3,8,9],[.ref 0,.i .i64,.i .i64,.i .i64,.b,.b],[.sq (cs [.s])],Zc28⟩⟩],YfT lo rec⟩
def YlR(lo:Lo)(rec:Int×Int×Int×Zt4->Option (Zt4)):LL:=(Yvm lo rec,q63_J25_b.er)::YlQ lo rec
theorem Yvn(lo:Lo)(rec:Int×Int×Int×Zt4->Option (Zt4)):Lk lo pf (YcI rec::fs63 lo) 1 (YlR lo rec):=.j (Yvl lo rec) (by kernel_rfl) fun x=>by kernel_rfl
def q63_J30_b:VCode:=
 (.seq (.reg [oM 43 0,oM 44 1,oM 45 2,o 46 (.call 314 [(t 43),(t 44),(t 45)]),oM 42 46,oE 47 42 0,oE 48 42 1,oM 11 47,oM 12 48])
 (.seq (.seq (.reg [oM 49 12,o 50 (.bin .eql (t 49) (k 2))])
 (.cond (t 50) (.seq (.reg [oM 51 0,oM 52 1,oM 53 2,o 54 (.call 315 [(t 51),(t 52),(t 53)])])
 (.seq (.reg [oM 55 2,o 56 (.bin .sub (t 55) (k 1)),oM 57 11,oM 58 1,o 59 (.bin .sub (t 57) (t 58)),o 60 (.bin .sub (t 56) (t 59)),oM 11 60])
 (.reg [o 12 (.mv (k 1))])))
 .skip))
 (.jn 25 q63_J25_b)))
def YfU(lo:Lo)(rec:Int×Int×Int×Zt4->Option (Zt4)):Int×Int×Int×Bool×Bool×Int×Zt4->Option ((Zt4)⊕Zp74⊕Zp74):=fun x=>match x with
  | (a1,b2,limit3,wasBalanced8,wasPartitioned9,length10,data0)=>YEV (q58 lo data0 a1 b2) fun y181=>bif(decide (y181.2=(2:Int)))then(YEV (q59 lo a1 b2 data0) fun y182=>chk (y182.length=data0.length) (YEV (YfT lo rec (a1,b2,limit3,wasBalanced8,wasPartitioned9,length10,(YFg .i64 ((YFg .i64 (b2-(1:Int)))-(YFg .i64 (y181.1-a1)))),(1:Int),y182)) fun y204=>alt2 y204 (fun y205=>some (.inl y205)) (fun y206=>alt2 y206 (fun y207=>some (.inr (.inl (y207.1,y207.2.1,y207.2.2.1,y207.2.2.2.1,y207.2.2.2.2.1,y207.2.2.2.2.2)))) (fun y208=>some (.inr (.inr (y208.1,y208.2.1,y208.2.2.1,y208.2.2.2.1,y208.2.2.2.2.1,y208.2.2.2.2.2)))))))else(YEV (YfT lo rec (a1,b2,limit3,wasBalanced8,wasPartitioned9,length10,y181.1,y181.2,data0)) fun y209=>alt2 y209 (fun y210=>some (.inl y210)) (fun y211=>alt2 y211 (fun y212=>some (.inr (.inl (y212.1,y212.2.1,y212.2.2.1,y212.2.2.2.1,y212.2.2.2.2.1,y212.2.2.2.2.2)))) (fun y213=>some (.inr (.inr (y213.1,y213.2.1,y213.2.2.1,y213.2.2.2.1,y213.2.2.2.2.1,y213.2.2.2.2.2))))))
def Yvo(lo:Lo)(rec:Int×Int×Int×Zt4->Option (Zt4)):LpE:=⟨30,[],⟨[0,1,2,3,8,9,10],[.ref 0,.i .i64,.i .i64,.i .i64,.b,.b,.i .i64],[.sq (cs [.s])],(cs [I,I,I,.b,.b,I,.l (cs [.s])])⟩,[⟨.ret,⟨[],[],[.sq (cs [.s])],Zc27⟩⟩,⟨.exit 1,⟨[0,1,2,3,8,9],[.ref 0,.i .i64,.i .i64,.i .i64,.b,.b],[.sq (cs [.s])],Zc28⟩⟩,⟨.nor,⟨[0,1,2,3,8,9],[.ref 0,.i .i64,.i .i64,.i .i64,.b,.b],[.sq (cs [.s])],Zc28⟩⟩],YfU lo rec⟩
def YlS(lo:Lo)(rec:Int×Int×Int×Zt4->Option (Zt4)):LL:=(Yvo lo rec,q63_J30_b.er)::YlR lo rec
theorem Yvp(lo:Lo)(rec:Int×Int×Int×Zt4->Option (Zt4)):Lk lo pf (YcI rec::fs63 lo) 1 (YlS lo rec):=.j (Yvn lo rec) (by kernel_rfl) fun x=>by kernel_rfl
def q63_L1_b:VCode:=
 (.blk 1 (.seq (.reg [oM 19 2,oM 20 1,o 21 (.bin .sub (t 19) (t 20)),oM 10 21])
 (.seq (.seq (.reg [oM 22 10,o 23 (.bin .leq (t 22) (k 12))])
 (.cond (t 23) (.seq (.reg [oM 24 0,oM 25 1,oM 26 2,o 27 (.call 311 [(t 24),(t 25),(t 26)])])
 .ret)
 .skip))
 (.seq (.seq (.reg [oM 28 3,o 29 (.bin .eql (t 28) (k 0))])
 (.cond (t 29) (.seq (.reg [oM 30 0,oM 31 1,oM 32 2,o 33 (.call 312 [(t 30),(t 31),(t 32)])])
 .ret)
 .skip))
 (.seq (.seq (.reg [oM 34 8,o 35 (.not (t 34))])
 (.cond (t 35) (.seq (.reg [oM 36 0,oM 37 1,oM 38 2,o 39 (.call 313 [(t 36),(t 37),(t 38)])])
 (.reg [oM 40 3,o 41 (.bin .sub (t 40) (k 1)),oM 3 41]))
 .skip))
 (.jn 30 q63_J30_b))))))
def YlT(lo:Lo)(rec:Int×Int×Int×Zt4->Option (Zt4)):Zp74->Option (Zp74⊕ ((Zt4))):=fun x=>match x with
  | (a1,b2,limit3,wasBalanced8,wasPartitioned9,data0)=>bif(decide ((YFg .i64 (b2-a1))<=(12:Int)))then(YEV (q55 lo a1 b2 data0) fun y178=>chk (y178.length=data0.length) (some (.inr y178)))else(bif(decide (limit3=(0:Int)))then(YEV (q56 lo a1 b2 data0) fun y179=>chk (y179.length=data0.length) (some (.inr y179)))else(bif(!wasBalanced8)then(YEV (q57 lo a1 b2 data0) fun y180=>chk (y180.length=data0.length) (YEV (YfU lo rec (a1,b2,(YFg .i64 (limit3-(1:Int))),wasBalanced8,wasPartitioned9,(YFg .i64 (b2-a1)),y180)) fun y214=>alt2 y214 (fun y215=>some (.inr y215)) (fun y216=>alt2 y216 (fun y217=>some (.inl (y217.1,y217.2.1,y217.2.2.1,y217.2.2.2.1,y217.2.2.2.2.1,y217.2.2.2.2.2))) (fun y218=>some (.inl (y218.1,y218.2.1,y218.2.2.1,y218.2.2.2.1,y218.2.2.2.2.1,y218.2.2.2.2.2))))))else(YEV (YfU lo rec (a1,b2,limit3,wasBalanced8,wasPartitioned9,(YFg .i64 (b2-a1)),data0)) fun y219=>alt2 y219 (fun y220=>some (.inr y220)) (fun y221=>alt2 y221 (fun y222=>some (.inl (y222.1,y222.2.1,y222.2.2.1,y222.2.2.2.1,y222.2.2.2.2.1,y222.2.2.2.2.2))) (fun y223=>some (.inl (y223.1,y223.2.1,y223.2.2.1,y223.2.2.2.1,y223.2.2.2.2.1,y223.2.2.2.2.2)))))))
def YlU(lo:Lo)(rec:Int×Int×Int×Zt4->Option (Zt4)):Zp74->Option ((Zt4)):=lo.run (YlT lo rec)
def Yvq(lo:Lo)(rec:Int×Int×Int×Zt4->Option (Zt4)):LpE:=⟨1,[],⟨[0,1,2,3,8,9],[.ref 0,.i .i64,.i .i64,.i .i64,.b,.b],[.sq (cs [.s])],Zc28⟩,[⟨.ret,⟨[],[],[.sq (cs [.s])],Zc27⟩⟩],YlU lo rec⟩
def YlV(lo:Lo)(rec:Int×Int×Int×Zt4->Option (Zt4)):LL:=(Yvq lo rec,.loop q63_L1_b.er)::YlS lo rec
theorem Yvr(lo:Lo)(rec:Int×Int×Int×Zt4->Option (Zt4)):Lk lo pf (YcI rec::fs63 lo) 1 (YlV lo rec):=.l (Yvp lo rec) (YlT lo rec) rfl (by kernel_rfl) fun x=>by kernel_rfl
def Yvs(lo:Lo)(rec:Int×Int×Int×Zt4->Option (Zt4))(a1:Int)(b2:Int)(limit3:Int)(data0:List ByteArray):Option (Zt4):=
  YEV (YlU lo rec (a1,b2,limit3,true,true,data0)) fun y224=>some y224
def YfV(lo:Lo):Nat->Int×Int×Int×Zt4->Option (Zt4)
  |0,_=>none
  |n+1,x=>Yvs lo (YfV lo n) x.1 x.2.1 x.2.2.1 x.2.2.2
def q63(lo:Lo)(a1:Int)(b2:Int)(limit3:Int)(data0:List ByteArray):Option (Zt4):=lo.run (fixS (YfV lo)) (0,(a1,b2,limit3,data0))
def Yvt:VFn:=⟨true,134,[],
 (.seq (.reg [o 8 (.mv (kb true))])
 (.seq (.reg [o 9 (.mv (kb true))])
 (.blk 0 (.loop 1 q63_L1_b))))⟩
def YlW(lo:Lo):FnE:=YcI (fun x=>q63 lo x.1 x.2.1 x.2.2.1 x.2.2.2)
def fs64(lo:Lo):List FnE:=YlW lo::fs63 lo
theorem Yvu{P:Program}{fm:FM}{lo:Lo}(h:GZ P fm fs63 lo)(t:Ti P fm 301 Yvt):GZ P fm fs64 lo:=
  h.ir (YlW lo) (YfV lo) (ls:=fun rec=>YlV lo rec) (fun rec=>(Yvr lo rec)) t (by kernel_rfl) (fun _=>rfl) rfl (fun _=>by kernel_rfl) fun n x=>by kernel_rfl
def q64(lo:Lo)(x0:List ByteArray):Option (Zt4):=
  YEV (q52 lo (YFg .u64 (x0.length:Int))) fun y172=>YEV (q63 lo (0:Int) (x0.length:Int) y172 x0) fun y225=>chk (y225.length=x0.length) (some y225)
def Yvv:VFn:=⟨true,11,[],
 (.seq (.reg [oM 3 0,oN 4 3,oM 2 4])
 (.reg [oM 5 0,oM 6 2,oM 7 2,o 8 (.conv .u64 (t 7)),o 9 (.call 163 [(t 8)]),o 10 (.call 301 [(t 5),(k 0),(t 6),(t 9)])]))⟩
def YlX(lo:Lo):FnE:=⟨271,false,⟨[0],[.ref 0],[.sq (cs [.s])],Zc27⟩,.tp [],[.sq (cs [.s])],Zc27,(fun x=>q64 lo x:Zt4->Option (Zt4))⟩
def fs65(lo:Lo):List FnE:=YlX lo::fs64 lo
theorem Yvw{P:Program}{fm:FM}{lo:Lo}(h:GZ P fm fs64 lo)(t:Ti P fm 271 Yvv):GZ P fm fs65 lo:=
  h.i (YlX lo) .n t (by kernel_rfl) (by kernel_rfl) fun x=>by kernel_rfl
def q65(lo:Lo)(l:List ByteArray):Option Zt4:=YBJ (q64 lo) l
def Yvx(lo:Lo):FnE:=vsortE 271 (.cons (.s) .nil) (q65 lo)
def fs66(lo:Lo):List FnE:=Yvx lo::fs65 lo
theorem Yvy{P:Program}{fm:FM}{lo:Lo}(h:GZ P fm fs65 lo)(hG: ∀f,fm f=271->YzW P f=true/\ ∃ρ:Go.Shelf.Ren,Go.Proofs.Lays.n190 P ρ/\ρ.f 190=f):GZ P fm fs66 lo:=
  ⟨h.1,h.2,YrT h.S rfl (F0:=q64 lo) (YEg ..) hG⟩
def q66_L3_b:VCode:=
 (.seq (.reg [o 46 (.bin .lss (t 45) (t 44))])
 (.seq (.cond (t 46) .skip
 (.exit 2))
 (.seq (.blk 3 (.seq (.reg [o 47 (.iad 1 (t 43) (t 45)),oL 48 47,oM 13 48])
 (.reg [oM 49 11,oL 50 7,oM 51 13,o 52 (.mget none (.l Zc10) (cs []) false false (t 50) (t 51)),o 53 (.bsl Zc31 1 [(0,(t 52))]),o 54 (.app Zc31 0 (t 49) (t 53)),oM 11 54])))
 (.reg [o 55 (.bin .add (t 45) (k 1)),oM 45 55]))))
def YlY(lo:Lo):Zp64->Option (Zp64⊕ (((List (Zt7))))):=fun x=>match x with
  | (v44,v45,out11,v43,h3_0,h3_1,h3_2)=>bif(decide (v45<v44))then(chk (0<=v45/\v45< (v43.length:Int)) (chk (out11.length+([(mgt eqS (v43.getD v45.toNat (YFf #[])) h3_1 [])]).length<=maxEl) (some (.inl (v44,(YFg .i64 (v45+(1:Int))),(out11++([(mgt eqS (v43.getD v45.toNat (YFf #[])) h3_1 [])])),v43,h3_0,h3_1,h3_2)))))else(some (.inr out11))
def YlZ(lo:Lo):Zp64->Option (((List (Zt7)))):=lo.run (YlY lo)
def Yvz(lo:Lo):LpE:=⟨3,[(11,none,false)],⟨[7,11,43,44,45],[.ptr 0 0 0,.ref 1,.ref 2,.i .i64,.i .i64],[.st [.np 3],.sq Zc31,.sq (cs [.s]),.st [.i .i64,.l Zc14,.b]],(cs [I,I,.l Zc31,.l (cs [.s]),I,.l Zc14,.b])⟩,[⟨.exit 2,⟨[11],[.ref 0],[.sq Zc31],(cs [.l Zc31])⟩⟩],YlZ lo⟩
def Yl0(lo:Lo):LL:=(Yvz lo,.loop q66_L3_b.er)::[]
theorem YvA(lo:Lo):Lk lo pf (fs66 lo) 0 (Yl0 lo):=.l .n (YlY lo) rfl (by kernel_rfl) fun x=>by kernel_rfl
def Yl1:VCode:=
 (.reg [oL 31 7,o 32 (.mrng (t 31))])
def Yl2:VCode:=
 (.blk 1 (.seq (.reg [o 35 (.ment none (.l Zc10) (cs []) false (t 32)),oE 36 35 0,oM 10 36])
 (.reg [oM 37 9,oM 38 10,o 39 (.bsl (cs [.s]) 1 [(0,(t 38))]),o 40 (.app (cs [.s]) 0 (t 37) (t 39)),oM 9 40])))
def Yl3:VCode:=
 (.seq (.reg [oM 41 9,o 42 (.call 271 [(t 41)])])
 (.seq (.reg [o 11 (.mv (ke Zc31))])
 (.seq (.seq (.reg [oM 43 9,oN 44 43,o 45 (.mv (k 0))])
 (.blk 2 (.loop 3 q66_L3_b)))
 (.seq (.reg [oM 56 11,oM 4 56,o 5 (.mv (k 0))])
 (.fz [4,5] .ret)))))
def q66_J18_b:VCode:=.seq (.seq Yl1 (.blk 0 (.loop 12 (.seq (.reg [o 33 (.mnxt (t 32)),oE 34 33 0]) (YBv 34 0 Yl2))))) Yl3
def YvB:Sg:=⟨[7,9,32],[.ptr 0 0 0,.ref 1,.np 2],[.st [.np 3],.sq (cs [.s]),.st [.np 3,.i .i64,.i .i64,.l (cs [I]),.b],.st [.i .i64,.l Zc14,.b]],(cs [.l (cs [.s]),I,I,.l (cs [I]),.b,I,.l Zc14,.b])⟩
def Yl4(lo:Lo):(Zt4×Int×Zt11×Bool)->Option (Zt4×Int×Int× (List Int)×Bool×Int×Zt11×Bool):=fun x=>match x with
  | (keys9,h2_0,h2_1,h2_2)=>some (keys9,h2_0,h2_0,([]:List Int),false,h2_0,h2_1,h2_2)
def YdY:Zp60->ItP:=fun x=>match x with
  | (keys9,v32_0,v32_1,v32_2,v32_3,h3_0,h3_1,h3_2)=>(h3_1.map (fun e=>e.1),v32_2,h3_0,v32_0,v32_1)
def YcK(lo:Lo):Zp60->Int->Option (Zt4×Int×Int× (List Int)×Bool×Int×Zt11×Bool):=fun x b=>match x with
  | (keys9,v32_0,v32_1,v32_2,v32_3,h3_0,h3_1,h3_2)=>chk (v32_1=h3_0) (YEV (addI v32_2 b).getLast? fun y165=>YEV (mbf y165 h3_1) fun y166=>chk (keys9.length+[y166.1].length<=maxEl) (some ((keys9++[y166.1]),v32_0,v32_1,(addI v32_2 b),v32_3,h3_0,h3_1,h3_2)))
def YbX(lo:Lo):Zp60->Option (((List (Zt7))×Int)):=fun x=>match x with
  | (keys9,v32_0,v32_1,v32_2,v32_3,h3_0,h3_1,h3_2)=>YEV (q65 lo keys9) fun y226=>chk (y226.length=keys9.length) (YEV (YlZ lo ((y226.length:Int),(0:Int),[],y226,h3_0,h3_1,h3_2)) fun y227=>some (y227,(0:Int)))
noncomputable def YdZ(lo:Lo):(Zt4×Int×Zt11×Bool)->Option (((List (Zt7))×Int)):=fun x=>YEV (Yl4 lo x) (rngF YdY (YcK lo) (YbX lo))
noncomputable def Yd0(lo:Lo):LpE:=⟨18,[(9,none,false)],⟨[7,9],[.ptr 0 0 0,.ref 1],[.st [.np 2],.sq (cs [.s]),.st [.i .i64,.l Zc14,.b]],(cs [.l (cs [.s]),I,.l Zc14,.b])⟩,[⟨.ret,⟨[4,5],[.l Zc31,.i .i64],[],(cs [.l Zc31,I])⟩⟩],YdZ lo⟩
noncomputable def YvC(lo:Lo):LL:=(Yd0 lo,q66_J18_b.er)::Yl0 lo
theorem YvD(lo:Lo):Lk lo pf (fs66 lo) 0 (YvC lo):=
  .m (YvA lo) (it:=32) (nx:=33) (mo:=34) (out:=0) (own:=(Yd0 lo).own) (g0:=(Yd0 lo).g) (outs:=(Yd0 lo).outs) (g:=YvB) (pre:=Yl1) (bb:=Yl2) (rest:=Yl3) (p:=YdY) (t:=YcK lo) (r:=YbX lo) (u:=Yl4 lo) (by kernel_rfl) (fun x=>by kernel_rfl) (fun x b=>by kernel_rfl) (fun x=>by kernel_rfl) (fun x=>by kernel_rfl) rfl
noncomputable def q66(lo:Lo)(db0:List (ByteArray×Zt4×Zt15))(q1_0:List ByteArray)(q1_1:List (ByteArray×Zt5)):Option ((List (Zt7))×Int):=
  YEV (q40 lo db0 q1_0 q1_1) fun y105=>bif(!decide (y105=(0:Int)))then(some (([]:List (Zt7)),y105))else(YEV (q41 lo db0 q1_0 q1_1) fun y108=>YEV (q50 lo (0:Int) y108.1 y108.2.1 y108.2.2.1 y108.2.2.2.1 y108.2.2.2.2.1 y108.2.2.2.2.2.1 y108.2.2.2.2.2.2.1 y108.2.2.2.2.2.2.2 (0:Int) ([]:List (Int×ByteArray×Zt7)) false) fun y163=>chk (y163.2.2.2.1.length=y108.2.2.1.length) (bif(!y163.1)then(some (([]:List (Zt7)),(3:Int)))else(YEV (YdZ lo ([],y163.2.2.2.2.2.2.2.2.1,y163.2.2.2.2.2.2.2.2.2.1,y163.2.2.2.2.2.2.2.2.2.2.1)) fun y228=>some (y228.1,y228.2))))
def YvE:VFn:=⟨true,57,[.t 4,.t 5],
 (.seq (.reg [o 2 (.box (t 0)),o 3 (.box (t 1)),o 4 (.mv (ke Zc31)),o 5 (.mv (k 0))])
 (.seq (.seq (.reg [o 14 (.load true 1 (t 2)),o 15 (.load true 2 (t 3)),o 16 (.call 472 [(t 14),(t 15)]),oM 6 16])
 (.seq (.reg [oM 17 6,o 18 (.bin .neq (t 17) (k 0))])
 (.cond (t 18) (.seq (.reg [oM 19 6,o 4 (.mv (ke Zc31)),oM 5 19])
 (.fz [4,5] .ret))
 .skip)))
 (.seq (.reg [o 20 (.mkm none (.l Zc10) (cs []) false),o 7 (.alloc [.v (.map none)]),on (.store 1 (t 7) (t 20))])
 (.seq (.reg [o 21 (.load true 1 (t 2)),o 22 (.load true 2 (t 3)),o 23 (.call 512 [(t 21),(t 22)]),o 8 (.alloc [.nl]),on (.store 1 (t 8) (t 23))])
 (.seq (.reg [oL 24 8,o 25 (.mkf 513 [(t 8),(t 7)]),o 26 (.nilc (t 24)),oF 27 5 26,on (.store 1 (t 27) (t 25))])
 (.seq (.seq (.reg [oL 28 8,o 29 (.call 515 [(t 28),(k 0)]),o 30 (.not (t 29))])
 (.cond (t 30) (.seq (.reg [o 4 (.mv (ke Zc31)),o 5 (.mv (k 3))])
 (.fz [4,5] .ret))
 .skip))
 (.seq (.reg [o 9 (.mv (ke (cs [.s])))])
 (.jn 18 q66_J18_b))))))))⟩
noncomputable def Yl5(lo:Lo):FnE:=⟨476,true,⟨[0,1],[.ag [.l Zc3],.ag [.l (cs [.s]),.l Zc2]],[],(cs [.l Zc3,.l (cs [.s]),.l Zc2])⟩,.tp [.l Zc31,.i .i64],[],(cs [.l Zc31,I]),(fun x=>q66 lo x.1 x.2.1 x.2.2:Zt1×Zt4×Zt0->Option ((List (Zt7))×Int))⟩
noncomputable def fs67(lo:Lo):List FnE:=Yl5 lo::fs66 lo
theorem YvF{P:Program}{fm:FM}{lo:Lo}(h:GZ P fm fs66 lo)(t:Ti P fm 476 YvE):GZ P fm fs67 lo:=
  h.p (Yl5 lo) (YvD lo) t (by kernel_rfl) (by kernel_rfl) fun x=>by kernel_rfl
def q67_L3_b:VCode:=
 (.seq (.reg [o 31 (.bin .lss (t 30) (t 29))])
 (.seq (.cond (t 31) .skip
 (.exit 0))
 (.seq (.blk 1 (.seq (.reg [oM 32 30,o 33 (.iad 1 (t 28) (t 30)),oL 34 33,oM 10 32,oM 11 34])
 (.reg [oM 35 9,o 36 (.nilc (t 35)),oF 37 3 36,oL 38 37,oM 39 11,oM 40 2,oM 41 10,o 42 (.iad 3 (t 40) (t 41)),o 43 (.load true 3 (t 42)),on (.mput none I Zc36 true (t 38) (t 39) (t 43))])))
 (.reg [o 44 (.bin .add (t 30) (k 1)),oM 30 44]))))
def Yl6(lo:Lo):Zp53->Option (Zp53⊕ ((Zt4×Zt0×Zt1×Int×Zt6×Bool×Bool× (List Int)))):=fun x=>match x with
  | (answer2,v28,v29,v30,m9_0,m9_1,h1,h2_0,h2_1,h2_2,h2_3,h3)=>bif(decide (v30<v29))then(chk (0<=v30/\v30< (v28.length:Int)) (chk (0<=v30/\v30< (answer2.length:Int)) (some (.inl (answer2,v28,v29,(YFg .i64 (v30+(1:Int))),m9_0,m9_1,h1,(mck eqS h2_0 (v28.getD v30.toNat (YFf #[])) h2_1),(mpt eqS h2_0 (v28.getD v30.toNat (YFf #[])) (answer2.getD v30.toNat ((0:Int),(0:Int),(YFf #[]))) h2_1),h2_2,h2_3,h3)))))else(some (.inr (m9_0,m9_1,h1,h2_0,h2_1,h2_2,h2_3,h3)))
def Yl7(lo:Lo):Zp53->Option ((Zt4×Zt0×Zt1×Int×Zt6×Bool×Bool× (List Int))):=lo.run (Yl6 lo)
def YvG(lo:Lo):LpE:=⟨3,[(9,some 2,false),(9,some 4,false)],⟨[2,9,28,29,30],[.l Zc10,.ptr 0 0 0,.l (cs [.s]),.i .i64,.i .i64],[.st [.l (cs [.s]),.l Zc2,.ref 1,.np 2,.ref 3,.u],.sq Zc3,.st [.i .i64,.l Zc12,.b,.b],.sq (cs [I])],Zc29⟩,[⟨.exit 0,⟨[9],[.ptr 0 0 0],[.st [.l (cs [.s]),.l Zc2,.ref 1,.np 2,.ref 3,.u],.sq Zc3,.st [.i .i64,.l Zc12,.b,.b],.sq (cs [I])],Zc23⟩⟩],Yl7 lo⟩
def YvH(lo:Lo):LL:=(YvG lo,.loop q67_L3_b.er)::[]
theorem YvI(lo:Lo):Lk lo pf (fs67 lo) 0 (YvH lo):=.l .n (Yl6 lo) rfl (by kernel_rfl) fun x=>by kernel_rfl
def q67(lo:Lo)(db0:List (ByteArray×Zt4×Zt15))(q1_0:List ByteArray)(q1_1:List (ByteArray×Zt5))(answer2:List (Int×Int×ByteArray)):Option Int:=
  YEV (q40 lo db0 q1_0 q1_1) fun y234=>bif(!decide (y234=(0:Int)))then(some y234)else(bif(!decide ((answer2.length:Int)=(q1_0.length:Int)))then(some (6:Int))else(YEV (q41 lo db0 q1_0 q1_1) fun y235=>YEV (Yl7 lo (answer2,q1_0,(q1_0.length:Int),(0:Int),y235.1,y235.2.1,y235.2.2.1,y235.2.2.2.1,y235.2.2.2.2.1,y235.2.2.2.2.2.1,y235.2.2.2.2.2.2.1,y235.2.2.2.2.2.2.2)) fun y236=>none))
def YvJ:VFn:=⟨true,46,[.t 6,.t 7],
 (.seq (.reg [o 3 (.box (t 0)),o 4 (.box (t 1)),o 6 (.mv (.c (.one .nl))),o 7 (.mv (k 0))])
 (.seq (.seq (.reg [o 12 (.load true 1 (t 3)),o 13 (.load true 2 (t 4)),o 14 (.call 472 [(t 12),(t 13)]),oM 8 14])
 (.seq (.reg [oM 15 8,o 16 (.bin .neq (t 15) (k 0))])
 (.cond (t 16) (.seq (.reg [oM 17 8,o 6 (.mv (.c (.one .nl))),oM 7 17])
 (.fz [6] (.ow [(6,some 4,false),(6,some 2,false)] .ret)))
 .skip)))
 (.seq (.seq (.reg [oM 18 2,oN 19 18,oF 20 0 4,oL 21 20,oN 22 21,o 23 (.bin .neq (t 19) (t 22))])
 (.cond (t 23) (.seq (.reg [o 6 (.mv (.c (.one .nl))),o 7 (.mv (k 6))])
 (.fz [6] (.ow [(6,some 4,false),(6,some 2,false)] .ret)))
 .skip))
 (.seq (.reg [o 24 (.load true 1 (t 3)),o 25 (.load true 2 (t 4)),o 26 (.call 512 [(t 24),(t 25)]),oM 9 26])
 (.seq (.seq (.reg [oF 27 0 4,oL 28 27,oN 29 28,o 30 (.mv (k 0))])
 (.blk 0 (.loop 3 q67_L3_b)))
 (.seq (.reg [oM 45 9,oM 6 45,o 7 (.mv (k 0))])
 (.fz [6] (.ow [(6,some 4,false),(6,some 2,false)] .ret))))))))⟩
def Yl8(lo:Lo):FnE:=⟨532,false,⟨[0,1,2],[.ag [.l Zc3],.ag [.l (cs [.s]),.l Zc2],.l Zc10],[],Zc41⟩,.tp [.nl,.i .i64],[],(cs [I]),(fun x=>q67 lo x.1 x.2.1 x.2.2.1 x.2.2.2:Zt1×Zt4×Zt0×Zt7->Option Int)⟩
noncomputable def fs68(lo:Lo):List FnE:=Yl8 lo::fs67 lo
theorem YvK{P:Program}{fm:FM}{lo:Lo}(h:GZ P fm fs67 lo)(t:Ti P fm 532 YvJ):GZ P fm fs68 lo:=
  h.i (Yl8 lo) (YvI lo) t (by kernel_rfl) (by kernel_rfl) fun x=>by kernel_rfl
def q68_L3_b:VCode:=
 (.seq (.reg [o 31 (.bin .lss (t 30) (t 29))])
 (.seq (.cond (t 31) .skip
 (.exit 0))
 (.seq (.blk 1 (.seq (.reg [oM 32 30,o 33 (.iad 1 (t 28) (t 30)),oL 34 33,oM 10 32,oM 11 34])
 (.reg [oM 35 9,o 36 (.nilc (t 35)),oF 37 3 36,oL 38 37,oM 39 11,oM 40 2,oM 41 10,o 42 (.iad 3 (t 40) (t 41)),o 43 (.load true 3 (t 42)),on (.mput none I Zc36 true (t 38) (t 39) (t 43))])))
 (.reg [o 44 (.bin .add (t 30) (k 1)),oM 30 44]))))
def Yl9(lo:Lo):Zp53->Option (Zp53⊕ ((Zt4×Zt0×Zt1×Int×Zt6×Bool×Bool× (List Int)))):=fun x=>match x with
  | (answer2,v28,v29,v30,m9_0,m9_1,h1,h2_0,h2_1,h2_2,h2_3,h3)=>bif(decide (v30<v29))then(chk (0<=v30/\v30< (v28.length:Int)) (chk (0<=v30/\v30< (answer2.length:Int)) (some (.inl (answer2,v28,v29,(YFg .i64 (v30+(1:Int))),m9_0,m9_1,h1,(mck eqS h2_0 (v28.getD v30.toNat (YFf #[])) h2_1),(mpt eqS h2_0 (v28.getD v30.toNat (YFf #[])) (answer2.getD v30.toNat ((0:Int),(0:Int),(YFf #[]))) h2_1),h2_2,h2_3,h3)))))else(some (.inr (m9_0,m9_1,h1,h2_0,h2_1,h2_2,h2_3,h3)))
def Yma(lo:Lo):Zp53->Option ((Zt4×Zt0×Zt1×Int×Zt6×Bool×Bool× (List Int))):=lo.run (Yl9 lo)
def YvL(lo:Lo):LpE:=⟨3,[(9,some 2,false),(9,some 4,false)],⟨[2,9,28,29,30],[.l Zc10,.ptr 0 0 0,.l (cs [.s]),.i .i64,.i .i64],[.st [.l (cs [.s]),.l Zc2,.ref 1,.np 2,.ref 3,.u],.sq Zc3,.st [.i .i64,.l Zc12,.b,.b],.sq (cs [I])],Zc29⟩,[⟨.exit 0,⟨[9],[.ptr 0 0 0],[.st [.l (cs [.s]),.l Zc2,.ref 1,.np 2,.ref 3,.u],.sq Zc3,.st [.i .i64,.l Zc12,.b,.b],.sq (cs [I])],Zc23⟩⟩],Yma lo⟩
def YvM(lo:Lo):LL:=(YvL lo,.loop q68_L3_b.er)::[]
theorem YvN(lo:Lo):Lk lo pf (fs68 lo) 0 (YvM lo):=.l .n (Yl9 lo) rfl (by kernel_rfl) fun x=>by kernel_rfl
def q68(lo:Lo)(db0:List (ByteArray×Zt4×Zt15))(q1_0:List ByteArray)(q1_1:List (ByteArray×Zt5))(answer2:List (Int×Int×ByteArray)):Option (Int×Zt4×Zt0×Zt1×Int×Zt6×Bool×Bool× (List Int)):=
  YEV (q40 lo db0 q1_0 q1_1) fun y237=>bif(!decide (y237=(0:Int)))then(none)else(bif(!decide ((answer2.length:Int)=(q1_0.length:Int)))then(none)else(YEV (q41 lo db0 q1_0 q1_1) fun y238=>YEV (Yma lo (answer2,q1_0,(q1_0.length:Int),(0:Int),y238.1,y238.2.1,y238.2.2.1,y238.2.2.2.1,y238.2.2.2.2.1,y238.2.2.2.2.2.1,y238.2.2.2.2.2.2.1,y238.2.2.2.2.2.2.2)) fun y239=>some ((0:Int),y239.1,y239.2.1,y239.2.2.1,y239.2.2.2.1,y239.2.2.2.2.1,y239.2.2.2.2.2.1,y239.2.2.2.2.2.2.1,y239.2.2.2.2.2.2.2)))
def YvO:VFn:=⟨true,46,[.t 6,.t 7],
 (.seq (.reg [o 3 (.box (t 0)),o 4 (.box (t 1)),o 6 (.mv (.c (.one .nl))),o 7 (.mv (k 0))])
 (.seq (.seq (.reg [o 12 (.load true 1 (t 3)),o 13 (.load true 2 (t 4)),o 14 (.call 472 [(t 12),(t 13)]),oM 8 14])
 (.seq (.reg [oM 15 8,o 16 (.bin .neq (t 15) (k 0))])
 (.cond (t 16) (.seq (.reg [oM 17 8,o 6 (.mv (.c (.one .nl))),oM 7 17])
 (.ow [(6,some 4,false),(6,some 2,false)] .ret))
 .skip)))
 (.seq (.seq (.reg [oM 18 2,oN 19 18,oF 20 0 4,oL 21 20,oN 22 21,o 23 (.bin .neq (t 19) (t 22))])
 (.cond (t 23) (.seq (.reg [o 6 (.mv (.c (.one .nl))),o 7 (.mv (k 6))])
 (.ow [(6,some 4,false),(6,some 2,false)] .ret))
 .skip))
 (.seq (.reg [o 24 (.load true 1 (t 3)),o 25 (.load true 2 (t 4)),o 26 (.call 512 [(t 24),(t 25)]),oM 9 26])
 (.seq (.seq (.reg [oF 27 0 4,oL 28 27,oN 29 28,o 30 (.mv (k 0))])
 (.blk 0 (.loop 3 q68_L3_b)))
 (.seq (.reg [oM 45 9,oM 6 45,o 7 (.mv (k 0))])
 (.ow [(6,some 4,false),(6,some 2,false)] .ret)))))))⟩
def Ymb(lo:Lo):FnE:=⟨532,false,⟨[0,1,2],[.ag [.l Zc3],.ag [.l (cs [.s]),.l Zc2],.l Zc10],[],Zc41⟩,.tp [.ptr 0 0 0,.i .i64],[.st [.l (cs [.s]),.l Zc2,.ref 1,.np 2,.ref 3,.u],.sq Zc3,.st [.i .i64,.l Zc12,.b,.b],.sq (cs [I])],(cs [I,.l (cs [.s]),.l Zc2,.l Zc3,I,.l Zc12,.b,.b,.l (cs [I])]),(fun x=>q68 lo x.1 x.2.1 x.2.2.1 x.2.2.2:Zt1×Zt4×Zt0×Zt7->Option (Int×Zt4×Zt0×Zt1×Int×Zt6×Bool×Bool× (List Int)))⟩
noncomputable def fs69(lo:Lo):List FnE:=Ymb lo::fs68 lo
theorem YvP{P:Program}{fm:FM}{lo:Lo}(h:GZ P fm fs68 lo)(t:Ti P fm 532 YvO):GZ P fm fs69 lo:=
  h.i (Ymb lo) (YvN lo) t (by kernel_rfl) (by kernel_rfl) fun x=>by kernel_rfl
def q69(lo:Lo)(l:List Int):Option (List Int):=bif YEL l.length maxEl&&YEL 1 1 then some l else none
def YvQ(lo:Lo):FnE:=vcloneE 245 (cs [I])
noncomputable def fs70(lo:Lo):List FnE:=YvQ lo::fs69 lo
theorem YvR{P:Program}{fm:FM}{lo:Lo}(h:GZ P fm fs69 lo)(htie: ∀f,fm f=245->fnTr P fm pf f=some (8,[.t 2],YAv 1 [(.int .i64 0)])):GZ P fm fs70 lo:=
  ⟨h.1,h.2,YfC h.S h.mx (cs [I]) rfl [(.int .i64 0)] 8 (by decide) htie⟩
def q70(lo:Lo)(h2:List ((List Int)))(h3_0:List ByteArray)(h3_1:List (ByteArray×Zt5))(h4:List (ByteArray×Zt4×Zt15))(h5_0:Int)(h5_1:List (Int×ByteArray×Int×Int×ByteArray))(h5_2:Bool)(h5_3:Bool)(h6:List Int):Option (Bool×Zt4×Zt0×Zt1×Int×Zt6×Bool×Bool× (List Int)×Zt13):=
  YEV (q69 lo h6) fun y241=>chk (h2.length+[y241].length<=maxEl) (some ((decide (((h2++[y241]).length:Int)<=(1000:Int))),h3_0,h3_1,h4,h5_0,h5_1,h5_2,h5_3,h6,(h2++[y241])))
def YvS:VFn:=⟨true,14,[.t 2],
 (.seq (.reg [o 2 (.mv (kb false))])
 (.seq (.reg [⟨some 3,.load false 1 (t 0),none,true,false⟩,oL 4 1,o 5 (.nilc (t 4)),oF 6 4 5,oL 7 6,o 8 (.callN 245 [(t 7)] true),o 9 (.bsl Zc17 1 [(0,(t 8))]),o 10 (.app Zc17 0 (t 3) (t 9)),on (.store 1 (t 0) (t 10))])
 (.seq (.reg [oL 11 0,oN 12 11,o 13 (.bin .leq (t 12) (k 1000)),oM 2 13])
 .ret)))⟩
def Ymc(lo:Lo):FnE:=⟨534,false,⟨[0,1],[.ptr 0 0 0,.ptr 1 0 0],[.st [.ref 2],.st [.ptr 3 0 0],.sq Zc17,.st [.l (cs [.s]),.l Zc2,.ref 4,.np 5,.ref 6,.clo 534 [.ptr 0 0 0,.ptr 1 0 0]],.sq Zc3,.st [.i .i64,.l Zc12,.b,.b],.sq (cs [I])],(cs [.l Zc17,.l (cs [.s]),.l Zc2,.l Zc3,I,.l Zc12,.b,.b,.l (cs [I])])⟩,.b,[.st [.ref 7],.st [.ptr 3 0 0],.dd,.st [.l (cs [.s]),.l Zc2,.ref 4,.np 5,.ref 6,.clo 534 [.ptr 0 0 0,.ptr 1 0 0]],.sq Zc3,.st [.i .i64,.l Zc12,.b,.b],.sq (cs [I]),.sq Zc17],Zc25,(fun x=>q70 lo x.1 x.2.1 x.2.2.1 x.2.2.2.1 x.2.2.2.2.1 x.2.2.2.2.2.1 x.2.2.2.2.2.2.1 x.2.2.2.2.2.2.2.1 x.2.2.2.2.2.2.2.2:Zt13×Zt4×Zt0×Zt1×Int×Zt6×Bool×Bool× (List Int)->Option (Bool×Zt4×Zt0×Zt1×Int×Zt6×Bool×Bool× (List Int)×Zt13))⟩
noncomputable def fs71(lo:Lo):List FnE:=Ymc lo::fs70 lo
theorem YvT{P:Program}{fm:FM}{lo:Lo}(h:GZ P fm fs70 lo)(t:Ti P fm 534 YvS):GZ P fm fs71 lo:=
  h.i (Ymc lo) .n t (by kernel_rfl) (by kernel_rfl) fun x=>by kernel_rfl
end Go.Abs.G47
namespace Go.Abs.G47
open Go Go.Abs
set_option maxRecDepth 100000
set_option maxHeartbeats 1000000
def q71_J13_b:VCode:=
 (.seq (.reg [oM 36 12,o 37 (.not (t 36))])
 (.cond (t 37) (.seq (.reg [oM 38 0,o 39 (.nilc (t 38)),oF 40 3 39,oL 41 40,oF 42 0 10,oL 43 42,oF 44 1 5,oL 45 44,oM 46 9,o 47 (.iad 3 (t 45) (t 46)),o 48 (.load true 3 (t 47)),on (.mput none I Zc36 true (t 41) (t 43) (t 48))])
 (.reg [oM 49 8,oF 50 0 10,oL 51 50,o 52 (.bsl (cs [.s]) 1 [(0,(t 51))]),o 53 (.app (cs [.s]) 0 (t 49) (t 52)),oM 8 53]))
 (.seq (.reg [o 54 (.load true 3 (t 11)),oF 55 1 5,oL 56 55,oM 57 9,o 58 (.iad 3 (t 56) (t 57)),o 59 (.load true 3 (t 58)),o 60 (.eqa true [1,1,2] (t 54) (t 59))])
 (.cond (t 60) (.seq (.reg [oM 61 8,oM 6 61,o 7 (.mv (kb false))])
 (.ow [(0,some 4,false),(0,some 2,false)] .ret))
 .skip))))
def YfW(lo:Lo):Int×Bool×Zt5×Int×Int×Zt4×Zt0×Zt1×Int×Zt6×Bool×Bool× (List Int)×Zt13×Int×Zt7×Zt4×ByteArray×Int×Int×ByteArray×Int×Int×ByteArray->Option (Zp49⊕ (Bool×Zt4×Zt0×Zt1×Int×Zt6×Bool×Bool× (List Int)×Zt13×Zt4)):=fun x=>match x with
  | (i9,known12,v14,v15,v16,m0_0,m0_1,h1,h2_0,h2_1,h2_2,h2_3,h3,h6,r5_0,r5_1,fresh8,t10_0,t10_1,t10_2,t10_3,v11_0,v11_1,v11_2)=>bif(!known12)then(chk (0<=i9/\i9< (r5_1.length:Int)) (chk (fresh8.length+[t10_0].length<=maxEl) (some (.inl (v14,v15,v16,m0_0,m0_1,h1,(mck eqS h2_0 t10_0 h2_1),(mpt eqS h2_0 t10_0 (r5_1.getD i9.toNat ((0:Int),(0:Int),(YFf #[]))) h2_1),h2_2,h2_3,h3,h6,r5_0,r5_1,(fresh8++[t10_0]))))))else(chk (0<=i9/\i9< (r5_1.length:Int)) (bif(!((decide (v11_0=(r5_1.getD i9.toNat ((0:Int),(0:Int),(YFf #[]))).1))&& ((decide (v11_1=(r5_1.getD i9.toNat ((0:Int),(0:Int),(YFf #[]))).2.1))&& ((decide (v11_2=(r5_1.getD i9.toNat ((0:Int),(0:Int),(YFf #[]))).2.2))&&true))))then(some (.inr (false,m0_0,m0_1,h1,h2_0,h2_1,h2_2,h2_3,h3,h6,fresh8)))else(some (.inl (v14,v15,v16,m0_0,m0_1,h1,h2_0,h2_1,h2_2,h2_3,h3,h6,r5_0,r5_1,fresh8)))))
def YvU(lo:Lo):LpE:=⟨13,[(0,some 2,false),(0,some 4,false)],⟨[0,5,8,9,10,11,12,14,15,16],[.ptr 0 0 0,.ptr 7 0 0,.ref 8,.i .i64,.ptr 9 0 0,.ptr 10 0 0,.b,.l Zc9,.i .i64,.i .i64],[.st [.l (cs [.s]),.l Zc2,.ref 1,.np 2,.ref 3,.clo 534 [.ptr 4 0 0,.ptr 5 0 0]],.sq Zc3,.st [.i .i64,.l Zc12,.b,.b],.sq (cs [I]),.st [.ref 6],.st [.ptr 0 0 0],.sq Zc17,.st [.i .i64,.l Zc10],.sq (cs [.s]),.st [.s,.i .i64,.i .i64,.s],.st [.i .i64,.i .i64,.s]],Zc34⟩,[⟨.nor,⟨[0,5,8,14,15,16],[.ptr 0 0 0,.ptr 7 0 0,.ref 8,.l Zc9,.i .i64,.i .i64],[.st [.l (cs [.s]),.l Zc2,.ref 1,.np 2,.ref 3,.clo 534 [.ptr 4 0 0,.ptr 5 0 0]],.sq Zc3,.st [.i .i64,.l Zc12,.b,.b],.sq (cs [I]),.st [.ref 6],.st [.ptr 0 0 0],.sq Zc17,.st [.i .i64,.l Zc10],.sq (cs [.s])],Zc26⟩⟩,⟨.ret,⟨[6,7,0],[.ref 7,.b,.ptr 0 0 0],[.st [.l (cs [.s]),.l Zc2,.ref 1,.np 2,.ref 3,.clo 534 [.ptr 4 0 0,.ptr 5 0 0]],.sq Zc3,.st [.i .i64,.l Zc12,.b,.b],.sq (cs [I]),.st [.ref 6],.st [.ptr 0 0 0],.sq Zc17,.sq (cs [.s])],Zc22⟩⟩],YfW lo⟩
def Ymd(lo:Lo):LL:=(YvU lo,q71_J13_b.er)::[]
theorem YvV(lo:Lo):Lk lo pf (fs71 lo) 7 (Ymd lo):=.j .n (by kernel_rfl) fun x=>by kernel_rfl
def q71_L3_b:VCode:=
 (.seq (.reg [o 17 (.bin .lss (t 16) (t 15))])
 (.seq (.cond (t 17) .skip
 (.exit 0))
 (.seq (.blk 1 (.seq (.reg [oM 18 16,o 19 (.iad 4 (t 14) (t 16)),o 20 (.load true 4 (t 19)),o 10 (.alloc [.s (⟨#[]⟩),.i .i64 0,.i .i64 0,.s (⟨#[]⟩)]),oM 9 18,on (.store 4 (t 10) (t 20))])
 (.seq (.reg [oF 21 1 10,o 22 (.load true 3 (t 21)),o 11 (.alloc [.i .i64 0,.i .i64 0,.s (⟨#[]⟩)]),on (.store 3 (t 11) (t 22)),o 12 (.mv (kb true))])
 (.seq (.seq (.reg [oF 23 0 10,oL 24 23,o 25 (.bin .neq (t 24) (ks (⟨#[]⟩)))])
 (.cond (t 25) (.reg [oM 27 0,o 28 (.nilc (t 27)),oF 29 3 28,oL 30 29,oF 31 0 10,oL 32 31,o 33 (.mget none I Zc36 true true (t 30) (t 32)),oM 26 33,oE 34 26 0,oE 35 26 1,on (.store 3 (t 11) (t 34)),oM 12 35])
 .skip))
 (.jn 13 q71_J13_b)))))
 (.reg [o 62 (.bin .add (t 16) (k 1)),oM 16 62]))))
def Yme(lo:Lo):Zp49->Option (Zp49⊕ ((Bool×Zt4×Zt0×Zt1×Int×Zt6×Bool×Bool× (List Int)×Zt13×Zt4)⊕ (Zt4×Zt0×Zt1×Int×Zt6×Bool×Bool× (List Int)×Zt13×Zt4))):=fun x=>match x with
  | (v14,v15,v16,m0_0,m0_1,h1,h2_0,h2_1,h2_2,h2_3,h3,h6,r5_0,r5_1,fresh8)=>bif(decide (v16<v15))then(chk (0<=v16/\v16< (v14.length:Int)) (bif(!decide ((v14.getD v16.toNat ((YFf #[]),(0:Int),(0:Int),(YFf #[]))).1=(YFf #[])))then(YEV (YfW lo (v16,(mhs eqS ((v14.getD v16.toNat ((YFf #[]),(0:Int),(0:Int),(YFf #[]))).1) h2_1),v14,v15,v16,m0_0,m0_1,h1,h2_0,h2_1,h2_2,h2_3,h3,h6,r5_0,r5_1,fresh8,(v14.getD v16.toNat ((YFf #[]),(0:Int),(0:Int),(YFf #[]))).1,(v14.getD v16.toNat ((YFf #[]),(0:Int),(0:Int),(YFf #[]))).2.1,(v14.getD v16.toNat ((YFf #[]),(0:Int),(0:Int),(YFf #[]))).2.2.1,(v14.getD v16.toNat ((YFf #[]),(0:Int),(0:Int),(YFf #[]))).2.2.2,(mgt eqS ((v14.getD v16.toNat ((YFf #[]),(0:Int),(0:Int),(YFf #[]))).1) h2_1 ((0:Int),(0:Int),(YFf #[]))).1,(mgt eqS ((v14.getD v16.toNat ((YFf #[]),(0:Int),(0:Int),(YFf #[]))).1) h2_1 ((0:Int),(0:Int),(YFf #[]))).2.1,(mgt eqS ((v14.getD v16.toNat ((YFf #[]),(0:Int),(0:Int),(YFf #[]))).1) h2_1 ((0:Int),(0:Int),(YFf #[]))).2.2)) fun y243=>alt2 y243 (fun y244=>some (.inl (y244.1,y244.2.1,(YFg .i64 (y244.2.2.1+(1:Int))),y244.2.2.2.1,y244.2.2.2.2.1,y244.2.2.2.2.2.1,y244.2.2.2.2.2.2.1,y244.2.2.2.2.2.2.2.1,y244.2.2.2.2.2.2.2.2.1,y244.2.2.2.2.2.2.2.2.2.1,y244.2.2.2.2.2.2.2.2.2.2.1,y244.2.2.2.2.2.2.2.2.2.2.2.1,y244.2.2.2.2.2.2.2.2.2.2.2.2.1,y244.2.2.2.2.2.2.2.2.2.2.2.2.2.1,y244.2.2.2.2.2.2.2.2.2.2.2.2.2.2))) (fun y245=>some (.inr (.inl (y245.1,y245.2.1,y245.2.2.1,y245.2.2.2.1,y245.2.2.2.2.1,y245.2.2.2.2.2.1,y245.2.2.2.2.2.2.1,y245.2.2.2.2.2.2.2.1,y245.2.2.2.2.2.2.2.2.1,y245.2.2.2.2.2.2.2.2.2.1,y245.2.2.2.2.2.2.2.2.2.2)))))else(YEV (YfW lo (v16,true,v14,v15,v16,m0_0,m0_1,h1,h2_0,h2_1,h2_2,h2_3,h3,h6,r5_0,r5_1,fresh8,(v14.getD v16.toNat ((YFf #[]),(0:Int),(0:Int),(YFf #[]))).1,(v14.getD v16.toNat ((YFf #[]),(0:Int),(0:Int),(YFf #[]))).2.1,(v14.getD v16.toNat ((YFf #[]),(0:Int),(0:Int),(YFf #[]))).2.2.1,(v14.getD v16.toNat ((YFf #[]),(0:Int),(0:Int),(YFf #[]))).2.2.2,(v14.getD v16.toNat ((YFf #[]),(0:Int),(0:Int),(YFf #[]))).2.1,(v14.getD v16.toNat ((YFf #[]),(0:Int),(0:Int),(YFf #[]))).2.2.1,(v14.getD v16.toNat ((YFf #[]),(0:Int),(0:Int),(YFf #[]))).2.2.2)) fun y246=>alt2 y246 (fun y247=>some (.inl (y247.1,y247.2.1,(YFg .i64 (y247.2.2.1+(1:Int))),y247.2.2.2.1,y247.2.2.2.2.1,y247.2.2.2.2.2.1,y247.2.2.2.2.2.2.1,y247.2.2.2.2.2.2.2.1,y247.2.2.2.2.2.2.2.2.1,y247.2.2.2.2.2.2.2.2.2.1,y247.2.2.2.2.2.2.2.2.2.2.1,y247.2.2.2.2.2.2.2.2.2.2.2.1,y247.2.2.2.2.2.2.2.2.2.2.2.2.1,y247.2.2.2.2.2.2.2.2.2.2.2.2.2.1,y247.2.2.2.2.2.2.2.2.2.2.2.2.2.2))) (fun y248=>some (.inr (.inl (y248.1,y248.2.1,y248.2.2.1,y248.2.2.2.1,y248.2.2.2.2.1,y248.2.2.2.2.2.1,y248.2.2.2.2.2.2.1,y248.2.2.2.2.2.2.2.1,y248.2.2.2.2.2.2.2.2.1,y248.2.2.2.2.2.2.2.2.2.1,y248.2.2.2.2.2.2.2.2.2.2)))))))else(some (.inr (.inr (m0_0,m0_1,h1,h2_0,h2_1,h2_2,h2_3,h3,h6,fresh8))))
def Ymf(lo:Lo):Zp49->Option ((Bool×Zt4×Zt0×Zt1×Int×Zt6×Bool×Bool× (List Int)×Zt13×Zt4)⊕ (Zt4×Zt0×Zt1×Int×Zt6×Bool×Bool× (List Int)×Zt13×Zt4)):=lo.run (Yme lo)
def YvW(lo:Lo):LpE:=⟨3,[(0,some 2,false),(0,some 4,false),(8,none,false)],⟨[0,5,8,14,15,16],[.ptr 0 0 0,.ptr 7 0 0,.ref 8,.l Zc9,.i .i64,.i .i64],[.st [.l (cs [.s]),.l Zc2,.ref 1,.np 2,.ref 3,.clo 534 [.ptr 4 0 0,.ptr 5 0 0]],.sq Zc3,.st [.i .i64,.l Zc12,.b,.b],.sq (cs [I]),.st [.ref 6],.st [.ptr 0 0 0],.sq Zc17,.st [.i .i64,.l Zc10],.sq (cs [.s])],Zc26⟩,[⟨.ret,⟨[6,7,0],[.ref 7,.b,.ptr 0 0 0],[.st [.l (cs [.s]),.l Zc2,.ref 1,.np 2,.ref 3,.clo 534 [.ptr 4 0 0,.ptr 5 0 0]],.sq Zc3,.st [.i .i64,.l Zc12,.b,.b],.sq (cs [I]),.st [.ref 6],.st [.ptr 0 0 0],.sq Zc17,.sq (cs [.s])],Zc22⟩⟩,⟨.exit 0,⟨[0,8],[.ptr 0 0 0,.ref 7],[.st [.l (cs [.s]),.l Zc2,.ref 1,.np 2,.ref 3,.clo 534 [.ptr 4 0 0,.ptr 5 0 0]],.sq Zc3,.st [.i .i64,.l Zc12,.b,.b],.sq (cs [I]),.st [.ref 6],.st [.ptr 0 0 0],.sq Zc17,.sq (cs [.s])],(cs [.l (cs [.s]),.l Zc2,.l Zc3,I,.l Zc12,.b,.b,.l (cs [I]),.l Zc17,.l (cs [.s])])⟩⟩],Ymf lo⟩
def YvX(lo:Lo):LL:=(YvW lo,.loop q71_L3_b.er)::Ymd lo
theorem YvY(lo:Lo):Lk lo pf (fs71 lo) 7 (YvX lo):=.l (YvV lo) (Yme lo) rfl (by kernel_rfl) fun x=>by kernel_rfl
def q71(lo:Lo)(a1_0:ByteArray)(a1_1:List Zp76)(r2_0:Int)(r2_1:List (Int×Int×ByteArray))(m0_0:List ByteArray)(m0_1:List (ByteArray×Zt5))(h1:List (ByteArray×Zt4×Zt15))(h2_0:Int)(h2_1:List (Int×ByteArray×Int×Int×ByteArray))(h2_2:Bool)(h2_3:Bool)(h3:List Int)(h6:List ((List Int))):Option (Bool×Zt4×Zt0×Zt1×Int×Zt6×Bool×Bool× (List Int)×Zt13×Zt4):=
  YEV (Ymf lo (a1_1,(a1_1.length:Int),(0:Int),m0_0,m0_1,h1,h2_0,h2_1,h2_2,h2_3,h3,h6,r2_0,r2_1,[])) fun y249=>alt2 y249 (fun y250=>some (y250.1,y250.2.1,y250.2.2.1,y250.2.2.2.1,y250.2.2.2.2.1,y250.2.2.2.2.2.1,y250.2.2.2.2.2.2.1,y250.2.2.2.2.2.2.2.1,y250.2.2.2.2.2.2.2.2.1,y250.2.2.2.2.2.2.2.2.2.1,y250.2.2.2.2.2.2.2.2.2.2)) (fun y251=>some (true,y251.1,y251.2.1,y251.2.2.1,y251.2.2.2.1,y251.2.2.2.2.1,y251.2.2.2.2.2.1,y251.2.2.2.2.2.2.1,y251.2.2.2.2.2.2.2.1,y251.2.2.2.2.2.2.2.2.1,y251.2.2.2.2.2.2.2.2.2))
def YvZ:VFn:=⟨true,64,[.t 6,.t 7],
 (.seq (.reg [o 4 (.box (t 1)),o 5 (.box (t 2)),o 6 (.mv (ke (cs [.s]))),o 7 (.mv (kb false))])
 (.seq (.reg [o 8 (.mv (ke (cs [.s])))])
 (.seq (.seq (.reg [oF 13 1 4,oL 14 13,oN 15 14,o 16 (.mv (k 0))])
 (.blk 0 (.loop 3 q71_L3_b)))
 (.seq (.reg [oM 63 8,oM 6 63,o 7 (.mv (kb true))])
 (.ow [(0,some 4,false),(0,some 2,false)] .ret)))))⟩
def Ymg(lo:Lo):FnE:=⟨543,false,⟨[0,1,2],[.ptr 0 0 0,.ag [.s,.l Zc9],.ag [.i .i64,.l Zc10]],[.st [.l (cs [.s]),.l Zc2,.ref 1,.np 2,.ref 3,.clo 534 [.ptr 4 0 0,.ptr 5 0 0]],.sq Zc3,.st [.i .i64,.l Zc12,.b,.b],.sq (cs [I]),.st [.ref 6],.st [.ptr 0 0 0],.sq Zc17],(cs [.s,.l Zc9,I,.l Zc10,.l (cs [.s]),.l Zc2,.l Zc3,I,.l Zc12,.b,.b,.l (cs [I]),.l Zc17])⟩,.tp [.ref 7,.b],[.st [.l (cs [.s]),.l Zc2,.ref 1,.np 2,.ref 3,.clo 534 [.ptr 4 0 0,.ptr 5 0 0]],.sq Zc3,.st [.i .i64,.l Zc12,.b,.b],.sq (cs [I]),.st [.ref 6],.st [.ptr 0 0 0],.sq Zc17,.sq (cs [.s])],Zc22,(fun x=>q71 lo x.1 x.2.1 x.2.2.1 x.2.2.2.1 x.2.2.2.2.1 x.2.2.2.2.2.1 x.2.2.2.2.2.2.1 x.2.2.2.2.2.2.2.1 x.2.2.2.2.2.2.2.2.1 x.2.2.2.2.2.2.2.2.2.1 x.2.2.2.2.2.2.2.2.2.2.1 x.2.2.2.2.2.2.2.2.2.2.2.1 x.2.2.2.2.2.2.2.2.2.2.2.2:ByteArray×Zt5×Int×Zt7×Zt4×Zt0×Zt1×Int×Zt6×Bool×Bool× (List Int)×Zt13->Option (Bool×Zt4×Zt0×Zt1×Int×Zt6×Bool×Bool× (List Int)×Zt13×Zt4))⟩
noncomputable def fs72(lo:Lo):List FnE:=Ymg lo::fs71 lo
theorem Yv0{P:Program}{fm:FM}{lo:Lo}(h:GZ P fm fs71 lo)(t:Ti P fm 543 YvZ):GZ P fm fs72 lo:=
  h.i (Ymg lo) (YvY lo) t (by kernel_rfl) (by kernel_rfl) fun x=>by kernel_rfl
def YfX(F:Zp56->Option (Bool×Zt4×Zt0×Zt1×Int×Zt6×Bool×Bool× (List Int)×Zt13)):FnE:=⟨515,false,⟨[0,1],[.ptr 0 0 0,.i .i64],[.st [.l (cs [.s]),.l Zc2,.ref 1,.np 2,.ref 3,.clo 534 [.ptr 4 0 0,.ptr 5 0 0]],.sq Zc3,.st [.i .i64,.l Zc12,.b,.b],.sq (cs [I]),.st [.ref 6],.st [.ptr 0 0 0],.sq Zc17],(cs [I,.l (cs [.s]),.l Zc2,.l Zc3,I,.l Zc12,.b,.b,.l (cs [I]),.l Zc17])⟩,.b,[.st [.l (cs [.s]),.l Zc2,.ref 1,.np 2,.ref 7,.clo 534 [.ptr 4 0 0,.ptr 5 0 0]],.sq Zc3,.st [.i .i64,.l Zc12,.b,.b],.dd,.st [.ref 8],.st [.ptr 0 0 0],.dd,.sq (cs [I]),.sq Zc17],Zc25,F⟩
def q72_L8_b:VCode:=
 (.seq (.reg [o 83 (.bin .lss (t 82) (t 81))])
 (.seq (.cond (t 83) .skip
 (.exit 2))
 (.seq (.blk 3 (.seq (.reg [o 84 (.iad 1 (t 80) (t 82)),oL 85 84,oM 11 85])
 (.reg [oM 86 0,o 87 (.nilc (t 86)),oF 88 3 87,oL 89 88,oM 90 11,on (.mdel none I Zc36 (t 89) (t 90))])))
 (.reg [o 91 (.bin .add (t 82) (k 1)),oM 82 91]))))
def Ymh(lo:Lo)(rec:Zp56->Option (Bool×Zt4×Zt0×Zt1×Int×Zt6×Bool×Bool× (List Int)×Zt13)):Zp44->Option (Zp44⊕ ((Int×Bool×Zt15×Int×Int×Zt4×Zt0×Zt1×Int×Zt6×Bool×Bool× (List Int)×Zt13))):=fun x=>match x with
  | (i1,on9,v32,v33,v34,v81,v82,m0_0,m0_1,h1,h2_0,h2_1,h2_2,h2_3,v80,h8,h9)=>bif(decide (v82<v81))then(chk (0<=v82/\v82< (v80.length:Int)) (some (.inl (i1,on9,v32,v33,v34,v81,(YFg .i64 (v82+(1:Int))),m0_0,m0_1,h1,h2_0,(mdl eqS (v80.getD v82.toNat (YFf #[])) h2_1),h2_2,h2_3,v80,h8,h9))))else(some (.inr (i1,on9,v32,v33,v34,m0_0,m0_1,h1,h2_0,h2_1,h2_2,h2_3,h8,h9)))
def YfY(lo:Lo)(rec:Zp56->Option (Bool×Zt4×Zt0×Zt1×Int×Zt6×Bool×Bool× (List Int)×Zt13)):Zp44->Option ((Int×Bool×Zt15×Int×Int×Zt4×Zt0×Zt1×Int×Zt6×Bool×Bool× (List Int)×Zt13)):=lo.run (Ymh lo rec)
def Yv1(lo:Lo)(rec:Zp56->Option (Bool×Zt4×Zt0×Zt1×Int×Zt6×Bool×Bool× (List Int)×Zt13)):LpE:=⟨8,[(1000006,none,true),(0,some 2,false),(0,some 4,false)],⟨[0,1,9,32,33,34,80,81,82],[.ptr 0 0 0,.i .i64,.b,.l Zc18,.i .i64,.i .i64,.ref 7,.i .i64,.i .i64],[.st [.l (cs [.s]),.l Zc2,.ref 1,.np 2,.ref 8,.clo 534 [.ptr 4 0 0,.ptr 5 0 0]],.sq Zc3,.st [.i .i64,.l Zc12,.b,.b],.dd,.st [.ref 9],.st [.ptr 0 0 0],.dd,.sq (cs [.s]),.sq (cs [I]),.sq Zc17],(cs [I,.b,.l Zc18,I,I,I,I,.l (cs [.s]),.l Zc2,.l Zc3,I,.l Zc12,.b,.b,.l (cs [.s]),.l (cs [I]),.l Zc17])⟩,[⟨.exit 2,⟨[0,1,9,32,33,34],[.ptr 0 0 0,.i .i64,.b,.l Zc18,.i .i64,.i .i64],[.st [.l (cs [.s]),.l Zc2,.ref 1,.np 2,.ref 7,.clo 534 [.ptr 4 0 0,.ptr 5 0 0]],.sq Zc3,.st [.i .i64,.l Zc12,.b,.b],.dd,.st [.ref 8],.st [.ptr 0 0 0],.dd,.sq (cs [I]),.sq Zc17],(cs [I,.b,.l Zc18,I,I,.l (cs [.s]),.l Zc2,.l Zc3,I,.l Zc12,.b,.b,.l (cs [I]),.l Zc17])⟩⟩],YfY lo rec⟩
def Ymi(lo:Lo)(rec:Zp56->Option (Bool×Zt4×Zt0×Zt1×Int×Zt6×Bool×Bool× (List Int)×Zt13)):LL:=(Yv1 lo rec,.loop q72_L8_b.er)::[]
theorem Yv2(lo:Lo)(rec:Zp56->Option (Bool×Zt4×Zt0×Zt1×Int×Zt6×Bool×Bool× (List Int)×Zt13)):Lk lo pf (YfX rec::fs72 lo) 7 (Ymi lo rec):=.l .n (Ymh lo rec) rfl (by kernel_rfl) fun x=>by kernel_rfl
def q72_L3_b:VCode:=
 (.seq (.reg [o 35 (.bin .lss (t 34) (t 33))])
 (.seq (.cond (t 35) .skip
 (.exit 0))
 (.seq (.blk 1 (.seq (.reg [o 36 (.iad 2 (t 32) (t 34)),o 37 (.load true 2 (t 36)),o 6 (.alloc [.i .i64 0,.e Zc10]),on (.store 2 (t 6) (t 37))])
 (.seq (.reg [oM 39 0,oM 40 0,o 41 (.nilc (t 40)),oF 42 0 41,oF 43 1 42,oL 44 43,oM 45 1,o 46 (.iad 2 (t 44) (t 45)),o 47 (.load true 2 (t 46)),o 48 (.load true 2 (t 6)),o 49 (.call 543 [(t 39),(t 47),(t 48)]),oM 38 49,oE 50 38 0,oE 51 38 1,oM 7 50,oM 8 51])
 (.seq (.reg [oM 52 0,oM 53 0,o 54 (.nilc (t 53)),oF 55 4 54,oL 56 55,oF 57 0 6,oL 58 57,o 59 (.bsl (cs [I]) 1 [(0,(t 58))]),o 60 (.app (cs [I]) 0 (t 56) (t 59)),o 61 (.nilc (t 52)),oF 62 4 61,on (.store 1 (t 62) (t 60))])
 (.seq (.reg [oM 63 8,o 64 (.not (t 63)),oM 65 64,og 66 65 false (.mv (t 0)),og 67 65 false (.mv (t 1)),og 68 65 false (.bin .add (t 67) (k 1)),og 69 65 false (.call 515 [(t 66),(t 68)]),o 70 (.pick (t 65) (kb true) (t 69)),oM 9 70])
 (.seq (.reg [oM 71 0,oM 72 0,o 73 (.nilc (t 72)),oF 74 4 73,oL 75 74,oM 76 1,o 77 (.slcR 1 (t 75) none (some (t 76))),o 78 (.nilc (t 71)),oF 79 4 78,on (.store 1 (t 79) (t 77))])
 (.seq (.seq (.reg [oM 80 7,oN 81 80,o 82 (.mv (k 0))])
 (.blk 2 (.loop 8 q72_L8_b)))
 (.seq (.reg [oM 92 9,o 93 (.not (t 92))])
 (.cond (t 93) (.seq (.reg [o 4 (.mv (kb false))])
 (.ow [(1000003,none,true),(1000006,none,true),(0,some 4,false),(0,some 2,false)] .ret))
 .skip)))))))))
 (.reg [o 94 (.bin .add (t 34) (k 1)),oM 34 94]))))
def Ymj(lo:Lo)(rec:Zp56->Option (Bool×Zt4×Zt0×Zt1×Int×Zt6×Bool×Bool× (List Int)×Zt13)):Zp50->Option (Zp50⊕ ((Bool×Zt4×Zt0×Zt1×Int×Zt6×Bool×Bool× (List Int)×Zt13)⊕ (Zt4×Zt0×Zt1×Int×Zt6×Bool×Bool× (List Int)×Zt13))):=fun x=>match x with
  | (i1,v32,v33,v34,m0_0,m0_1,h1,h2_0,h2_1,h2_2,h2_3,h7,h8)=>bif(decide (v34<v33))then(chk (0<=v34/\v34< (v32.length:Int)) (chk (0<=i1/\i1< (m0_1.length:Int)) (YEV (q71 lo ((m0_1.getD i1.toNat ((YFf #[]),[])).1) ((m0_1.getD i1.toNat ((YFf #[]),[])).2) ((v32.getD v34.toNat ((0:Int),[])).1) ((v32.getD v34.toNat ((0:Int),[])).2) m0_0 m0_1 h1 h2_0 h2_1 h2_2 h2_3 h7 h8) fun y286=>chk (y286.2.2.2.1.length=h1.length) (chk (y286.2.2.2.2.2.2.2.2.1.length=h7.length) (chk (y286.2.2.2.2.2.2.2.2.2.1.length=h8.length) (chk (y286.2.2.2.2.2.2.2.2.1.length+([(v32.getD v34.toNat ((0:Int),[])).1]).length<=maxEl) (bif(!y286.1)then(chk ((0:Int)=0/\0<=i1/\i1<=((y286.2.2.2.2.2.2.2.2.1++([(v32.getD v34.toNat ((0:Int),[])).1])).length:Int)) (YEV (YfY lo rec (i1,true,v32,v33,v34,(y286.2.2.2.2.2.2.2.2.2.2.length:Int),(0:Int),y286.2.1,y286.2.2.1,y286.2.2.2.1,y286.2.2.2.2.1,y286.2.2.2.2.2.1,y286.2.2.2.2.2.2.1,y286.2.2.2.2.2.2.2.1,y286.2.2.2.2.2.2.2.2.2.2,((y286.2.2.2.2.2.2.2.2.1++([(v32.getD v34.toNat ((0:Int),[])).1])).take i1.toNat),y286.2.2.2.2.2.2.2.2.2.1)) fun y287=>bif(!y287.2.1)then(some (.inr (.inl (false,y287.2.2.2.2.2.1,y287.2.2.2.2.2.2.1,y287.2.2.2.2.2.2.2.1,y287.2.2.2.2.2.2.2.2.1,y287.2.2.2.2.2.2.2.2.2.1,y287.2.2.2.2.2.2.2.2.2.2.1,y287.2.2.2.2.2.2.2.2.2.2.2.1,y287.2.2.2.2.2.2.2.2.2.2.2.2.1,y287.2.2.2.2.2.2.2.2.2.2.2.2.2))))else(some (.inl (y287.1,y287.2.2.1,y287.2.2.2.1,(YFg .i64 (y287.2.2.2.2.1+(1:Int))),y287.2.2.2.2.2.1,y287.2.2.2.2.2.2.1,y287.2.2.2.2.2.2.2.1,y287.2.2.2.2.2.2.2.2.1,y287.2.2.2.2.2.2.2.2.2.1,y287.2.2.2.2.2.2.2.2.2.2.1,y287.2.2.2.2.2.2.2.2.2.2.2.1,y287.2.2.2.2.2.2.2.2.2.2.2.2.1,y287.2.2.2.2.2.2.2.2.2.2.2.2.2)))))else(YEV (rec ((YFg .i64 (i1+(1:Int))),y286.2.1,y286.2.2.1,y286.2.2.2.1,y286.2.2.2.2.1,y286.2.2.2.2.2.1,y286.2.2.2.2.2.2.1,y286.2.2.2.2.2.2.2.1,(y286.2.2.2.2.2.2.2.2.1++([(v32.getD v34.toNat ((0:Int),[])).1])),y286.2.2.2.2.2.2.2.2.2.1)) fun y288=>chk (y288.2.2.2.1.length=y286.2.2.2.1.length) (chk ((0:Int)=0/\0<=i1/\i1<=(y288.2.2.2.2.2.2.2.2.1.length:Int)) (YEV (YfY lo rec (i1,y288.1,v32,v33,v34,(y286.2.2.2.2.2.2.2.2.2.2.length:Int),(0:Int),y288.2.1,y288.2.2.1,y288.2.2.2.1,y288.2.2.2.2.1,y288.2.2.2.2.2.1,y288.2.2.2.2.2.2.1,y288.2.2.2.2.2.2.2.1,y286.2.2.2.2.2.2.2.2.2.2,(y288.2.2.2.2.2.2.2.2.1.take i1.toNat),y288.2.2.2.2.2.2.2.2.2)) fun y289=>bif(!y289.2.1)then(some (.inr (.inl (false,y289.2.2.2.2.2.1,y289.2.2.2.2.2.2.1,y289.2.2.2.2.2.2.2.1,y289.2.2.2.2.2.2.2.2.1,y289.2.2.2.2.2.2.2.2.2.1,y289.2.2.2.2.2.2.2.2.2.2.1,y289.2.2.2.2.2.2.2.2.2.2.2.1,y289.2.2.2.2.2.2.2.2.2.2.2.2.1,y289.2.2.2.2.2.2.2.2.2.2.2.2.2))))else(some (.inl (y289.1,y289.2.2.1,y289.2.2.2.1,(YFg .i64 (y289.2.2.2.2.1+(1:Int))),y289.2.2.2.2.2.1,y289.2.2.2.2.2.2.1,y289.2.2.2.2.2.2.2.1,y289.2.2.2.2.2.2.2.2.1,y289.2.2.2.2.2.2.2.2.2.1,y289.2.2.2.2.2.2.2.2.2.2.1,y289.2.2.2.2.2.2.2.2.2.2.2.1,y289.2.2.2.2.2.2.2.2.2.2.2.2.1,y289.2.2.2.2.2.2.2.2.2.2.2.2.2)))))))))))))else(some (.inr (.inr (m0_0,m0_1,h1,h2_0,h2_1,h2_2,h2_3,h7,h8))))
def Ymk(lo:Lo)(rec:Zp56->Option (Bool×Zt4×Zt0×Zt1×Int×Zt6×Bool×Bool× (List Int)×Zt13)):Zp50->Option ((Bool×Zt4×Zt0×Zt1×Int×Zt6×Bool×Bool× (List Int)×Zt13)⊕ (Zt4×Zt0×Zt1×Int×Zt6×Bool×Bool× (List Int)×Zt13)):=lo.run (Ymj lo rec)
def Yv3(lo:Lo)(rec:Zp56->Option (Bool×Zt4×Zt0×Zt1×Int×Zt6×Bool×Bool× (List Int)×Zt13)):LpE:=⟨3,[(1000003,none,true),(1000006,none,true),(0,some 2,false),(0,some 4,false)],⟨[0,1,32,33,34],[.ptr 0 0 0,.i .i64,.l Zc18,.i .i64,.i .i64],[.st [.l (cs [.s]),.l Zc2,.ref 1,.np 2,.ref 7,.clo 534 [.ptr 4 0 0,.ptr 5 0 0]],.sq Zc3,.st [.i .i64,.l Zc12,.b,.b],.dd,.st [.ref 8],.st [.ptr 0 0 0],.dd,.sq (cs [I]),.sq Zc17],(cs [I,.l Zc18,I,I,.l (cs [.s]),.l Zc2,.l Zc3,I,.l Zc12,.b,.b,.l (cs [I]),.l Zc17])⟩,[⟨.ret,⟨[4,0],[.b,.ptr 0 0 0],[.st [.l (cs [.s]),.l Zc2,.ref 1,.np 2,.ref 7,.clo 534 [.ptr 4 0 0,.ptr 5 0 0]],.sq Zc3,.st [.i .i64,.l Zc12,.b,.b],.dd,.st [.ref 8],.st [.ptr 0 0 0],.dd,.sq (cs [I]),.sq Zc17],Zc25⟩⟩,⟨.exit 0,⟨[0],[.ptr 0 0 0],[.st [.l (cs [.s]),.l Zc2,.ref 1,.np 2,.ref 7,.clo 534 [.ptr 4 0 0,.ptr 5 0 0]],.sq Zc3,.st [.i .i64,.l Zc12,.b,.b],.dd,.st [.ref 8],.st [.ptr 0 0 0],.dd,.sq (cs [I]),.sq Zc17],(cs [.l (cs [.s]),.l Zc2,.l Zc3,I,.l Zc12,.b,.b,.l (cs [I]),.l Zc17])⟩⟩],Ymk lo rec⟩
def Yml(lo:Lo)(rec:Zp56->Option (Bool×Zt4×Zt0×Zt1×Int×Zt6×Bool×Bool× (List Int)×Zt13)):LL:=(Yv3 lo rec,.loop q72_L3_b.er)::Ymi lo rec
theorem Yv4(lo:Lo)(rec:Zp56->Option (Bool×Zt4×Zt0×Zt1×Int×Zt6×Bool×Bool× (List Int)×Zt13)):Lk lo pf (YfX rec::fs72 lo) 7 (Yml lo rec):=.l (Yv2 lo rec) (Ymj lo rec) rfl (by kernel_rfl) fun x=>by kernel_rfl
def Yv5(lo:Lo)(rec:Zp56->Option (Bool×Zt4×Zt0×Zt1×Int×Zt6×Bool×Bool× (List Int)×Zt13))(i1:Int)(m0_0:List ByteArray)(m0_1:List (ByteArray×Zt5))(h1:List (ByteArray×Zt4×Zt15))(h2_0:Int)(h2_1:List (Int×ByteArray×Int×Int×ByteArray))(h2_2:Bool)(h2_3:Bool)(h3:List Int)(h6:List ((List Int))):Option (Bool×Zt4×Zt0×Zt1×Int×Zt6×Bool×Bool× (List Int)×Zt13):=
  bif(decide (i1=(m0_1.length:Int)))then(YEV (q70 lo h6 m0_0 m0_1 h1 h2_0 h2_1 h2_2 h2_3 h3) fun y285=>chk (y285.2.2.2.1.length=h1.length) (chk (y285.2.2.2.2.2.2.2.2.1.length=h3.length) (some (y285.1,y285.2.1,y285.2.2.1,y285.2.2.2.1,y285.2.2.2.2.1,y285.2.2.2.2.2.1,y285.2.2.2.2.2.2.1,y285.2.2.2.2.2.2.2.1,y285.2.2.2.2.2.2.2.2.1,y285.2.2.2.2.2.2.2.2.2))))else(chk (0<=i1/\i1< (h1.length:Int)) (YEV (Ymk lo rec (i1,(h1.getD i1.toNat ((YFf #[]),[],[])).2.2,(((h1.getD i1.toNat ((YFf #[]),[],[])).2.2).length:Int),(0:Int),m0_0,m0_1,h1,h2_0,h2_1,h2_2,h2_3,h3,h6)) fun y290=>alt2 y290 (fun y291=>some (y291.1,y291.2.1,y291.2.2.1,y291.2.2.2.1,y291.2.2.2.2.1,y291.2.2.2.2.2.1,y291.2.2.2.2.2.2.1,y291.2.2.2.2.2.2.2.1,y291.2.2.2.2.2.2.2.2.1,y291.2.2.2.2.2.2.2.2.2)) (fun y292=>some (true,y292.1,y292.2.1,y292.2.2.1,y292.2.2.2.1,y292.2.2.2.2.1,y292.2.2.2.2.2.1,y292.2.2.2.2.2.2.1,y292.2.2.2.2.2.2.2.1,y292.2.2.2.2.2.2.2.2))))
def YfZ(lo:Lo):Nat->Int×Zt4×Zt0×Zt1×Int×Zt6×Bool×Bool× (List Int)×Zt13->Option (Bool×Zt4×Zt0×Zt1×Int×Zt6×Bool×Bool× (List Int)×Zt13)
  |0,_=>none
  |n+1,x=>Yv5 lo (YfZ lo n) x.1 x.2.1 x.2.2.1 x.2.2.2.1 x.2.2.2.2.1 x.2.2.2.2.2.1 x.2.2.2.2.2.2.1 x.2.2.2.2.2.2.2.1 x.2.2.2.2.2.2.2.2.1 x.2.2.2.2.2.2.2.2.2
def q72(lo:Lo)(i1:Int)(m0_0:List ByteArray)(m0_1:List (ByteArray×Zt5))(h1:List (ByteArray×Zt4×Zt15))(h2_0:Int)(h2_1:List (Int×ByteArray×Int×Int×ByteArray))(h2_2:Bool)(h2_3:Bool)(h3:List Int)(h6:List ((List Int))):Option (Bool×Zt4×Zt0×Zt1×Int×Zt6×Bool×Bool× (List Int)×Zt13):=lo.run (fixS (YfZ lo)) (0,(i1,m0_0,m0_1,h1,h2_0,h2_1,h2_2,h2_3,h3,h6))
def Yv6:VFn:=⟨true,95,[.t 4],
 (.seq (.reg [o 4 (.mv (kb false))])
 (.seq (.seq (.reg [oM 12 1,oM 13 0,o 14 (.nilc (t 13)),oF 15 0 14,oF 16 1 15,oL 17 16,oN 18 17,o 19 (.bin .eql (t 12) (t 18))])
 (.cond (t 19) (.seq (.reg [oM 20 0,o 21 (.nilc (t 20)),oF 22 5 21,oL 23 22,o 24 (.dyn (t 23) []),oM 4 24])
 (.ow [(1000003,none,true),(1000006,none,true),(0,some 4,false),(0,some 2,false)] .ret))
 .skip))
 (.seq (.seq (.reg [oM 25 0,o 26 (.nilc (t 25)),oF 27 2 26,oL 28 27,oM 29 1,o 30 (.iad 3 (t 28) (t 29)),oF 31 2 30,oL 32 31,oN 33 32,o 34 (.mv (k 0))])
 (.blk 0 (.loop 3 q72_L3_b)))
 (.seq (.reg [o 4 (.mv (kb true))])
 (.ow [(1000003,none,true),(1000006,none,true),(0,some 4,false),(0,some 2,false)] .ret)))))⟩
def Ymm(lo:Lo):FnE:=YfX (fun x=>q72 lo x.1 x.2.1 x.2.2.1 x.2.2.2.1 x.2.2.2.2.1 x.2.2.2.2.2.1 x.2.2.2.2.2.2.1 x.2.2.2.2.2.2.2.1 x.2.2.2.2.2.2.2.2.1 x.2.2.2.2.2.2.2.2.2)
noncomputable def fs73(lo:Lo):List FnE:=Ymm lo::fs72 lo
theorem Yv7{P:Program}{fm:FM}{lo:Lo}(h:GZ P fm fs72 lo)(t:Ti P fm 515 Yv6):GZ P fm fs73 lo:=
  h.ir (Ymm lo) (YfZ lo) (ls:=fun rec=>Yml lo rec) (fun rec=>(Yv4 lo rec)) t (by kernel_rfl) (fun _=>rfl) rfl (fun _=>by kernel_rfl) fun n x=>by kernel_rfl
def q73(lo:Lo)(db0:List (ByteArray×Zt4×Zt15))(q1_0:List ByteArray)(q1_1:List (ByteArray×Zt5))(answer2:List (Int×Int×ByteArray)):Option (Zt13×Int):=
  altO (q68 lo db0 q1_0 q1_1 answer2) (fun y240=>bif(!decide (y240.1=(0:Int)))then(some (([]:List ((List Int))),y240.1))else(YEV (q72 lo (0:Int) y240.2.1 y240.2.2.1 y240.2.2.2.1 y240.2.2.2.2.1 y240.2.2.2.2.2.1 y240.2.2.2.2.2.2.1 y240.2.2.2.2.2.2.2.1 y240.2.2.2.2.2.2.2.2 []) fun y293=>chk (y293.2.2.2.1.length=y240.2.2.2.1.length) (bif(!y293.1)then(some (([]:List ((List Int))),(3:Int)))else(some (y293.2.2.2.2.2.2.2.2.2,(0:Int)))))) (YEV (q67 lo db0 q1_0 q1_1 answer2) fun y294=>bif(!decide (y294=(0:Int)))then(some (([]:List ((List Int))),y294))else(none))
def Yv8:VFn:=⟨true,29,[.t 6,.t 7],
 (.seq (.reg [o 3 (.box (t 0)),o 4 (.box (t 1)),o 6 (.mv (ke Zc17)),o 7 (.mv (k 0))])
 (.seq (.reg [o 12 (.load true 1 (t 3)),o 13 (.load true 2 (t 4)),oM 14 2,o 15 (.call 532 [(t 12),(t 13),(t 14)]),oM 11 15,oE 16 11 0,oE 17 11 1,o 8 (.alloc [.nl]),on (.store 1 (t 8) (t 16)),oM 9 17])
 (.seq (.seq (.reg [oM 18 9,o 19 (.bin .neq (t 18) (k 0))])
 (.cond (t 19) (.seq (.reg [oM 20 9,o 6 (.mv (ke Zc17)),oM 7 20])
 (.fz [6,7] .ret))
 .skip))
 (.seq (.reg [o 10 (.alloc [.e Zc17])])
 (.seq (.reg [oL 21 8,o 22 (.mkf 534 [(t 10),(t 8)]),o 23 (.nilc (t 21)),oF 24 5 23,on (.store 1 (t 24) (t 22))])
 (.ow [(10,some 0,false)] (.seq (.seq (.reg [oL 25 8,o 26 (.call 515 [(t 25),(k 0)]),o 27 (.not (t 26))])
 (.cond (t 27) (.seq (.reg [o 6 (.mv (ke Zc17)),o 7 (.mv (k 3))])
 (.fz [6,7] .ret))
 .skip))
 (.seq (.reg [oL 28 10,oM 6 28,o 7 (.mv (k 0))])
 (.fz [6,7] .ret)))))))))⟩
def Ymn(lo:Lo):FnE:=⟨495,true,⟨[0,1,2],[.ag [.l Zc3],.ag [.l (cs [.s]),.l Zc2],.l Zc10],[],Zc41⟩,.tp [.l Zc17,.i .i64],[],(cs [.l Zc17,I]),(fun x=>q73 lo x.1 x.2.1 x.2.2.1 x.2.2.2:Zt1×Zt4×Zt0×Zt7->Option (Zt13×Int))⟩
noncomputable def fs74(lo:Lo):List FnE:=Ymn lo::fs73 lo
theorem Yv9{P:Program}{fm:FM}{lo:Lo}(h:GZ P fm fs73 lo)(t:Ti P fm 495 Yv8):GZ P fm fs74 lo:=
  h.p (Ymn lo) .n t (by kernel_rfl) (by kernel_rfl) fun x=>by kernel_rfl
def q74(lo:Lo)(t0_0:ByteArray)(t0_1:Int)(t0_2:Int)(t0_3:ByteArray):Option Bool:=
  YEV (q29 lo t0_0 t0_1 t0_2 t0_3) fun y301=>some (!y301)
def Ywa:VFn:=⟨true,6,[.t 2],
 (.seq (.reg [o 1 (.box (t 0)),o 2 (.mv (kb false))])
 (.seq (.reg [o 3 (.load true 4 (t 1)),o 4 (.call 504 [(t 3)]),o 5 (.not (t 4)),oM 2 5])
 (.fz [2] .ret)))⟩
def Ymo(lo:Lo):FnE:=⟨545,true,⟨[0],[.ag [.s,.i .i64,.i .i64,.s]],[],Zc9⟩,.b,[],(cs [.b]),(fun x=>q74 lo x.1 x.2.1 x.2.2.1 x.2.2.2:Zp76->Option Bool)⟩
noncomputable def fs75(lo:Lo):List FnE:=Ymo lo::fs74 lo
theorem Ywb{P:Program}{fm:FM}{lo:Lo}(h:GZ P fm fs74 lo)(t:Ti P fm 545 Ywa):GZ P fm fs75 lo:=
  h.p (Ymo lo) .n t (by kernel_rfl) (by kernel_rfl) fun x=>by kernel_rfl
def q75_L3_b:VCode:=
 (.seq (.reg [o 9 (.bin .lss (t 8) (t 7))])
 (.seq (.cond (t 9) .skip
 (.exit 0))
 (.seq (.blk 1 (.seq (.reg [oM 10 8,oM 5 10])
 (.seq (.reg [oM 11 1,oM 12 0,oM 13 5,o 14 (.iad 4 (t 12) (t 13)),o 15 (.load true 4 (t 14)),o 16 (.dyn (t 11) [(t 15)])])
 (.cond (t 16) (.seq (.reg [oM 17 5,oM 4 17])
 .ret)
 .skip))))
 (.reg [o 18 (.bin .add (t 8) (k 1)),oM 8 18]))))
def Yd1(lo:Lo):Zt5×Int×Int->Option ((Zt5×Int×Int)⊕ (Int⊕Unit)):=fun x=>match x with
  | (s0,v7,v8)=>bif(decide (v8<v7))then(chk (0<=v8/\v8< (s0.length:Int)) (YEV (q74 lo ((s0.getD v8.toNat ((YFf #[]),(0:Int),(0:Int),(YFf #[]))).1) ((s0.getD v8.toNat ((YFf #[]),(0:Int),(0:Int),(YFf #[]))).2.1) ((s0.getD v8.toNat ((YFf #[]),(0:Int),(0:Int),(YFf #[]))).2.2.1) ((s0.getD v8.toNat ((YFf #[]),(0:Int),(0:Int),(YFf #[]))).2.2.2)) fun y302=>bif y302 then(some (.inr (.inl v8)))else(some (.inl (s0,v7,(YFg .i64 (v8+(1:Int))))))))else(some (.inr (.inr ())))
def Yf0(lo:Lo):Zt5×Int×Int->Option (Int⊕Unit):=lo.run (Yd1 lo)
def Ywc(lo:Lo):LpE:=⟨3,[],⟨[0,1,7,8],[.l Zc9,.clo 545 [],.i .i64,.i .i64],[],(cs [.l Zc9,I,I])⟩,[⟨.ret,⟨[4],[.i .i64],[],(cs [I])⟩⟩,⟨.exit 0,⟨[],[],[],(cs [])⟩⟩],Yf0 lo⟩
def Ywd(lo:Lo):LL:=(Ywc lo,.loop q75_L3_b.er)::[]
theorem Ywe(lo:Lo):Lk lo pf (fs75 lo) 0 (Ywd lo):=.l .n (Yd1 lo) rfl (by kernel_rfl) fun x=>by kernel_rfl
def q75(lo:Lo)(s0:List Zp76):Option Int:=
  YEV (Yf0 lo (s0,(s0.length:Int),(0:Int))) fun y303=>alt2 y303 (fun y304=>some y304) (fun y305=>some (-1:Int))
def Ywf:VFn:=⟨true,19,[.t 4],
 (.seq (.reg [o 4 (.mv (k 0))])
 (.seq (.seq (.reg [oM 6 0,oN 7 6,o 8 (.mv (k 0))])
 (.blk 0 (.loop 3 q75_L3_b)))
 (.seq (.reg [o 4 (.mv (k (-1)))])
 .ret)))⟩
def Ymp(lo:Lo):FnE:=⟨537,false,⟨[0,1],[.l Zc9,.clo 545 []],[],(cs [.l Zc9])⟩,.i .i64,[],(cs [I]),(fun x=>q75 lo x:Zt5->Option Int)⟩
noncomputable def fs76(lo:Lo):List FnE:=Ymp lo::fs75 lo
theorem Ywg{P:Program}{fm:FM}{lo:Lo}(h:GZ P fm fs75 lo)(t:Ti P fm 537 Ywf):GZ P fm fs76 lo:=
  h.i (Ymp lo) (Ywe lo) t (by kernel_rfl) (by kernel_rfl) fun x=>by kernel_rfl
def q76(lo:Lo)(s0:List Zp76):Option Bool:=
  YEV (q75 lo s0) fun y306=>some (decide ((0:Int)<=y306))
def Ywh:VFn:=⟨true,9,[.t 4],
 (.seq (.reg [o 4 (.mv (kb false))])
 (.seq (.reg [oM 5 0,oM 6 1,o 7 (.call 537 [(t 5),(t 6)]),o 8 (.bin .geq (t 7) (k 0)),oM 4 8])
 .ret))⟩
def Ymq(lo:Lo):FnE:=⟨502,false,⟨[0,1],[.l Zc9,.clo 545 []],[],(cs [.l Zc9])⟩,.b,[],(cs [.b]),(fun x=>q76 lo x:Zt5->Option Bool)⟩
noncomputable def fs77(lo:Lo):List FnE:=Ymq lo::fs76 lo
theorem Ywi{P:Program}{fm:FM}{lo:Lo}(h:GZ P fm fs76 lo)(t:Ti P fm 502 Ywh):GZ P fm fs77 lo:=
  h.i (Ymq lo) .n t (by kernel_rfl) (by kernel_rfl) fun x=>by kernel_rfl
end Go.Abs.G47
namespace Go.Abs.G47
open Go Go.Abs
set_option maxRecDepth 100000
set_option maxHeartbeats 1000000
def q77_L3_b:VCode:=
 (.seq (.reg [o 19 (.bin .lss (t 18) (t 17))])
 (.seq (.cond (t 19) .skip
 (.exit 0))
 (.seq (.blk 1 (.seq (.reg [o 20 (.iad 2 (t 16) (t 18)),o 21 (.load true 2 (t 20)),o 4 (.alloc [.s (⟨#[]⟩),.e Zc9]),on (.store 2 (t 4) (t 21))])
 (.seq (.reg [oF 22 0 4,oL 23 22,o 24 (.call 538 [(t 23)]),o 25 (.not (t 24)),oM 26 25,og 27 26 false (.fad 1 (t 4)),og 28 26 false (.load false 1 (t 27)),og 29 26 false (.call 502 [(t 28),(.c (.f 545))]),o 30 (.pick (t 26) (kb true) (t 29))])
 (.cond (t 30) (.seq (.reg [o 2 (.mv (kb false))])
 (.fz [2] .ret))
 .skip))))
 (.reg [o 31 (.bin .add (t 18) (k 1)),oM 18 31]))))
def Yd2(lo:Lo):Zt0×Int×Int×Zt4×Zt0->Option ((Zt0×Int×Int×Zt4×Zt0)⊕ (Bool⊕ (Zt4×Zt0))):=fun x=>match x with
  | (v16,v17,v18,q1_0,q1_1)=>bif(decide (v18<v17))then(chk (0<=v18/\v18< (v16.length:Int)) (YEV (q28 lo ((v16.getD v18.toNat ((YFf #[]),[])).1)) fun y300=>bif(!y300)then(some (.inr (.inl false)))else(YEV (q76 lo ((v16.getD v18.toNat ((YFf #[]),[])).2)) fun y307=>bif y307 then(some (.inr (.inl false)))else(some (.inl (v16,v17,(YFg .i64 (v18+(1:Int))),q1_0,q1_1))))))else(some (.inr (.inr (q1_0,q1_1))))
def Yf1(lo:Lo):Zt0×Int×Int×Zt4×Zt0->Option (Bool⊕ (Zt4×Zt0)):=lo.run (Yd2 lo)
def Ywj(lo:Lo):LpE:=⟨3,[],⟨[1,16,17,18],[.ptr 0 0 0,.l Zc2,.i .i64,.i .i64],[.st [.l (cs [.s]),.l Zc2]],(cs [.l Zc2,I,I,.l (cs [.s]),.l Zc2])⟩,[⟨.ret,⟨[2],[.b],[],(cs [.b])⟩⟩,⟨.exit 0,⟨[1],[.ptr 0 0 0],[.st [.l (cs [.s]),.l Zc2]],Zc20⟩⟩],Yf1 lo⟩
def Ywk(lo:Lo):LL:=(Ywj lo,.loop q77_L3_b.er)::[]
theorem Ywl(lo:Lo):Lk lo pf (fs77 lo) 0 (Ywk lo):=.l .n (Yd2 lo) rfl (by kernel_rfl) fun x=>by kernel_rfl
def q77(lo:Lo)(q0_0:List ByteArray)(q0_1:List (ByteArray×Zt5)):Option Bool:=
  bif(decide ((q0_1.length:Int)< (1:Int)))then(some false)else(bif(decide ((6:Int)< (q0_1.length:Int)))then(some false)else(YEV (Yf1 lo (q0_1,(q0_1.length:Int),(0:Int),q0_0,q0_1)) fun y308=>alt2 y308 (fun y309=>some y309) (fun y310=>YEV (q39 lo y310.1 y310.2) fun y311=>some y311)))
def Ywm:VFn:=⟨true,34,[.t 2],
 (.seq (.reg [o 1 (.box (t 0)),o 2 (.mv (kb false))])
 (.seq (.seq (.reg [oF 5 1 1,oL 6 5,oN 7 6,o 8 (.bin .lss (t 7) (k 1)),oM 9 8,og 10 9 false (.fad 1 (t 1)),og 11 9 false (.load false 1 (t 10)),og 12 9 false (.len (t 11)),og 13 9 false (.bin .gtr (t 12) (k 6)),o 14 (.pick (t 9) (kb true) (t 13))])
 (.cond (t 14) (.seq (.reg [o 2 (.mv (kb false))])
 (.fz [2] .ret))
 .skip))
 (.seq (.seq (.reg [oF 15 1 1,oL 16 15,oN 17 16,o 18 (.mv (k 0))])
 (.blk 0 (.loop 3 q77_L3_b)))
 (.seq (.reg [o 32 (.load true 2 (t 1)),o 33 (.call 505 [(t 32)]),oM 2 33])
 (.fz [2] .ret)))))⟩
def Ymr(lo:Lo):FnE:=⟨519,true,⟨[0],[.ag [.l (cs [.s]),.l Zc2]],[],Zc20⟩,.b,[],(cs [.b]),(fun x=>q77 lo x.1 x.2:Zt4×Zt0->Option Bool)⟩
noncomputable def fs78(lo:Lo):List FnE:=Ymr lo::fs77 lo
theorem Ywn{P:Program}{fm:FM}{lo:Lo}(h:GZ P fm fs77 lo)(t:Ti P fm 519 Ywm):GZ P fm fs78 lo:=
  h.p (Ymr lo) (Ywl lo) t (by kernel_rfl) (by kernel_rfl) fun x=>by kernel_rfl
def q78(lo:Lo)(l:List ByteArray):Option Zt4:=bif YEL l.length maxEl&&YEL 1 1 then some l else none
def Ywo(lo:Lo):FnE:=vcloneE 269 (cs [.s])
noncomputable def fs79(lo:Lo):List FnE:=Ywo lo::fs78 lo
theorem Ywp{P:Program}{fm:FM}{lo:Lo}(h:GZ P fm fs78 lo)(htie: ∀f,fm f=269->fnTr P fm pf f=some (8,[.t 2],YAv 1 [(.string (⟨#[]⟩))])):GZ P fm fs79 lo:=
  ⟨h.1,h.2,YfC h.S h.mx (cs [.s]) rfl [(.string (⟨#[]⟩))] 8 (by decide) htie⟩
def q79(lo:Lo)(l:List Zp76):Option Zt5:=bif YEL l.length maxEl&&YEL 1 4 then some l else none
def Ywq(lo:Lo):FnE:=vcloneE 527 Zc9
noncomputable def fs80(lo:Lo):List FnE:=Ywq lo::fs79 lo
theorem Ywr{P:Program}{fm:FM}{lo:Lo}(h:GZ P fm fs79 lo)(htie: ∀f,fm f=527->fnTr P fm pf f=some (8,[.t 2],YAv 4 [(.string (⟨#[]⟩)),(.int .i64 0),(.int .i64 0),(.string (⟨#[]⟩))])):GZ P fm fs80 lo:=
  ⟨h.1,h.2,YfC h.S h.mx Zc9 rfl [(.string (⟨#[]⟩)),(.int .i64 0),(.int .i64 0),(.string (⟨#[]⟩))] 8 (by decide) htie⟩
def q80(lo:Lo)(n:Int):Option Zt0:=bif decide (0<=n)&&decide (n<=1048576)then some []else none
def Yws(lo:Lo):FnE:=vgrowE 548 Zc2
noncomputable def fs81(lo:Lo):List FnE:=Yws lo::fs80 lo
theorem Ywt{P:Program}{fm:FM}{lo:Lo}(h:GZ P fm fs80 lo)(hG: ∀f,fm f=548->YzW P f=true/\ ∃ρ:Go.Shelf.Ren,Go.Proofs.Lays8.n4 P ρ/\ρ.f 4=f/\YA9 P (ρ.t 25) 2=true):GZ P fm fs81 lo:=
  ⟨h.1,h.2,Yro h.S Zc2 rfl (by decide) hG⟩
def q81_L11_b:VCode:=
 (.seq (.reg [o 12 (.bin .lss (t 11) (t 10))])
 (.seq (.cond (t 12) .skip
 (.exit 0))
 (.seq (.blk 1 (.seq (.reg [o 13 (.iad 1 (t 9) (t 11)),oL 14 13,oM 5 14])
 (.seq (.reg [oM 15 3,oM 16 5,oN 17 16,o 18 (.bin .add (t 15) (t 17)),oM 3 18])
 (.seq (.reg [oM 19 3,o 20 (.bin .lss (t 19) (k 0))])
 (.cond (t 20) .bad
 .skip)))))
 (.reg [o 22 (.bin .add (t 11) (k 1)),oM 11 22]))))
def YcL(lo:Lo):Zp69->Option (Zp69⊕ (((List (Zt0))×Int))):=fun x=>match x with
  | (slices0,size3,v9,v10,v11)=>bif(decide (v11<v10))then(chk (0<=v11/\v11< (v9.length:Int)) (bif(decide ((YFg .i64 (size3+((v9.getD v11.toNat []).length:Int)))< (0:Int)))then(none)else(some (.inl (slices0,(YFg .i64 (size3+((v9.getD v11.toNat []).length:Int))),v9,v10,(YFg .i64 (v11+(1:Int))))))))else(some (.inr (slices0,size3)))
def Yf2(lo:Lo):Zp69->Option (((List (Zt0))×Int)):=lo.run (YcL lo)
def Ywu(lo:Lo):LpE:=⟨11,[],⟨[0,3,9,10,11],[.l Zc37,.i .i64,.l Zc37,.i .i64,.i .i64],[],(cs [.l Zc37,I,.l Zc37,I,I])⟩,[⟨.exit 0,⟨[0,3],[.l Zc37,.i .i64],[],(cs [.l Zc37,I])⟩⟩],Yf2 lo⟩
def Yms(lo:Lo):LL:=(Ywu lo,.loop q81_L11_b.er)::[]
theorem Ywv(lo:Lo):Lk lo pf (fs81 lo) 0 (Yms lo):=.l .n (YcL lo) rfl (by kernel_rfl) fun x=>by kernel_rfl
def q81_L3_b:VCode:=
 (.seq (.reg [o 28 (.bin .lss (t 27) (t 26))])
 (.seq (.cond (t 28) .skip
 (.exit 2))
 (.seq (.blk 3 (.seq (.reg [o 29 (.iad 1 (t 25) (t 27)),oL 30 29,oM 8 30])
 (.reg [oM 31 6,oM 32 8,o 33 (.app Zc2 0 (t 31) (t 32)),oM 6 33])))
 (.reg [o 34 (.bin .add (t 27) (k 1)),oM 27 34]))))
def YcM(lo:Lo):(List (Zt0))×Int×Int×Zt0->Option (((List (Zt0))×Int×Int×Zt0)⊕ ((Zt0))):=fun x=>match x with
  | (v25,v26,v27,newslice6)=>bif(decide (v27<v26))then(chk (0<=v27/\v27< (v25.length:Int)) (chk (newslice6.length+(v25.getD v27.toNat []).length<=maxEl) (some (.inl (v25,v26,(YFg .i64 (v27+(1:Int))),(newslice6++(v25.getD v27.toNat [])))))))else(some (.inr newslice6))
def Yf3(lo:Lo):(List (Zt0))×Int×Int×Zt0->Option ((Zt0)):=lo.run (YcM lo)
def Yww(lo:Lo):LpE:=⟨3,[],⟨[6,25,26,27],[.ref 0,.l Zc37,.i .i64,.i .i64],[.sq Zc2],(cs [.l Zc37,I,I,.l Zc2])⟩,[⟨.exit 2,⟨[6],[.ref 0],[.sq Zc2],Zc37⟩⟩],Yf3 lo⟩
def Ywx(lo:Lo):LL:=(Yww lo,.loop q81_L3_b.er)::Yms lo
theorem Ywy(lo:Lo):Lk lo pf (fs81 lo) 0 (Ywx lo):=.l (Ywv lo) (YcM lo) rfl (by kernel_rfl) fun x=>by kernel_rfl
def q81(lo:Lo)(slices0:List (Zt0)):Option (Zt0):=
  YEV (Yf2 lo (slices0,(0:Int),slices0,(slices0.length:Int),(0:Int))) fun y320=>YEV (q80 lo y320.2) fun y321=>YEV (Yf3 lo (y320.1,(y320.1.length:Int),(0:Int),y321)) fun y322=>some y322
def Ywz:VFn:=⟨true,36,[.t 2],
 (.seq (.reg [o 2 (.mv (ke Zc2))])
 (.seq (.reg [o 3 (.mv (k 0))])
 (.seq (.seq (.reg [oM 9 0,oN 10 9,o 11 (.mv (k 0))])
 (.blk 0 (.loop 11 q81_L11_b)))
 (.seq (.reg [oM 23 3,o 24 (.call 548 [(ke Zc2),(t 23)]),oM 6 24])
 (.seq (.seq (.reg [oM 25 0,oN 26 25,o 27 (.mv (k 0))])
 (.blk 2 (.loop 3 q81_L3_b)))
 (.seq (.reg [oM 35 6,oM 2 35])
 (.fz [2] .ret)))))))⟩
def Ymt(lo:Lo):FnE:=⟨528,true,⟨[0],[.l Zc37],[],(cs [.l Zc37])⟩,.l Zc2,[],Zc37,(fun x=>q81 lo x:(List (Zt0))->Option (Zt0))⟩
noncomputable def fs82(lo:Lo):List FnE:=Ymt lo::fs81 lo
theorem YwA{P:Program}{fm:FM}{lo:Lo}(h:GZ P fm fs81 lo)(t:Ti P fm 528 Ywz):GZ P fm fs82 lo:=
  h.p (Ymt lo) (Ywy lo) t (by kernel_rfl) (by kernel_rfl) fun x=>by kernel_rfl
def q82_J13_b:VCode:=
 (.seq (.reg [oM 46 12,o 47 (.not (t 46))])
 (.cond (t 47) (.seq (.reg [oM 48 0,oF 49 0 10,oL 50 49,oF 51 1 5,oL 52 51,oM 53 9,o 54 (.iad 4 (t 52) (t 53)),o 55 (.load true 4 (t 54)),on (.mput none .s Zc10 true (t 48) (t 50) (t 55))])
 (.reg [oM 56 8,oF 57 0 10,oL 58 57,o 59 (.bsl (cs [.s]) 1 [(0,(t 58))]),o 60 (.app (cs [.s]) 0 (t 56) (t 59)),oM 8 60]))
 (.seq (.reg [o 61 (.load true 4 (t 11)),oF 62 1 5,oL 63 62,oM 64 9,o 65 (.iad 4 (t 63) (t 64)),o 66 (.load true 4 (t 65)),o 67 (.eqa true [2,1,1,2] (t 61) (t 66))])
 (.cond (t 67) (.seq (.reg [oM 68 8,oM 6 68,o 7 (.mv (kb false))])
 (.fz [6] .ret))
 .skip))))
def Yd3(lo:Lo):Int×Bool×Zt5×Int×Int×Int×Zt8×Bool×Bool×ByteArray×Zt5×Zt4×ByteArray×Int×Int×ByteArray×ByteArray×Int×Int×ByteArray->Option (Zp57⊕ (Zt4×Bool×Int×Zt8×Bool×Bool)):=fun x=>match x with
  | (i9,known12,v28,v29,v30,h0_0,h0_1,h0_2,h0_3,b5_0,b5_1,fresh8,t10_0,t10_1,t10_2,t10_3,image11_0,image11_1,image11_2,image11_3)=>bif(!known12)then(chk (0<=i9/\i9< (b5_1.length:Int)) (chk (fresh8.length+[t10_0].length<=maxEl) (some (.inl (v28,v29,v30,(mck eqS h0_0 t10_0 h0_1),(mpt eqS h0_0 t10_0 (b5_1.getD i9.toNat ((YFf #[]),(0:Int),(0:Int),(YFf #[]))) h0_1),h0_2,h0_3,b5_0,b5_1,(fresh8++[t10_0]))))))else(chk (0<=i9/\i9< (b5_1.length:Int)) (bif(!((decide (image11_0=(b5_1.getD i9.toNat ((YFf #[]),(0:Int),(0:Int),(YFf #[]))).1))&& ((decide (image11_1=(b5_1.getD i9.toNat ((YFf #[]),(0:Int),(0:Int),(YFf #[]))).2.1))&& ((decide (image11_2=(b5_1.getD i9.toNat ((YFf #[]),(0:Int),(0:Int),(YFf #[]))).2.2.1))&& ((decide (image11_3=(b5_1.getD i9.toNat ((YFf #[]),(0:Int),(0:Int),(YFf #[]))).2.2.2))&&true)))))then(some (.inr (fresh8,false,h0_0,h0_1,h0_2,h0_3)))else(some (.inl (v28,v29,v30,h0_0,h0_1,h0_2,h0_3,b5_0,b5_1,fresh8)))))
def YwB(lo:Lo):LpE:=⟨13,[],⟨[0,5,8,9,10,11,12,28,29,30],[.np 0,.ptr 1 0 0,.ref 2,.i .i64,.ptr 3 0 0,.ptr 4 0 0,.b,.l Zc9,.i .i64,.i .i64],[.st [.i .i64,.l Zc16,.b,.b],.st [.s,.l Zc9],.sq (cs [.s]),.st [.s,.i .i64,.i .i64,.s],.st [.s,.i .i64,.i .i64,.s]],(cs [I,.b,.l Zc9,I,I,I,.l Zc16,.b,.b,.s,.l Zc9,.l (cs [.s]),.s,I,I,.s,.s,I,I,.s])⟩,[⟨.nor,⟨[0,5,8,28,29,30],[.np 0,.ptr 1 0 0,.ref 2,.l Zc9,.i .i64,.i .i64],[.st [.i .i64,.l Zc16,.b,.b],.st [.s,.l Zc9],.sq (cs [.s])],Zc40⟩⟩,⟨.ret,⟨[6,7],[.l (cs [.s]),.b],[.st [.i .i64,.l Zc16,.b,.b]],(cs [.l (cs [.s]),.b,I,.l Zc16,.b,.b])⟩⟩],Yd3 lo⟩
def Ymu(lo:Lo):LL:=(YwB lo,q82_J13_b.er)::[]
theorem YwC(lo:Lo):Lk lo pf (fs82 lo) 1 (Ymu lo):=.j .n (by kernel_rfl) fun x=>by kernel_rfl
def q82_L3_b:VCode:=
 (.seq (.reg [o 31 (.bin .lss (t 30) (t 29))])
 (.seq (.cond (t 31) .skip
 (.exit 0))
 (.seq (.blk 1 (.seq (.reg [oM 32 30,o 33 (.iad 4 (t 28) (t 30)),o 34 (.load true 4 (t 33)),o 10 (.alloc [.s (⟨#[]⟩),.i .i64 0,.i .i64 0,.s (⟨#[]⟩)]),oM 9 32,on (.store 4 (t 10) (t 34))])
 (.seq (.reg [o 35 (.load true 4 (t 10)),o 11 (.alloc [.s (⟨#[]⟩),.i .i64 0,.i .i64 0,.s (⟨#[]⟩)]),on (.store 4 (t 11) (t 35)),o 12 (.mv (kb true))])
 (.seq (.seq (.reg [oF 36 0 10,oL 37 36,o 38 (.bin .neq (t 37) (ks (⟨#[]⟩)))])
 (.cond (t 38) (.reg [oM 40 0,oF 41 0 10,oL 42 41,o 43 (.mget none .s Zc10 true true (t 40) (t 42)),oM 39 43,oE 44 39 0,oE 45 39 1,on (.store 4 (t 11) (t 44)),oM 12 45])
 .skip))
 (.jn 13 q82_J13_b)))))
 (.reg [o 69 (.bin .add (t 30) (k 1)),oM 30 69]))))
def YcN(lo:Lo):Zp57->Option (Zp57⊕ ((Zt4×Bool×Int×Zt8×Bool×Bool)⊕ (Int×Zt8×Bool×Bool×Zt4))):=fun x=>match x with
  | (v28,v29,v30,h0_0,h0_1,h0_2,h0_3,b5_0,b5_1,fresh8)=>bif(decide (v30<v29))then(chk (0<=v30/\v30< (v28.length:Int)) (bif(!decide ((v28.getD v30.toNat ((YFf #[]),(0:Int),(0:Int),(YFf #[]))).1=(YFf #[])))then(YEV (Yd3 lo (v30,(mhs eqS ((v28.getD v30.toNat ((YFf #[]),(0:Int),(0:Int),(YFf #[]))).1) h0_1),v28,v29,v30,h0_0,h0_1,h0_2,h0_3,b5_0,b5_1,fresh8,(v28.getD v30.toNat ((YFf #[]),(0:Int),(0:Int),(YFf #[]))).1,(v28.getD v30.toNat ((YFf #[]),(0:Int),(0:Int),(YFf #[]))).2.1,(v28.getD v30.toNat ((YFf #[]),(0:Int),(0:Int),(YFf #[]))).2.2.1,(v28.getD v30.toNat ((YFf #[]),(0:Int),(0:Int),(YFf #[]))).2.2.2,(mgt eqS ((v28.getD v30.toNat ((YFf #[]),(0:Int),(0:Int),(YFf #[]))).1) h0_1 ((YFf #[]),(0:Int),(0:Int),(YFf #[]))).1,(mgt eqS ((v28.getD v30.toNat ((YFf #[]),(0:Int),(0:Int),(YFf #[]))).1) h0_1 ((YFf #[]),(0:Int),(0:Int),(YFf #[]))).2.1,(mgt eqS ((v28.getD v30.toNat ((YFf #[]),(0:Int),(0:Int),(YFf #[]))).1) h0_1 ((YFf #[]),(0:Int),(0:Int),(YFf #[]))).2.2.1,(mgt eqS ((v28.getD v30.toNat ((YFf #[]),(0:Int),(0:Int),(YFf #[]))).1) h0_1 ((YFf #[]),(0:Int),(0:Int),(YFf #[]))).2.2.2)) fun y337=>alt2 y337 (fun y338=>some (.inl (y338.1,y338.2.1,(YFg .i64 (y338.2.2.1+(1:Int))),y338.2.2.2.1,y338.2.2.2.2.1,y338.2.2.2.2.2.1,y338.2.2.2.2.2.2.1,y338.2.2.2.2.2.2.2.1,y338.2.2.2.2.2.2.2.2.1,y338.2.2.2.2.2.2.2.2.2))) (fun y339=>some (.inr (.inl (y339.1,y339.2.1,y339.2.2.1,y339.2.2.2.1,y339.2.2.2.2.1,y339.2.2.2.2.2)))))else(YEV (Yd3 lo (v30,true,v28,v29,v30,h0_0,h0_1,h0_2,h0_3,b5_0,b5_1,fresh8,(v28.getD v30.toNat ((YFf #[]),(0:Int),(0:Int),(YFf #[]))).1,(v28.getD v30.toNat ((YFf #[]),(0:Int),(0:Int),(YFf #[]))).2.1,(v28.getD v30.toNat ((YFf #[]),(0:Int),(0:Int),(YFf #[]))).2.2.1,(v28.getD v30.toNat ((YFf #[]),(0:Int),(0:Int),(YFf #[]))).2.2.2,(v28.getD v30.toNat ((YFf #[]),(0:Int),(0:Int),(YFf #[]))).1,(v28.getD v30.toNat ((YFf #[]),(0:Int),(0:Int),(YFf #[]))).2.1,(v28.getD v30.toNat ((YFf #[]),(0:Int),(0:Int),(YFf #[]))).2.2.1,(v28.getD v30.toNat ((YFf #[]),(0:Int),(0:Int),(YFf #[]))).2.2.2)) fun y340=>alt2 y340 (fun y341=>some (.inl (y341.1,y341.2.1,(YFg .i64 (y341.2.2.1+(1:Int))),y341.2.2.2.1,y341.2.2.2.2.1,y341.2.2.2.2.2.1,y341.2.2.2.2.2.2.1,y341.2.2.2.2.2.2.2.1,y341.2.2.2.2.2.2.2.2.1,y341.2.2.2.2.2.2.2.2.2))) (fun y342=>some (.inr (.inl (y342.1,y342.2.1,y342.2.2.1,y342.2.2.2.1,y342.2.2.2.2.1,y342.2.2.2.2.2)))))))else(some (.inr (.inr (h0_0,h0_1,h0_2,h0_3,fresh8))))
def Yf4(lo:Lo):Zp57->Option ((Zt4×Bool×Int×Zt8×Bool×Bool)⊕ (Int×Zt8×Bool×Bool×Zt4)):=lo.run (YcN lo)
def YwD(lo:Lo):LpE:=⟨3,[(8,none,false)],⟨[0,5,8,28,29,30],[.np 0,.ptr 1 0 0,.ref 2,.l Zc9,.i .i64,.i .i64],[.st [.i .i64,.l Zc16,.b,.b],.st [.s,.l Zc9],.sq (cs [.s])],Zc40⟩,[⟨.ret,⟨[6,7],[.l (cs [.s]),.b],[.st [.i .i64,.l Zc16,.b,.b]],(cs [.l (cs [.s]),.b,I,.l Zc16,.b,.b])⟩⟩,⟨.exit 0,⟨[8],[.ref 1],[.st [.i .i64,.l Zc16,.b,.b],.sq (cs [.s])],(cs [I,.l Zc16,.b,.b,.l (cs [.s])])⟩⟩],Yf4 lo⟩
def YwE(lo:Lo):LL:=(YwD lo,.loop q82_L3_b.er)::Ymu lo
theorem YwF(lo:Lo):Lk lo pf (fs82 lo) 1 (YwE lo):=.l (YwC lo) (YcN lo) rfl (by kernel_rfl) fun x=>by kernel_rfl
def q82(lo:Lo)(a1_0:ByteArray)(a1_1:List Zp76)(b2_0:ByteArray)(b2_1:List Zp76)(h0_0:Int)(h0_1:List (Int×ByteArray×ByteArray×Int×Int×ByteArray))(h0_2:Bool)(h0_3:Bool):Option (Zt4×Bool×Int×Zt8×Bool×Bool):=
  bif(!decide (a1_0=b2_0))then(some (([]:List ByteArray),false,h0_0,h0_1,h0_2,h0_3))else(bif(!decide ((a1_1.length:Int)=(b2_1.length:Int)))then(some (([]:List ByteArray),false,h0_0,h0_1,h0_2,h0_3))else(YEV (Yf4 lo (a1_1,(a1_1.length:Int),(0:Int),h0_0,h0_1,h0_2,h0_3,b2_0,b2_1,[])) fun y343=>alt2 y343 (fun y344=>some (y344.1,y344.2.1,y344.2.2.1,y344.2.2.2.1,y344.2.2.2.2.1,y344.2.2.2.2.2)) (fun y345=>some (y345.2.2.2.2,true,y345.1,y345.2.1,y345.2.2.1,y345.2.2.2.1))))
def YwG:VFn:=⟨true,71,[.t 6,.t 7],
 (.seq (.reg [o 4 (.box (t 1)),o 5 (.box (t 2)),o 6 (.mv (ke (cs [.s]))),o 7 (.mv (kb false))])
 (.seq (.reg [o 8 (.mv (ke (cs [.s])))])
 (.seq (.seq (.reg [oF 13 0 4,oL 14 13,oF 15 0 5,oL 16 15,o 17 (.bin .neq (t 14) (t 16)),oM 18 17,og 19 18 false (.fad 1 (t 4)),og 20 18 false (.load false 1 (t 19)),og 21 18 false (.len (t 20)),og 22 18 false (.fad 1 (t 5)),og 23 18 false (.load false 1 (t 22)),og 24 18 false (.len (t 23)),og 25 18 false (.bin .neq (t 21) (t 24)),o 26 (.pick (t 18) (kb true) (t 25))])
 (.cond (t 26) (.seq (.reg [o 6 (.mv (ke (cs [.s]))),o 7 (.mv (kb false))])
 (.fz [6] .ret))
 .skip))
 (.seq (.seq (.reg [oF 27 1 4,oL 28 27,oN 29 28,o 30 (.mv (k 0))])
 (.blk 0 (.loop 3 q82_L3_b)))
 (.seq (.reg [oM 70 8,oM 6 70,o 7 (.mv (kb true))])
 (.fz [6] .ret))))))⟩
def Ymv(lo:Lo):FnE:=⟨546,false,⟨[0,1,2],[.np 0,.ag [.s,.l Zc9],.ag [.s,.l Zc9]],[.st [.i .i64,.l Zc16,.b,.b]],(cs [.s,.l Zc9,.s,.l Zc9,I,.l Zc16,.b,.b])⟩,.tp [.l (cs [.s]),.b],[.st [.i .i64,.l Zc16,.b,.b]],(cs [.l (cs [.s]),.b,I,.l Zc16,.b,.b]),(fun x=>q82 lo x.1 x.2.1 x.2.2.1 x.2.2.2.1 x.2.2.2.2.1 x.2.2.2.2.2.1 x.2.2.2.2.2.2.1 x.2.2.2.2.2.2.2:ByteArray×Zt5×ByteArray×Zt5×Int×Zt8×Bool×Bool->Option (Zt4×Bool×Int×Zt8×Bool×Bool))⟩
noncomputable def fs83(lo:Lo):List FnE:=Ymv lo::fs82 lo
theorem YwH{P:Program}{fm:FM}{lo:Lo}(h:GZ P fm fs82 lo)(t:Ti P fm 546 YwG):GZ P fm fs83 lo:=
  h.i (Ymv lo) (YwF lo) t (by kernel_rfl) (by kernel_rfl) fun x=>by kernel_rfl
def Yf5(F:Zp75->Option (Bool×Int×Zt8×Bool×Bool)):FnE:=⟨520,false,⟨[0,1,2],[.np 0,.l Zc2,.l Zc2],[.st [.i .i64,.l Zc16,.b,.b]],(cs [.l Zc2,.l Zc2,I,.l Zc16,.b,.b])⟩,.b,[.st [.i .i64,.l Zc16,.b,.b]],(cs [.b,I,.l Zc16,.b,.b]),F⟩
def q83_L5_b:VCode:=
 (.seq (.reg [o 42 (.bin .lss (t 41) (t 40))])
 (.seq (.cond (t 42) .skip
 (.exit 2))
 (.seq (.blk 3 (.seq (.reg [o 43 (.iad 1 (t 39) (t 41)),oL 44 43,oM 12 44])
 (.reg [oM 45 0,oM 46 12,on (.mdel none .s Zc10 (t 45) (t 46))])))
 (.reg [o 47 (.bin .add (t 41) (k 1)),oM 41 47]))))
def YcO(lo:Lo)(rec:Zp75->Option (Bool×Int×Zt8×Bool×Bool)):Zp55->Option (Zp55⊕ (Zp61)):=fun x=>match x with
  | (rest1,to2,v16,v17,v18,v39,v40,v41,h0_0,h0_1,h0_2,h0_3)=>bif(decide (v41<v40))then(chk (0<=v41/\v41< (v39.length:Int)) (some (.inl (rest1,to2,v16,v17,v18,v39,v40,(YFg .i64 (v41+(1:Int))),h0_0,(mdl eqS (v39.getD v41.toNat (YFf #[])) h0_1),h0_2,h0_3))))else(some (.inr (rest1,to2,v16,v17,v18,h0_0,h0_1,h0_2,h0_3)))
def YbY(lo:Lo)(rec:Zp75->Option (Bool×Int×Zt8×Bool×Bool)):Zp55->Option (Zp61):=lo.run (YcO lo rec)
def YwI(lo:Lo)(rec:Zp75->Option (Bool×Int×Zt8×Bool×Bool)):LpE:=⟨5,[],⟨[0,1,2,16,17,18,39,40,41],[.np 0,.l Zc2,.l Zc2,.l Zc2,.i .i64,.i .i64,.l (cs [.s]),.i .i64,.i .i64],[.st [.i .i64,.l Zc16,.b,.b]],(cs [.l Zc2,.l Zc2,.l Zc2,I,I,.l (cs [.s]),I,I,I,.l Zc16,.b,.b])⟩,[⟨.exit 2,⟨[0,1,2,16,17,18],[.np 0,.l Zc2,.l Zc2,.l Zc2,.i .i64,.i .i64],[.st [.i .i64,.l Zc16,.b,.b]],(cs [.l Zc2,.l Zc2,.l Zc2,I,I,I,.l Zc16,.b,.b])⟩⟩],YbY lo rec⟩
def Ymw(lo:Lo)(rec:Zp75->Option (Bool×Int×Zt8×Bool×Bool)):LL:=(YwI lo rec,.loop q83_L5_b.er)::[]
theorem YwJ(lo:Lo)(rec:Zp75->Option (Bool×Int×Zt8×Bool×Bool)):Lk lo pf (Yf5 rec::fs83 lo) 1 (Ymw lo rec):=.l .n (YcO lo rec) rfl (by kernel_rfl) fun x=>by kernel_rfl
def q83_L3_b:VCode:=
 (.seq (.reg [o 19 (.bin .lss (t 18) (t 17))])
 (.seq (.cond (t 19) .skip
 (.exit 0))
 (.seq (.blk 1 (.seq (.reg [o 20 (.iad 2 (t 16) (t 18)),o 21 (.load true 2 (t 20)),o 8 (.alloc [.s (⟨#[]⟩),.e Zc9]),on (.store 2 (t 8) (t 21))])
 (.seq (.reg [oM 23 0,oM 24 1,o 25 (.iad 2 (t 24) (k 0)),o 26 (.load true 2 (t 25)),o 27 (.load true 2 (t 8)),o 28 (.call 546 [(t 23),(t 26),(t 27)]),oM 22 28,oE 29 22 0,oE 30 22 1,oM 9 29,oM 10 30])
 (.seq (.seq (.reg [oM 31 10,oM 32 31,og 33 32 true (.mv (t 0)),og 34 32 true (.mv (t 1)),og 35 32 true (.slcR 2 (t 34) (some (k 1)) none),og 36 32 true (.mv (t 2)),og 37 32 true (.call 520 [(t 33),(t 35),(t 36)]),o 38 (.pick (t 32) (t 37) (kb false))])
 (.cond (t 38) (.seq (.reg [o 6 (.mv (kb true))])
 .ret)
 .skip))
 (.seq (.reg [oM 39 9,oN 40 39,o 41 (.mv (k 0))])
 (.blk 2 (.loop 5 q83_L5_b)))))))
 (.reg [o 48 (.bin .add (t 18) (k 1)),oM 18 48]))))
def Ybh(lo:Lo)(rec:Zp75->Option (Bool×Int×Zt8×Bool×Bool)):Zp61->Option (Zp61⊕ ((Bool×Int×Zt8×Bool×Bool)⊕ (Int×Zt8×Bool×Bool))):=fun x=>match x with
  | (rest1,to2,v16,v17,v18,h0_0,h0_1,h0_2,h0_3)=>bif(decide (v18<v17))then(chk (0<=v18/\v18< (v16.length:Int)) (chk (0<=(0:Int)/\ (0:Int)< (rest1.length:Int)) (YEV (q82 lo ((rest1.getD 0 ((YFf #[]),[])).1) ((rest1.getD 0 ((YFf #[]),[])).2) ((v16.getD v18.toNat ((YFf #[]),[])).1) ((v16.getD v18.toNat ((YFf #[]),[])).2) h0_0 h0_1 h0_2 h0_3) fun y346=>bif y346.2.1 then(chk (0<=(1:Int)/\ (1:Int)<=(rest1.length:Int)/\ (rest1.length:Int)<=(rest1.length:Int)) (YEV (rec (((rest1.take (rest1.length:Int).toNat).drop 1),to2,y346.2.2.1,y346.2.2.2.1,y346.2.2.2.2.1,y346.2.2.2.2.2)) fun y347=>bif y347.1 then(some (.inr (.inl (true,y347.2.1,y347.2.2.1,y347.2.2.2.1,y347.2.2.2.2))))else(YEV (YbY lo rec (rest1,to2,v16,v17,v18,y346.1,(y346.1.length:Int),(0:Int),y347.2.1,y347.2.2.1,y347.2.2.2.1,y347.2.2.2.2)) fun y348=>some (.inl (y348.1,y348.2.1,y348.2.2.1,y348.2.2.2.1,(YFg .i64 (y348.2.2.2.2.1+(1:Int))),y348.2.2.2.2.2.1,y348.2.2.2.2.2.2.1,y348.2.2.2.2.2.2.2.1,y348.2.2.2.2.2.2.2.2)))))else(YEV (YbY lo rec (rest1,to2,v16,v17,v18,y346.1,(y346.1.length:Int),(0:Int),y346.2.2.1,y346.2.2.2.1,y346.2.2.2.2.1,y346.2.2.2.2.2)) fun y349=>some (.inl (y349.1,y349.2.1,y349.2.2.1,y349.2.2.2.1,(YFg .i64 (y349.2.2.2.2.1+(1:Int))),y349.2.2.2.2.2.1,y349.2.2.2.2.2.2.1,y349.2.2.2.2.2.2.2.1,y349.2.2.2.2.2.2.2.2))))))else(some (.inr (.inr (h0_0,h0_1,h0_2,h0_3))))
def YbZ(lo:Lo)(rec:Zp75->Option (Bool×Int×Zt8×Bool×Bool)):Zp61->Option ((Bool×Int×Zt8×Bool×Bool)⊕ (Int×Zt8×Bool×Bool)):=lo.run (Ybh lo rec)
def YwK(lo:Lo)(rec:Zp75->Option (Bool×Int×Zt8×Bool×Bool)):LpE:=⟨3,[],⟨[0,1,2,16,17,18],[.np 0,.l Zc2,.l Zc2,.l Zc2,.i .i64,.i .i64],[.st [.i .i64,.l Zc16,.b,.b]],(cs [.l Zc2,.l Zc2,.l Zc2,I,I,I,.l Zc16,.b,.b])⟩,[⟨.ret,⟨[6],[.b],[.st [.i .i64,.l Zc16,.b,.b]],(cs [.b,I,.l Zc16,.b,.b])⟩⟩,⟨.exit 0,⟨[],[],[.st [.i .i64,.l Zc16,.b,.b]],(cs [I,.l Zc16,.b,.b])⟩⟩],YbZ lo rec⟩
def Ymx(lo:Lo)(rec:Zp75->Option (Bool×Int×Zt8×Bool×Bool)):LL:=(YwK lo rec,.loop q83_L3_b.er)::Ymw lo rec
theorem YwL(lo:Lo)(rec:Zp75->Option (Bool×Int×Zt8×Bool×Bool)):Lk lo pf (Yf5 rec::fs83 lo) 1 (Ymx lo rec):=.l (YwJ lo rec) (Ybh lo rec) rfl (by kernel_rfl) fun x=>by kernel_rfl
def Yb0(lo:Lo)(rec:Zp75->Option (Bool×Int×Zt8×Bool×Bool))(rest1:List (ByteArray×Zt5))(to2:List (ByteArray×Zt5))(h0_0:Int)(h0_1:List (Int×ByteArray×ByteArray×Int×Int×ByteArray))(h0_2:Bool)(h0_3:Bool):Option (Bool×Int×Zt8×Bool×Bool):=
  bif(decide ((rest1.length:Int)=(0:Int)))then(some (true,h0_0,h0_1,h0_2,h0_3))else(YEV (YbZ lo rec (rest1,to2,to2,(to2.length:Int),(0:Int),h0_0,h0_1,h0_2,h0_3)) fun y350=>alt2 y350 (fun y351=>some (y351.1,y351.2.1,y351.2.2.1,y351.2.2.2.1,y351.2.2.2.2)) (fun y352=>some (false,y352.1,y352.2.1,y352.2.2.1,y352.2.2.2)))
def YaV(lo:Lo):Nat->Zt0×Zt0×Int×Zt8×Bool×Bool->Option (Bool×Int×Zt8×Bool×Bool)
  |0,_=>none
  |n+1,x=>Yb0 lo (YaV lo n) x.1 x.2.1 x.2.2.1 x.2.2.2.1 x.2.2.2.2.1 x.2.2.2.2.2
def q83(lo:Lo)(rest1:List (ByteArray×Zt5))(to2:List (ByteArray×Zt5))(h0_0:Int)(h0_1:List (Int×ByteArray×ByteArray×Int×Int×ByteArray))(h0_2:Bool)(h0_3:Bool):Option (Bool×Int×Zt8×Bool×Bool):=lo.run (fixS (YaV lo)) (0,(rest1,to2,h0_0,h0_1,h0_2,h0_3))
def YwM:VFn:=⟨true,49,[.t 6],
 (.seq (.reg [o 6 (.mv (kb false))])
 (.seq (.seq (.reg [oM 13 1,oN 14 13,o 15 (.bin .eql (t 14) (k 0))])
 (.cond (t 15) (.seq (.reg [o 6 (.mv (kb true))])
 .ret)
 .skip))
 (.seq (.seq (.reg [oM 16 2,oN 17 16,o 18 (.mv (k 0))])
 (.blk 0 (.loop 3 q83_L3_b)))
 (.seq (.reg [o 6 (.mv (kb false))])
 .ret))))⟩
def Ymy(lo:Lo):FnE:=Yf5 (fun x=>q83 lo x.1 x.2.1 x.2.2.1 x.2.2.2.1 x.2.2.2.2.1 x.2.2.2.2.2)
noncomputable def fs84(lo:Lo):List FnE:=Ymy lo::fs83 lo
theorem YwN{P:Program}{fm:FM}{lo:Lo}(h:GZ P fm fs83 lo)(t:Ti P fm 520 YwM):GZ P fm fs84 lo:=
  h.ir (Ymy lo) (YaV lo) (ls:=fun rec=>Ymx lo rec) (fun rec=>(YwL lo rec)) t (by kernel_rfl) (fun _=>rfl) rfl (fun _=>by kernel_rfl) fun n x=>by kernel_rfl
def q84_L5_b:VCode:=
 (.seq (.reg [o 18 (.bin .lss (t 17) (t 16))])
 (.seq (.cond (t 18) .skip
 (.exit 2))
 (.seq (.blk 3 (.seq (.reg [o 19 (.iad 4 (t 15) (t 17)),o 20 (.load true 4 (t 19)),o 7 (.alloc [.s (⟨#[]⟩),.i .i64 0,.i .i64 0,.s (⟨#[]⟩)]),on (.store 4 (t 7) (t 20))])
 (.seq (.reg [oF 21 0 7,oL 22 21,o 23 (.bin .neq (t 22) (ks (⟨#[]⟩))),oM 24 23,og 25 24 true (.mv (t 3)),og 26 24 true (.fad 0 (t 7)),og 27 24 true (.load false 1 (t 26)),og 28 24 true (.call 256 [(t 25),(t 27)]),og 29 24 true (.not (t 28)),o 30 (.pick (t 24) (t 29) (kb false))])
 (.cond (t 30) (.reg [oM 31 3,oF 32 0 7,oL 33 32,o 34 (.bsl (cs [.s]) 1 [(0,(t 33))]),o 35 (.app (cs [.s]) 0 (t 31) (t 34)),oM 3 35])
 .skip))))
 (.reg [o 36 (.bin .add (t 17) (k 1)),oM 17 36]))))
def Yd4(lo:Lo):Zp71->Option (Zp71⊕ ((Zt0×Int×Int×Zt4))):=fun x=>match x with
  | (v8,v9,v10,v15,v16,v17,out3)=>bif(decide (v17<v16))then(chk (0<=v17/\v17< (v15.length:Int)) (bif(!decide ((v15.getD v17.toNat ((YFf #[]),(0:Int),(0:Int),(YFf #[]))).1=(YFf #[])))then(YEV (q5 lo out3 ((v15.getD v17.toNat ((YFf #[]),(0:Int),(0:Int),(YFf #[]))).1)) fun y354=>bif(!y354)then(chk (out3.length+([(v15.getD v17.toNat ((YFf #[]),(0:Int),(0:Int),(YFf #[]))).1]).length<=maxEl) (some (.inl (v8,v9,v10,v15,v16,(YFg .i64 (v17+(1:Int))),(out3++([(v15.getD v17.toNat ((YFf #[]),(0:Int),(0:Int),(YFf #[]))).1]))))))else(some (.inl (v8,v9,v10,v15,v16,(YFg .i64 (v17+(1:Int))),out3))))else(some (.inl (v8,v9,v10,v15,v16,(YFg .i64 (v17+(1:Int))),out3)))))else(some (.inr (v8,v9,v10,out3)))
def Yf6(lo:Lo):Zp71->Option ((Zt0×Int×Int×Zt4)):=lo.run (Yd4 lo)
def YwO(lo:Lo):LpE:=⟨5,[],⟨[3,8,9,10,15,16,17],[.ref 0,.l Zc2,.i .i64,.i .i64,.l Zc9,.i .i64,.i .i64],[.sq (cs [.s])],(cs [.l Zc2,I,I,.l Zc9,I,I,.l (cs [.s])])⟩,[⟨.exit 2,⟨[3,8,9,10],[.ref 0,.l Zc2,.i .i64,.i .i64],[.sq (cs [.s])],(cs [.l Zc2,I,I,.l (cs [.s])])⟩⟩],Yf6 lo⟩
def Ymz(lo:Lo):LL:=(YwO lo,.loop q84_L5_b.er)::[]
theorem YwP(lo:Lo):Lk lo pf (fs84 lo) 0 (Ymz lo):=.l .n (Yd4 lo) rfl (by kernel_rfl) fun x=>by kernel_rfl
def q84_L3_b:VCode:=
 (.seq (.reg [o 11 (.bin .lss (t 10) (t 9))])
 (.seq (.cond (t 11) .skip
 (.exit 0))
 (.seq (.blk 1 (.seq (.reg [o 12 (.iad 2 (t 8) (t 10)),o 13 (.load true 2 (t 12)),o 5 (.alloc [.s (⟨#[]⟩),.e Zc9]),on (.store 2 (t 5) (t 13))])
 (.seq (.reg [oF 14 1 5,oL 15 14,oN 16 15,o 17 (.mv (k 0))])
 (.blk 2 (.loop 5 q84_L5_b)))))
 (.reg [o 37 (.bin .add (t 10) (k 1)),oM 10 37]))))
def Yd5(lo:Lo):Zt0×Int×Int×Zt4->Option ((Zt0×Int×Int×Zt4)⊕ ((Zt4))):=fun x=>match x with
  | (v8,v9,v10,out3)=>bif(decide (v10<v9))then(chk (0<=v10/\v10< (v8.length:Int)) (YEV (Yf6 lo (v8,v9,v10,(v8.getD v10.toNat ((YFf #[]),[])).2,(((v8.getD v10.toNat ((YFf #[]),[])).2).length:Int),(0:Int),out3)) fun y355=>some (.inl (y355.1,y355.2.1,(YFg .i64 (y355.2.2.1+(1:Int))),y355.2.2.2))))else(some (.inr out3))
def Yf7(lo:Lo):Zt0×Int×Int×Zt4->Option ((Zt4)):=lo.run (Yd5 lo)
def YwQ(lo:Lo):LpE:=⟨3,[(3,none,false)],⟨[3,8,9,10],[.ref 0,.l Zc2,.i .i64,.i .i64],[.sq (cs [.s])],(cs [.l Zc2,I,I,.l (cs [.s])])⟩,[⟨.exit 0,⟨[3],[.ref 0],[.sq (cs [.s])],Zc27⟩⟩],Yf7 lo⟩
def YwR(lo:Lo):LL:=(YwQ lo,.loop q84_L3_b.er)::Ymz lo
theorem YwS(lo:Lo):Lk lo pf (fs84 lo) 0 (YwR lo):=.l (YwP lo) (Yd5 lo) rfl (by kernel_rfl) fun x=>by kernel_rfl
def q84(lo:Lo)(l0:List (ByteArray×Zt5)):Option (Zt4):=
  YEV (Yf7 lo (l0,(l0.length:Int),(0:Int),[])) fun y356=>some y356
def YwT:VFn:=⟨true,39,[.t 2],
 (.seq (.reg [o 2 (.mv (ke (cs [.s])))])
 (.seq (.reg [o 3 (.mv (ke (cs [.s])))])
 (.seq (.seq (.reg [oM 8 0,oN 9 8,o 10 (.mv (k 0))])
 (.blk 0 (.loop 3 q84_L3_b)))
 (.seq (.reg [oM 38 3,oM 2 38])
 (.fz [2] .ret)))))⟩
def YmA(lo:Lo):FnE:=⟨521,true,⟨[0],[.l Zc2],[],Zc37⟩,.l (cs [.s]),[],Zc27,(fun x=>q84 lo x:Zt0->Option (Zt4))⟩
noncomputable def fs85(lo:Lo):List FnE:=YmA lo::fs84 lo
theorem YwU{P:Program}{fm:FM}{lo:Lo}(h:GZ P fm fs84 lo)(t:Ti P fm 521 YwT):GZ P fm fs85 lo:=
  h.p (YmA lo) (YwS lo) t (by kernel_rfl) (by kernel_rfl) fun x=>by kernel_rfl
end Go.Abs.G47
namespace Go.Abs.G47
open Go Go.Abs
set_option maxRecDepth 100000
set_option maxHeartbeats 1000000
def q85_L14_b:VCode:=
 (.seq (.reg [o 34 (.bin .lss (t 33) (t 32))])
 (.seq (.cond (t 34) .skip
 (.exit 0))
 (.seq (.blk 1 (.seq (.reg [oM 35 33,o 36 (.iad 1 (t 31) (t 33)),oL 37 36,oM 7 35,oM 8 37])
 (.reg [oM 38 6,oM 39 8,oF 40 0 3,oL 41 40,oM 42 7,o 43 (.iad 1 (t 41) (t 42)),oL 44 43,o 45 (.build [.s (⟨#[]⟩),.i .i64 0,.i .i64 0,.s (⟨#[]⟩)] [(0,1,(t 44))]),on (.mput none .s Zc10 true (t 38) (t 39) (t 45))])))
 (.reg [o 46 (.bin .add (t 33) (k 1)),oM 33 46]))))
def Yd6(lo:Lo):Zp58->Option (Zp58⊕ ((Zt4×Zt0×Zt4×Zt0×Int×Zt8×Bool×Bool))):=fun x=>match x with
  | (v31,v32,v33,from2_0,from2_1,to3_0,to3_1,h2_0,h2_1,h2_2,h2_3)=>bif(decide (v33<v32))then(chk (0<=v33/\v33< (v31.length:Int)) (chk (0<=v33/\v33< (to3_0.length:Int)) (some (.inl (v31,v32,(YFg .i64 (v33+(1:Int))),from2_0,from2_1,to3_0,to3_1,(mck eqS h2_0 (v31.getD v33.toNat (YFf #[])) h2_1),(mpt eqS h2_0 (v31.getD v33.toNat (YFf #[])) ((to3_0.getD v33.toNat (YFf #[])),(0:Int),(0:Int),(YFf #[])) h2_1),h2_2,h2_3)))))else(some (.inr (from2_0,from2_1,to3_0,to3_1,h2_0,h2_1,h2_2,h2_3)))
def Yf8(lo:Lo):Zp58->Option ((Zt4×Zt0×Zt4×Zt0×Int×Zt8×Bool×Bool)):=lo.run (Yd6 lo)
def YwV(lo:Lo):LpE:=⟨14,[],⟨[2,3,6,31,32,33],[.ptr 0 0 0,.ptr 1 0 0,.np 2,.l (cs [.s]),.i .i64,.i .i64],[.st [.l (cs [.s]),.l Zc2],.st [.l (cs [.s]),.l Zc2],.st [.i .i64,.l Zc16,.b,.b]],(cs [.l (cs [.s]),I,I,.l (cs [.s]),.l Zc2,.l (cs [.s]),.l Zc2,I,.l Zc16,.b,.b])⟩,[⟨.exit 0,⟨[2,3,6],[.ptr 0 0 0,.ptr 1 0 0,.np 2],[.st [.l (cs [.s]),.l Zc2],.st [.l (cs [.s]),.l Zc2],.st [.i .i64,.l Zc16,.b,.b]],(cs [.l (cs [.s]),.l Zc2,.l (cs [.s]),.l Zc2,I,.l Zc16,.b,.b])⟩⟩],Yf8 lo⟩
def YmB(lo:Lo):LL:=(YwV lo,.loop q85_L14_b.er)::[]
theorem YwW(lo:Lo):Lk lo pf (fs85 lo) 0 (YmB lo):=.l .n (Yd6 lo) rfl (by kernel_rfl) fun x=>by kernel_rfl
def q85_L3_b:VCode:=
 (.seq (.reg [o 59 (.bin .lss (t 58) (t 57))])
 (.seq (.cond (t 59) .skip
 (.exit 2))
 (.seq (.blk 3 (.seq (.reg [o 60 (.iad 1 (t 56) (t 58)),oL 61 60,oM 11 61])
 (.reg [oM 62 9,oM 63 6,oM 64 11,o 65 (.mget none .s Zc10 true false (t 63) (t 64)),o 66 (.bsl Zc9 1 [(0,(t 65))]),o 67 (.app Zc9 0 (t 62) (t 66)),oM 9 67])))
 (.reg [o 68 (.bin .add (t 58) (k 1)),oM 58 68]))))
def Yd7(lo:Lo):Zp66->Option (Zp66⊕ ((Zt5))):=fun x=>match x with
  | (v56,v57,v58,h0_0,h0_1,h0_2,h0_3,out9)=>bif(decide (v58<v57))then(chk (0<=v58/\v58< (v56.length:Int)) (chk (out9.length+([(mgt eqS (v56.getD v58.toNat (YFf #[])) h0_1 ((YFf #[]),(0:Int),(0:Int),(YFf #[])))]).length<=maxEl) (some (.inl (v56,v57,(YFg .i64 (v58+(1:Int))),h0_0,h0_1,h0_2,h0_3,(out9++([(mgt eqS (v56.getD v58.toNat (YFf #[])) h0_1 ((YFf #[]),(0:Int),(0:Int),(YFf #[])))])))))))else(some (.inr out9))
def Yf9(lo:Lo):Zp66->Option ((Zt5)):=lo.run (Yd7 lo)
def YwX(lo:Lo):LpE:=⟨3,[(9,none,false)],⟨[6,9,56,57,58],[.np 0,.ref 1,.l (cs [.s]),.i .i64,.i .i64],[.st [.i .i64,.l Zc16,.b,.b],.sq Zc9],(cs [.l (cs [.s]),I,I,I,.l Zc16,.b,.b,.l Zc9])⟩,[⟨.exit 2,⟨[9],[.ref 0],[.sq Zc9],(cs [.l Zc9])⟩⟩],Yf9 lo⟩
def YwY(lo:Lo):LL:=(YwX lo,.loop q85_L3_b.er)::YmB lo
theorem YwZ(lo:Lo):Lk lo pf (fs85 lo) 0 (YwY lo):=.l (YwW lo) (Yd7 lo) rfl (by kernel_rfl) fun x=>by kernel_rfl
def q85(lo:Lo)(from0_0:List ByteArray)(from0_1:List (ByteArray×Zt5))(to1_0:List ByteArray)(to1_1:List (ByteArray×Zt5)):Option (Zt5×Bool):=
  YEV (q77 lo from0_0 from0_1) fun y325=>bif(!y325)then(some (([]:List Zp76),false))else(YEV (q77 lo to1_0 to1_1) fun y326=>bif(!y326)then(some (([]:List Zp76),false))else(bif(!decide ((from0_0.length:Int)=(to1_0.length:Int)))then(some (([]:List Zp76),false))else(YEV (Yf8 lo (from0_0,(from0_0.length:Int),(0:Int),from0_0,from0_1,to1_0,to1_1,(0:Int),([]:List (Int×ByteArray×ByteArray×Int×Int×ByteArray)),false,false)) fun y327=>YEV (q83 lo y327.2.1 y327.2.2.2.1 y327.2.2.2.2.1 y327.2.2.2.2.2.1 y327.2.2.2.2.2.2.1 y327.2.2.2.2.2.2.2) fun y353=>bif(!y353.1)then(some (([]:List Zp76),false))else(YEV (q84 lo y327.2.1) fun y357=>YEV (Yf9 lo (y357,(y357.length:Int),(0:Int),y353.2.1,y353.2.2.1,y353.2.2.2.1,y353.2.2.2.2,[])) fun y358=>some (y358,true)))))
def Yw0:VFn:=⟨true,70,[.t 4,.t 5],
 (.seq (.reg [o 2 (.box (t 0)),o 3 (.box (t 1)),o 4 (.mv (ke Zc9)),o 5 (.mv (kb false))])
 (.seq (.seq (.reg [o 12 (.load true 2 (t 2)),o 13 (.call 519 [(t 12)]),o 14 (.not (t 13)),oM 15 14,og 16 15 false (.load true 2 (t 3)),og 17 15 false (.call 519 [(t 16)]),og 18 15 false (.not (t 17)),o 19 (.pick (t 15) (kb true) (t 18)),oM 20 19,og 21 20 false (.fad 0 (t 2)),og 22 20 false (.load false 1 (t 21)),og 23 20 false (.len (t 22)),og 24 20 false (.fad 0 (t 3)),og 25 20 false (.load false 1 (t 24)),og 26 20 false (.len (t 25)),og 27 20 false (.bin .neq (t 23) (t 26)),o 28 (.pick (t 20) (kb true) (t 27))])
 (.cond (t 28) (.seq (.reg [o 4 (.mv (ke Zc9)),o 5 (.mv (kb false))])
 (.fz [4,5] .ret))
 .skip))
 (.seq (.reg [o 29 (.mkm none .s Zc10 true),oM 6 29])
 (.seq (.seq (.reg [oF 30 0 2,oL 31 30,oN 32 31,o 33 (.mv (k 0))])
 (.blk 0 (.loop 14 q85_L14_b)))
 (.seq (.seq (.reg [oM 47 6,oF 48 1 2,oL 49 48,oF 50 1 3,oL 51 50,o 52 (.call 520 [(t 47),(t 49),(t 51)]),o 53 (.not (t 52))])
 (.cond (t 53) (.seq (.reg [o 4 (.mv (ke Zc9)),o 5 (.mv (kb false))])
 (.fz [4,5] .ret))
 .skip))
 (.seq (.reg [o 9 (.mv (ke Zc9))])
 (.seq (.seq (.reg [oF 54 1 2,oL 55 54,o 56 (.call 521 [(t 55)]),oN 57 56,o 58 (.mv (k 0))])
 (.blk 2 (.loop 3 q85_L3_b)))
 (.seq (.reg [oM 69 9,oM 4 69,o 5 (.mv (kb true))])
 (.fz [4,5] .ret)))))))))⟩
def YmC(lo:Lo):FnE:=⟨479,true,⟨[0,1],[.ag [.l (cs [.s]),.l Zc2],.ag [.l (cs [.s]),.l Zc2]],[],Zc19⟩,.tp [.l Zc9,.b],[],(cs [.l Zc9,.b]),(fun x=>q85 lo x.1 x.2.1 x.2.2.1 x.2.2.2:Zt4×Zt0×Zt4×Zt0->Option (Zt5×Bool))⟩
noncomputable def fs86(lo:Lo):List FnE:=YmC lo::fs85 lo
theorem Yw1{P:Program}{fm:FM}{lo:Lo}(h:GZ P fm fs85 lo)(t:Ti P fm 479 Yw0):GZ P fm fs86 lo:=
  h.p (YmC lo) (YwZ lo) t (by kernel_rfl) (by kernel_rfl) fun x=>by kernel_rfl
def q86(lo:Lo)(p0_0:List ByteArray)(p0_1:List (ByteArray×Zt5))(q1_0:List ByteArray)(q1_1:List (ByteArray×Zt5)):Option Bool:=
  YEV (q85 lo q1_0 q1_1 p0_0 p0_1) fun y359=>some y359.2
def Yw2:VFn:=⟨true,14,[.t 4],
 (.seq (.reg [o 2 (.box (t 0)),o 3 (.box (t 1)),o 4 (.mv (kb false))])
 (.seq (.reg [o 8 (.load true 2 (t 3)),o 9 (.load true 2 (t 2)),o 10 (.call 479 [(t 8),(t 9)]),oM 7 10,oE 11 7 0,oE 12 7 1,oM 5 11,oM 6 12])
 (.seq (.reg [oM 13 6,oM 4 13])
 (.fz [4] .ret))))⟩
def YmD(lo:Lo):FnE:=⟨482,true,⟨[0,1],[.ag [.l (cs [.s]),.l Zc2],.ag [.l (cs [.s]),.l Zc2]],[],Zc19⟩,.b,[],(cs [.b]),(fun x=>q86 lo x.1 x.2.1 x.2.2.1 x.2.2.2:Zt4×Zt0×Zt4×Zt0->Option Bool)⟩
noncomputable def fs87(lo:Lo):List FnE:=YmD lo::fs86 lo
theorem Yw3{P:Program}{fm:FM}{lo:Lo}(h:GZ P fm fs86 lo)(t:Ti P fm 482 Yw2):GZ P fm fs87 lo:=
  h.p (YmD lo) .n t (by kernel_rfl) (by kernel_rfl) fun x=>by kernel_rfl
def q87_L11_b:VCode:=
 (.seq (.reg [o 21 (.bin .lss (t 20) (t 19))])
 (.seq (.cond (t 21) .skip
 (.exit 0))
 (.seq (.blk 1 (.seq (.reg [o 22 (.iad 2 (t 18) (t 20)),o 23 (.load true 2 (t 22)),o 6 (.alloc [.s (⟨#[]⟩),.e Zc9]),on (.store 2 (t 6) (t 23))])
 (.reg [oF 24 1 4,⟨some 25,.load false 1 (t 24),none,true,false⟩,oF 26 0 6,⟨some 27,.load false 1 (t 26),none,true,false⟩,oF 28 1 6,oL 29 28,o 30 (.callN 527 [(t 29)] true),o 31 (.build [.s (⟨#[]⟩),.e Zc9] [(0,1,(t 27)),(1,1,(t 30))]),o 32 (.bsl Zc2 1 [(0,(t 31))]),o 33 (.app Zc2 0 (t 25) (t 32)),oF 34 1 4,on (.store 1 (t 34) (t 33))])))
 (.reg [o 35 (.bin .add (t 20) (k 1)),oM 20 35]))))
def Yd8(lo:Lo):Zp72->Option (Zp72⊕ ((Zt4×Zt0×Zt4×Zt0))):=fun x=>match x with
  | (v18,v19,v20,v2_0,v2_1,h2,h3)=>bif(decide (v20<v19))then(chk (0<=v20/\v20< (v18.length:Int)) (YEV (q79 lo ((v18.getD v20.toNat ((YFf #[]),[])).2)) fun y363=>chk (h3.length+([((v18.getD v20.toNat ((YFf #[]),[])).1,y363)]).length<=maxEl) (some (.inl (v18,v19,(YFg .i64 (v20+(1:Int))),v2_0,v2_1,h2,(h3++([((v18.getD v20.toNat ((YFf #[]),[])).1,y363)])))))))else(some (.inr (v2_0,v2_1,h2,h3)))
def Yga(lo:Lo):Zp72->Option ((Zt4×Zt0×Zt4×Zt0)):=lo.run (Yd8 lo)
def Yw4(lo:Lo):LpE:=⟨11,[(4,some 1,false)],⟨[2,4,18,19,20],[.ptr 0 0 0,.ptr 1 0 0,.l Zc2,.i .i64,.i .i64],[.st [.l (cs [.s]),.l Zc2],.st [.ref 2,.ref 3],.sq (cs [.s]),.sq Zc2],(cs [.l Zc2,I,I,.l (cs [.s]),.l Zc2,.l (cs [.s]),.l Zc2])⟩,[⟨.exit 0,⟨[2,4],[.ptr 0 0 0,.ptr 1 0 0],[.st [.l (cs [.s]),.l Zc2],.st [.ref 2,.ref 3],.sq (cs [.s]),.sq Zc2],Zc19⟩⟩],Yga lo⟩
def YmE(lo:Lo):LL:=(Yw4 lo,.loop q87_L11_b.er)::[]
theorem Yw5(lo:Lo):Lk lo pf (fs87 lo) 0 (YmE lo):=.l .n (Yd8 lo) rfl (by kernel_rfl) fun x=>by kernel_rfl
def q87_L3_b:VCode:=
 (.seq (.seq (.reg [oM 36 7,oF 37 1 4,oL 38 37,oN 39 38,o 40 (.bin .lss (t 36) (t 39))])
 (.cond (t 40) .skip
 (.exit 2)))
 (.blk 3 (.seq (.fz [38] (.reg [oF 41 0 4,⟨some 42,.load false 1 (t 41),none,true,false⟩,oF 43 1 4,⟨some 44,.load false 1 (t 43),none,true,false⟩,oM 45 7,o 46 (.slcR 2 (t 44) none (some (t 45))),oF 47 1 4,⟨some 48,.load false 1 (t 47),none,true,false⟩,oM 49 7,o 50 (.bin .add (t 49) (k 1)),o 51 (.slcR 2 (t 48) (some (t 50)) none),o 52 (.bsl Zc37 2 [(0,(t 46)),(1,(t 51))]),⟨some 53,.call 528 [(t 52)],none,true,false⟩,o 54 (.build [.e (cs [.s]),.e Zc2] [(0,1,(t 42)),(1,1,(t 53))]),o 8 (.alloc [.e (cs [.s]),.e Zc2]),on (.store 2 (t 8) (t 54))]))
 (.seq (.reg [o 55 (.load true 2 (t 8)),o 56 (.call 519 [(t 55)]),oM 57 56,og 58 57 true (.load true 2 (t 8)),og 59 57 true (.load true 2 (t 4)),og 60 57 true (.call 482 [(t 58),(t 59)]),o 61 (.pick (t 57) (t 60) (kb false))])
 (.cond (t 61) (.reg [o 62 (.load true 2 (t 8)),on (.store 2 (t 4) (t 62))])
 (.reg [oM 63 7,o 64 (.bin .add (t 63) (k 1)),oM 7 64]))))))
def Yd9(lo:Lo):Int×Zt4×Zt0×Zt0×Zt4->Option ((Int×Zt4×Zt0×Zt0×Zt4)⊕ ((Zt4×Zt0×Zt0×Zt4))):=fun x=>match x with
  | (i7,v2_0,v2_1,out4,h2)=>bif(decide (i7< (out4.length:Int)))then(chk (0<=(0:Int)/\ (0:Int)<=i7/\i7<=(out4.length:Int)) (chk (0<=(YFg .i64 (i7+(1:Int)))/\ (YFg .i64 (i7+(1:Int)))<=(out4.length:Int)/\ (out4.length:Int)<=(out4.length:Int)) (YEV (q81 lo ([((out4.take i7.toNat).drop 0),((out4.take (out4.length:Int).toNat).drop (YFg .i64 (i7+(1:Int))).toNat)])) fun y365=>YEV (q77 lo h2 y365) fun y366=>bif y366 then(YEV (q86 lo h2 y365 h2 out4) fun y367=>bif y367 then(some (.inl (i7,v2_0,v2_1,y365,h2)))else(some (.inl ((YFg .i64 (i7+(1:Int))),v2_0,v2_1,out4,h2))))else(some (.inl ((YFg .i64 (i7+(1:Int))),v2_0,v2_1,out4,h2))))))else(some (.inr (v2_0,v2_1,out4,h2)))
def Yb1(lo:Lo):Int×Zt4×Zt0×Zt0×Zt4->Option ((Zt4×Zt0×Zt0×Zt4)):=lo.run (Yd9 lo)
def Yw6(lo:Lo):LpE:=⟨3,[(4,some 1,false)],⟨[2,4,7],[.ptr 0 0 0,.ptr 1 0 0,.i .i64],[.st [.l (cs [.s]),.l Zc2],.st [.ref 2,.l Zc2],.sq (cs [.s])],(cs [I,.l (cs [.s]),.l Zc2,.l Zc2,.l (cs [.s])])⟩,[⟨.exit 2,⟨[2,4],[.ptr 0 0 0,.ptr 1 0 0],[.st [.l (cs [.s]),.l Zc2],.st [.ref 2,.l Zc2],.sq (cs [.s])],(cs [.l (cs [.s]),.l Zc2,.l Zc2,.l (cs [.s])])⟩⟩],Yb1 lo⟩
def Yw7(lo:Lo):LL:=(Yw6 lo,.loop q87_L3_b.er)::YmE lo
theorem Yw8(lo:Lo):Lk lo pf (fs87 lo) 0 (Yw7 lo):=.l (Yw5 lo) (Yd9 lo) rfl (by kernel_rfl) fun x=>by kernel_rfl
def q87(lo:Lo)(q0_0:List ByteArray)(q0_1:List (ByteArray×Zt5)):Option (Zt4×Zt0×Int):=
  YEV (q77 lo q0_0 q0_1) fun y361=>bif(!y361)then(some (([]:List ByteArray),([]:List (ByteArray×Zt5)),(1:Int)))else(YEV (q78 lo q0_0) fun y362=>YEV (Yga lo (q0_1,(q0_1.length:Int),(0:Int),([]:List ByteArray),([]:List (ByteArray×Zt5)),y362,[])) fun y364=>YEV (Yb1 lo ((0:Int),y364.1,y364.2.1,y364.2.2.2,y364.2.2.1)) fun y368=>some (y368.2.2.2,y368.2.2.1,(0:Int)))
def Yw9:VFn:=⟨true,66,[.c 2 true 2,.t 3],
 (.seq (.reg [o 1 (.box (t 0)),o 2 (.alloc [.e (cs [.s]),.e Zc2]),o 3 (.mv (k 0))])
 (.seq (.seq (.reg [o 9 (.load true 2 (t 1)),o 10 (.call 519 [(t 9)]),o 11 (.not (t 10))])
 (.cond (t 11) (.seq (.reg [o 12 (.build [.e (cs [.s]),.e Zc2] []),on (.store 2 (t 2) (t 12)),o 3 (.mv (k 1))])
 (.fz [2,3] .ret))
 .skip))
 (.seq (.reg [oF 13 0 1,oL 14 13,o 15 (.call 269 [(t 14)]),o 16 (.build [.e (cs [.s]),.e Zc2] [(0,1,(t 15))]),o 4 (.alloc [.e (cs [.s]),.e Zc2]),on (.store 2 (t 4) (t 16))])
 (.seq (.seq (.reg [oF 17 1 1,oL 18 17,oN 19 18,o 20 (.mv (k 0))])
 (.blk 0 (.loop 11 q87_L11_b)))
 (.seq (.seq (.reg [o 7 (.mv (k 0))])
 (.blk 2 (.fz [2000004] (.loop 3 q87_L3_b))))
 (.seq (.reg [o 65 (.load true 2 (t 4)),on (.store 2 (t 2) (t 65)),o 3 (.mv (k 0))])
 (.fz [2,3] .ret)))))))⟩
def YmF(lo:Lo):FnE:=⟨484,true,⟨[0],[.ag [.l (cs [.s]),.l Zc2]],[],Zc20⟩,.tp [.ag [.l (cs [.s]),.l Zc2],.i .i64],[],(cs [.l (cs [.s]),.l Zc2,I]),(fun x=>q87 lo x.1 x.2:Zt4×Zt0->Option (Zt4×Zt0×Int))⟩
noncomputable def fs88(lo:Lo):List FnE:=YmF lo::fs87 lo
theorem Yxa{P:Program}{fm:FM}{lo:Lo}(h:GZ P fm fs87 lo)(t:Ti P fm 484 Yw9):GZ P fm fs88 lo:=
  h.p (YmF lo) (Yw8 lo) t (by kernel_rfl) (by kernel_rfl) fun x=>by kernel_rfl
def q88(lo:Lo)(i0:Int):Option ByteArray:=
  bif(decide (i0< (10:Int)))then(chk (0<=i0/\i0<=(YFg .i64 (i0+(1:Int)))/\ (YFg .i64 (i0+(1:Int)))<=((YFf #[48,49,50,51,52,53,54,55,56,57,97,98,99,100,101,102,103,104,105,106,107,108,109,110,111,112,113,114,115,116,117,118,119,120,121,122]).size:Int)) (some ((YFf #[48,49,50,51,52,53,54,55,56,57,97,98,99,100,101,102,103,104,105,106,107,108,109,110,111,112,113,114,115,116,117,118,119,120,121,122]).extract i0.toNat (YFg .i64 (i0+(1:Int))).toNat)))else(chk (0<=(YFg .i64 (i0*(2:Int)))/\ (YFg .i64 (i0*(2:Int)))<=(YFg .i64 ((YFg .i64 (i0*(2:Int)))+(2:Int)))/\ (YFg .i64 ((YFg .i64 (i0*(2:Int)))+(2:Int)))<=((YFf #[48,48,48,49,48,50,48,51,48,52,48,53,48,54,48,55,48,56,48,57,49,48,49,49,49,50,49,51,49,52,49,53,49,54,49,55,49,56,49,57,50,48,50,49,50,50,50,51,50,52,50,53,50,54,50,55,50,56,50,57,51,48,51,49,51,50,51,51,51,52,51,53,51,54,51,55,51,56,51,57,52,48,52,49,52,50,52,51,52,52,52,53,52,54,52,55,52,56,52,57,53,48,53,49,53,50,53,51,53,52,53,53,53,54,53,55,53,56,53,57,54,48,54,49,54,50,54,51,54,52,54,53,54,54,54,55,54,56,54,57,55,48,55,49,55,50,55,51,55,52,55,53,55,54,55,55,55,56,55,57,56,48,56,49,56,50,56,51,56,52,56,53,56,54,56,55,56,56,56,57,57,48,57,49,57,50,57,51,57,52,57,53,57,54,57,55,57,56,57,57]).size:Int)) (some ((YFf #[48,48,48,49,48,50,48,51,48,52,48,53,48,54,48,55,48,56,48,57,49,48,49,49,49,50,49,51,49,52,49,53,49,54,49,55,49,56,49,57,50,48,50,49,50,50,50,51,50,52,50,53,50,54,50,55,50,56,50,57,51,48,51,49,51,50,51,51,51,52,51,53,51,54,51,55,51,56,51,57,52,48,52,49,52,50,52,51,52,52,52,53,52,54,52,55,52,56,52,57,53,48,53,49,53,50,53,51,53,52,53,53,53,54,53,55,53,56,53,57,54,48,54,49,54,50,54,51,54,52,54,53,54,54,54,55,54,56,54,57,55,48,55,49,55,50,55,51,55,52,55,53,55,54,55,55,55,56,55,57,56,48,56,49,56,50,56,51,56,52,56,53,56,54,56,55,56,56,56,57,57,48,57,49,57,50,57,51,57,52,57,53,57,54,57,55,57,56,57,57]).extract (YFg .i64 (i0*(2:Int))).toNat (YFg .i64 ((YFg .i64 (i0*(2:Int)))+(2:Int))).toNat)))
def Yxb:VFn:=⟨true,15,[.t 2],
 (.seq (.reg [o 2 (.mv (ks (⟨#[]⟩)))])
 (.seq (.seq (.reg [oM 3 0,o 4 (.bin .lss (t 3) (k 10))])
 (.cond (t 4) (.seq (.reg [oM 5 0,oM 6 0,o 7 (.bin .add (t 6) (k 1)),o 8 (.slcS (ks (⟨#[48,49,50,51,52,53,54,55,56,57,97,98,99,100,101,102,103,104,105,106,107,108,109,110,111,112,113,114,115,116,117,118,119,120,121,122]⟩)) (some (t 5)) (some (t 7))),oM 2 8])
 (.fz [2] .ret))
 .skip))
 (.seq (.reg [oM 9 0,o 10 (.bin .mul (t 9) (k 2)),oM 11 0,o 12 (.bin .mul (t 11) (k 2)),o 13 (.bin .add (t 12) (k 2)),o 14 (.slcS (ks (⟨#[48,48,48,49,48,50,48,51,48,52,48,53,48,54,48,55,48,56,48,57,49,48,49,49,49,50,49,51,49,52,49,53,49,54,49,55,49,56,49,57,50,48,50,49,50,50,50,51,50,52,50,53,50,54,50,55,50,56,50,57,51,48,51,49,51,50,51,51,51,52,51,53,51,54,51,55,51,56,51,57,52,48,52,49,52,50,52,51,52,52,52,53,52,54,52,55,52,56,52,57,53,48,53,49,53,50,53,51,53,52,53,53,53,54,53,55,53,56,53,57,54,48,54,49,54,50,54,51,54,52,54,53,54,54,54,55,54,56,54,57,55,48,55,49,55,50,55,51,55,52,55,53,55,54,55,55,55,56,55,57,56,48,56,49,56,50,56,51,56,52,56,53,56,54,56,55,56,56,56,57,57,48,57,49,57,50,57,51,57,52,57,53,57,54,57,55,57,56,57,57]⟩)) (some (t 10)) (some (t 13))),oM 2 14])
 (.fz [2] .ret))))⟩
def YmG(lo:Lo):FnE:=⟨1082,true,⟨[0],[.i .i64],[],(cs [I])⟩,.s,[],(cs [.s]),(fun x=>q88 lo x:Int->Option ByteArray)⟩
noncomputable def fs89(lo:Lo):List FnE:=YmG lo::fs88 lo
theorem Yxc{P:Program}{fm:FM}{lo:Lo}(h:GZ P fm fs88 lo)(t:Ti P fm 1082 Yxb):GZ P fm fs89 lo:=
  h.p (YmG lo) .n t (by kernel_rfl) (by kernel_rfl) fun x=>by kernel_rfl
noncomputable def fs90(lo:Lo):List FnE:=fs89 lo
noncomputable def fs91(lo:Lo):List FnE:=fs90 lo
def q91(lo:Lo)(i0:Int)(base1:Int):Option ByteArray:=
  bif(decide (base1=(10:Int)))then(bif(decide ((0:Int)<=i0))then(bif(decide (i0< (100:Int)))then(YEV (q88 lo i0) fun y372=>some y372)else(bif(decide (i0< (0:Int)))then(none)else(none)))else(bif(decide (i0< (0:Int)))then(none)else(none)))else(none)
def Yxd:VFn:=⟨true,54,[.t 4],
 (.seq (.reg [o 4 (.mv (ks (⟨#[]⟩)))])
 (.seq (.seq (.reg [oM 10 1,o 11 (.bin .eql (t 10) (k 10))])
 (.cond (t 11) (.seq (.seq (.reg [oM 12 0,o 13 (.bin .leq (k 0) (t 12)),oM 14 13,og 15 14 true (.mv (t 0)),og 16 14 true (.bin .lss (t 15) (k 100)),o 17 (.pick (t 14) (t 16) (kb false))])
 (.cond (t 17) (.seq (.reg [oM 18 0,o 19 (.call 1082 [(t 18)]),oM 4 19])
 (.fz [4] .ret))
 .skip))
 (.seq (.reg [o 5 (.alloc [.i .u8 0,.i .u8 0,.i .u8 0,.i .u8 0,.i .u8 0,.i .u8 0,.i .u8 0,.i .u8 0,.i .u8 0,.i .u8 0,.i .u8 0,.i .u8 0,.i .u8 0,.i .u8 0,.i .u8 0,.i .u8 0,.i .u8 0,.i .u8 0,.i .u8 0,.i .u8 0,.i .u8 0,.i .u8 0,.i .u8 0,.i .u8 0])])
 (.seq (.reg [oM 20 0,o 21 (.conv .u64 (t 20)),oM 6 21])
 (.seq (.seq (.reg [oM 22 0,o 23 (.bin .lss (t 22) (k 0))])
 (.cond (t 23) (.reg [oM 24 6,o 25 (.neg (t 24)),oM 6 25])
 .skip))
 (.seq (.reg [oM 26 6,o 27 (.call 1083 [(t 26)]),oM 7 27])
 (.seq .bad
 (.seq (.seq (.reg [oM 33 0,o 34 (.bin .lss (t 33) (k 0))])
 (.cond (t 34) (.seq (.reg [o 35 (.iada 1 24 (t 5) (k 0)),on (.store 1 (t 35) (ki .u8 45))])
 (.seq .bad
 (.fz [4] .ret)))
 .skip))
 (.seq .bad
 (.fz [4] .ret)))))))))
 .skip))
 (.seq (.reg [oM 45 0,o 46 (.conv .u64 (t 45)),oM 47 1,oM 48 0,o 49 (.bin .lss (t 48) (k 0)),o 50 (.call 1085 [(ke Zc38),(t 46),(t 47),(t 49),(kb false)]),oM 44 50,oE 51 44 0,oE 52 44 1,oM 8 51,oM 9 52])
 (.seq (.reg [oM 53 9,oM 4 53])
 (.fz [4] .ret)))))⟩
def YmH(lo:Lo):FnE:=⟨1081,true,⟨[0,1],[.i .i64,.i .i64],[],(cs [I,I])⟩,.s,[],(cs [.s]),(fun x=>q91 lo x.1 x.2:Int×Int->Option ByteArray)⟩
noncomputable def fs92(lo:Lo):List FnE:=YmH lo::fs91 lo
theorem Yxe{P:Program}{fm:FM}{lo:Lo}(h:GZ P fm fs91 lo)(t:Ti P fm 1081 Yxd):GZ P fm fs92 lo:=
  h.p (YmH lo) .n t (by kernel_rfl) (by kernel_rfl) fun x=>by kernel_rfl
def q92(lo:Lo)(i0:Int)(base1:Int):Option ByteArray:=
  YEV (q91 lo i0 base1) fun y376=>some y376
def Yxf:VFn:=⟨true,8,[.t 4],
 (.seq (.reg [o 4 (.mv (ks (⟨#[]⟩)))])
 (.seq (.reg [oM 5 0,oM 6 1,o 7 (.call 1081 [(t 5),(t 6)]),oM 4 7])
 (.fz [4] .ret)))⟩
def YmI(lo:Lo):FnE:=⟨549,true,⟨[0,1],[.i .i64,.i .i64],[],(cs [I,I])⟩,.s,[],(cs [.s]),(fun x=>q92 lo x.1 x.2:Int×Int->Option ByteArray)⟩
noncomputable def fs93(lo:Lo):List FnE:=YmI lo::fs92 lo
theorem Yxg{P:Program}{fm:FM}{lo:Lo}(h:GZ P fm fs92 lo)(t:Ti P fm 549 Yxf):GZ P fm fs93 lo:=
  h.p (YmI lo) .n t (by kernel_rfl) (by kernel_rfl) fun x=>by kernel_rfl
def q93_L3_b:VCode:=
 (.seq (.reg [o 10 (.bin .lss (t 9) (t 8))])
 (.seq (.cond (t 10) .skip
 (.exit 0))
 (.seq (.blk 1 (.seq (.reg [oM 11 9,oM 4 11])
 (.seq (.reg [oM 12 0,oM 13 4,o 14 (.idx (t 12) (t 13)),oM 5 14])
 (.blk 2 (.seq (.reg [oM 20 5,o 21 (.bin .eql (t 20) (ki .u8 34)),oM 22 21,og 23 22 false (.mv (t 5)),og 24 22 false (.bin .eql (t 23) (ki .u8 92)),o 25 (.pick (t 22) (kb true) (t 24)),oM 19 25])
 (.cond (t 19) (.reg [oM 26 3,oM 27 5,o 28 (.bsl Zc38 2 [(0,(ki .u8 92)),(1,(t 27))]),o 29 (.appb (t 26) (t 28)),oM 3 29])
 (.seq (.reg [oM 31 5,o 32 (.bin .eql (t 31) (ki .u8 10)),oM 30 32])
 (.cond (t 30) (.reg [oM 33 3,o 34 (.bsl Zc38 2 [(0,(ki .u8 92)),(1,(ki .u8 110))]),o 35 (.appb (t 33) (t 34)),oM 3 35])
 (.seq (.reg [oM 37 5,o 38 (.bin .lss (t 37) (ki .u8 32)),oM 39 38,og 40 39 false (.mv (t 5)),og 41 39 false (.bin .gtr (t 40) (ki .u8 126)),o 42 (.pick (t 39) (kb true) (t 41)),oM 36 42])
 (.cond (t 36) (.reg [oM 43 3,oM 44 5,o 45 (.bin .shr (t 44) (ki .u64 4)),o 46 (.idx (ks (⟨#[48,49,50,51,52,53,54,55,56,57,97,98,99,100,101,102]⟩)) (t 45)),oM 47 5,o 48 (.bin .and (t 47) (ki .u8 15)),o 49 (.idx (ks (⟨#[48,49,50,51,52,53,54,55,56,57,97,98,99,100,101,102]⟩)) (t 48)),o 50 (.bsl Zc38 4 [(0,(ki .u8 92)),(1,(ki .u8 120)),(2,(t 46)),(3,(t 49))]),o 51 (.appb (t 43) (t 50)),oM 3 51])
 (.reg [oM 15 3,oM 16 5,o 17 (.bsl Zc38 1 [(0,(t 16))]),o 18 (.appb (t 15) (t 17)),oM 3 18])))))))))))
 (.reg [o 52 (.bin .add (t 9) (k 1)),oM 9 52]))))
def YmJ(lo:Lo):Zp76->Option (Zp76⊕ByteArray):=fun x=>match x with
  | (s0,v8,v9,out3)=>bif(decide (v9<v8))then(chk (0<=v9/\v9< (s0.size:Int)) (bif(decide ((YzT s0 v9)=(34:Int)))then(bif inB ([(92:Int),(YzT s0 v9)])then(chk (out3.size+([(92:Int),(YzT s0 v9)]).length<=maxEl) (some (.inl (s0,v8,(YFg .i64 (v9+(1:Int))),(out3++Yz3 ([(92:Int),(YzT s0 v9)]))))))else none)else(bif(decide ((YzT s0 v9)=(92:Int)))then(bif inB ([(92:Int),(YzT s0 v9)])then(chk (out3.size+([(92:Int),(YzT s0 v9)]).length<=maxEl) (some (.inl (s0,v8,(YFg .i64 (v9+(1:Int))),(out3++Yz3 ([(92:Int),(YzT s0 v9)]))))))else none)else(bif(decide ((YzT s0 v9)=(10:Int)))then(bif inB ([(92:Int),(110:Int)])then(chk (out3.size+([(92:Int),(110:Int)]).length<=maxEl) (some (.inl (s0,v8,(YFg .i64 (v9+(1:Int))),(out3++Yz3 ([(92:Int),(110:Int)]))))))else none)else(bif(decide ((YzT s0 v9)< (32:Int)))then(chk (0<=(4:Int)) (chk (0<=((YzT s0 v9).fdiv (2^(min (4:Int).toNat (IntKind.bits .u8))))/\ ((YzT s0 v9).fdiv (2^(min (4:Int).toNat (IntKind.bits .u8))))< ((YFf #[48,49,50,51,52,53,54,55,56,57,97,98,99,100,101,102]).size:Int)) (chk (0<=(bits .and .u8 (YzT s0 v9) (15:Int))/\ (bits .and .u8 (YzT s0 v9) (15:Int))< ((YFf #[48,49,50,51,52,53,54,55,56,57,97,98,99,100,101,102]).size:Int)) (bif inB ([(92:Int),(120:Int),(YzT (YFf #[48,49,50,51,52,53,54,55,56,57,97,98,99,100,101,102]) ((YzT s0 v9).fdiv (2^(min (4:Int).toNat (IntKind.bits .u8))))),(YzT (YFf #[48,49,50,51,52,53,54,55,56,57,97,98,99,100,101,102]) (bits .and .u8 (YzT s0 v9) (15:Int)))])then(chk (out3.size+([(92:Int),(120:Int),(YzT (YFf #[48,49,50,51,52,53,54,55,56,57,97,98,99,100,101,102]) ((YzT s0 v9).fdiv (2^(min (4:Int).toNat (IntKind.bits .u8))))),(YzT (YFf #[48,49,50,51,52,53,54,55,56,57,97,98,99,100,101,102]) (bits .and .u8 (YzT s0 v9) (15:Int)))]).length<=maxEl) (some (.inl (s0,v8,(YFg .i64 (v9+(1:Int))),(out3++Yz3 ([(92:Int),(120:Int),(YzT (YFf #[48,49,50,51,52,53,54,55,56,57,97,98,99,100,101,102]) ((YzT s0 v9).fdiv (2^(min (4:Int).toNat (IntKind.bits .u8))))),(YzT (YFf #[48,49,50,51,52,53,54,55,56,57,97,98,99,100,101,102]) (bits .and .u8 (YzT s0 v9) (15:Int)))]))))))else none))))else(bif(decide ((126:Int)< (YzT s0 v9)))then(chk (0<=(4:Int)) (chk (0<=((YzT s0 v9).fdiv (2^(min (4:Int).toNat (IntKind.bits .u8))))/\ ((YzT s0 v9).fdiv (2^(min (4:Int).toNat (IntKind.bits .u8))))< ((YFf #[48,49,50,51,52,53,54,55,56,57,97,98,99,100,101,102]).size:Int)) (chk (0<=(bits .and .u8 (YzT s0 v9) (15:Int))/\ (bits .and .u8 (YzT s0 v9) (15:Int))< ((YFf #[48,49,50,51,52,53,54,55,56,57,97,98,99,100,101,102]).size:Int)) (bif inB ([(92:Int),(120:Int),(YzT (YFf #[48,49,50,51,52,53,54,55,56,57,97,98,99,100,101,102]) ((YzT s0 v9).fdiv (2^(min (4:Int).toNat (IntKind.bits .u8))))),(YzT (YFf #[48,49,50,51,52,53,54,55,56,57,97,98,99,100,101,102]) (bits .and .u8 (YzT s0 v9) (15:Int)))])then(chk (out3.size+([(92:Int),(120:Int),(YzT (YFf #[48,49,50,51,52,53,54,55,56,57,97,98,99,100,101,102]) ((YzT s0 v9).fdiv (2^(min (4:Int).toNat (IntKind.bits .u8))))),(YzT (YFf #[48,49,50,51,52,53,54,55,56,57,97,98,99,100,101,102]) (bits .and .u8 (YzT s0 v9) (15:Int)))]).length<=maxEl) (some (.inl (s0,v8,(YFg .i64 (v9+(1:Int))),(out3++Yz3 ([(92:Int),(120:Int),(YzT (YFf #[48,49,50,51,52,53,54,55,56,57,97,98,99,100,101,102]) ((YzT s0 v9).fdiv (2^(min (4:Int).toNat (IntKind.bits .u8))))),(YzT (YFf #[48,49,50,51,52,53,54,55,56,57,97,98,99,100,101,102]) (bits .and .u8 (YzT s0 v9) (15:Int)))]))))))else none))))else(bif inB ([(YzT s0 v9)])then(chk (out3.size+([(YzT s0 v9)]).length<=maxEl) (some (.inl (s0,v8,(YFg .i64 (v9+(1:Int))),(out3++Yz3 ([(YzT s0 v9)]))))))else none)))))))else(some (.inr out3))
def YmK(lo:Lo):Zp76->Option ByteArray:=lo.run (YmJ lo)
def Yxh(lo:Lo):LpE:=⟨3,[],⟨[0,3,8,9],[.s,.ref 0,.i .i64,.i .i64],[.sb],Zc9⟩,[⟨.exit 0,⟨[3],[.ref 0],[.sb],(cs [.s])⟩⟩],YmK lo⟩
def Yxi(lo:Lo):LL:=(Yxh lo,.loop q93_L3_b.er)::[]
theorem Yxj(lo:Lo):Lk lo pf (fs93 lo) 0 (Yxi lo):=.l .n (YmJ lo) rfl (by kernel_rfl) fun x=>by kernel_rfl
def q93(lo:Lo)(s0:ByteArray):Option ByteArray:=
  bif inB [(34:Int)]then(YEV (YmK lo (s0,(s0.size:Int),(0:Int),(Yz3 [(34:Int)]))) fun y379=>bif inB ([(34:Int)])then(chk (y379.size+([(34:Int)]).length<=maxEl) (some (y379++Yz3 ([(34:Int)]))))else none)else none
def Yxk:VFn:=⟨true,57,[.t 2],
 (.seq (.reg [o 2 (.mv (ks (⟨#[]⟩)))])
 (.seq (.reg [o 6 (.litb [(ki .u8 34)]),oM 3 6])
 (.seq (.seq (.reg [oM 7 0,o 8 (.lenS (t 7)),o 9 (.mv (k 0))])
 (.blk 0 (.loop 3 q93_L3_b)))
 (.seq (.reg [oM 53 3,o 54 (.bsl Zc38 1 [(0,(ki .u8 34))]),o 55 (.appb (t 53) (t 54)),o 56 (.bstr (t 55)),oM 2 56])
 (.fz [2] .ret)))))⟩
def YmL(lo:Lo):FnE:=⟨550,true,⟨[0],[.s],[],(cs [.s])⟩,.s,[],(cs [.s]),(fun x=>q93 lo x:ByteArray->Option ByteArray)⟩
noncomputable def fs94(lo:Lo):List FnE:=YmL lo::fs93 lo
theorem Yxl{P:Program}{fm:FM}{lo:Lo}(h:GZ P fm fs93 lo)(t:Ti P fm 550 Yxk):GZ P fm fs94 lo:=
  h.p (YmL lo) (Yxj lo) t (by kernel_rfl) (by kernel_rfl) fun x=>by kernel_rfl
def q94(lo:Lo)(v0_0:Int)(v0_1:Int)(v0_2:ByteArray):Option (ByteArray×Int):=
  YEV (q6 lo v0_0 v0_1 v0_2) fun y371=>bif(!y371)then(some ((YFf #[]),(1:Int)))else(bif(decide (v0_0=(0:Int)))then(some ((YFf #[110,117,108,108]),(0:Int)))else(bif(decide (v0_0=(1:Int)))then(YEV (q92 lo v0_1 (10:Int)) fun y377=>some (y377,(0:Int)))else(bif(decide (v0_0=(3:Int)))then(YEV (q92 lo v0_1 (10:Int)) fun y378=>chk (YEL ((YFf #[63]).size+y378.size) 9223372036854775807=true) (some (((YFf #[63])++y378),(0:Int))))else(YEV (q93 lo v0_2) fun y380=>some (y380,(0:Int))))))
def Yxm:VFn:=⟨true,25,[.t 2,.t 3],
 (.seq (.reg [o 1 (.box (t 0)),o 2 (.mv (ks (⟨#[]⟩))),o 3 (.mv (k 0))])
 (.seq (.seq (.reg [o 4 (.load true 3 (t 1)),o 5 (.call 283 [(t 4)]),o 6 (.not (t 5))])
 (.cond (t 6) (.seq (.reg [o 2 (.mv (ks (⟨#[]⟩))),o 3 (.mv (k 1))])
 (.fz [2,3] .ret))
 .skip))
 (.seq (.seq (.reg [oF 7 0 1,oL 8 7])
 (.blk 0 (.seq (.reg [o 10 (.bin .eql (t 8) (k 0)),oM 9 10])
 (.cond (t 9) (.seq (.reg [o 2 (.mv (ks (⟨#[110,117,108,108]⟩))),o 3 (.mv (k 0))])
 (.fz [2,3] .ret))
 (.seq (.reg [o 12 (.bin .eql (t 8) (k 1)),oM 11 12])
 (.cond (t 11) (.seq (.reg [oF 13 1 1,oL 14 13,o 15 (.call 549 [(t 14),(k 10)]),oM 2 15,o 3 (.mv (k 0))])
 (.fz [2,3] .ret))
 (.seq (.reg [o 17 (.bin .eql (t 8) (k 3)),oM 16 17])
 (.cond (t 16) (.seq (.reg [oF 18 1 1,oL 19 18,o 20 (.call 549 [(t 19),(k 10)]),o 21 (.bin .add (ks (⟨#[63]⟩)) (t 20)),oM 2 21,o 3 (.mv (k 0))])
 (.fz [2,3] .ret))
 .skip))))))))
 (.seq (.reg [oF 22 2 1,oL 23 22,o 24 (.call 550 [(t 23)]),oM 2 24,o 3 (.mv (k 0))])
 (.fz [2,3] .ret)))))⟩
def YmM(lo:Lo):FnE:=⟨530,true,⟨[0],[.ag [.i .i64,.i .i64,.s]],[],Zc10⟩,.tp [.s,.i .i64],[],(cs [.s,I]),(fun x=>q94 lo x.1 x.2.1 x.2.2:Int×Int×ByteArray->Option (ByteArray×Int))⟩
noncomputable def fs95(lo:Lo):List FnE:=YmM lo::fs94 lo
theorem Yxn{P:Program}{fm:FM}{lo:Lo}(h:GZ P fm fs94 lo)(t:Ti P fm 530 Yxm):GZ P fm fs95 lo:=
  h.p (YmM lo) .n t (by kernel_rfl) (by kernel_rfl) fun x=>by kernel_rfl
def q95(lo:Lo)(l:List ByteArray)(sep:ByteArray):Option ByteArray:=YB5 l sep
def Yxo(lo:Lo):FnE:=vjoinE 169
noncomputable def fs96(lo:Lo):List FnE:=Yxo lo::fs95 lo
theorem Yxp{P:Program}{fm:FM}{lo:Lo}(h:GZ P fm fs95 lo)(hG: ∀f,fm f=169->YzW P f=true/\ ∃ρ:Go.Shelf.Ren,Go.Proofs.Lays.n156 P ρ/\Go.Proofs.Builder.Extra P ρ/\ρ.f 156=f):GZ P fm fs96 lo:=
  ⟨h.1,h.2,YrW h.S rfl hG⟩
def q96_L6_b:VCode:=
 (.seq (.reg [o 25 (.bin .lss (t 24) (t 23))])
 (.seq (.cond (t 25) .skip
 (.exit 2))
 (.seq (.blk 3 (.seq (.reg [o 26 (.iad 4 (t 22) (t 24)),o 27 (.load true 4 (t 26)),o 9 (.alloc [.s (⟨#[]⟩),.i .i64 0,.i .i64 0,.s (⟨#[]⟩)]),on (.store 4 (t 9) (t 27))])
 (.seq (.reg [oF 28 0 9,oL 29 28,oM 10 29])
 (.seq (.seq (.reg [oM 30 10,o 31 (.bin .eql (t 30) (ks (⟨#[]⟩)))])
 (.cond (t 31) (.reg [oF 33 1 9,o 34 (.load true 3 (t 33)),o 35 (.call 530 [(t 34)]),oM 32 35,oE 36 32 0,oE 37 32 1,oM 10 36])
 .skip))
 (.reg [oM 38 7,oM 39 10,o 40 (.bsl (cs [.s]) 1 [(0,(t 39))]),o 41 (.app (cs [.s]) 0 (t 38) (t 40)),oM 7 41])))))
 (.reg [o 42 (.bin .add (t 24) (k 1)),oM 24 42]))))
def YmN(lo:Lo):Zp54->Option (Zp54⊕ ((Zt0×Int×Int×Zt4×Zt0×Zt4×ByteArray×Zt5×Zt4))):=fun x=>match x with
  | (v15,v16,v17,v22,v23,v24,q1_0,q1_1,atoms4,a6_0,a6_1,terms7)=>bif(decide (v24<v23))then(chk (0<=v24/\v24< (v22.length:Int)) (bif(decide ((v22.getD v24.toNat ((YFf #[]),(0:Int),(0:Int),(YFf #[]))).1=(YFf #[])))then(YEV (q94 lo ((v22.getD v24.toNat ((YFf #[]),(0:Int),(0:Int),(YFf #[]))).2.1) ((v22.getD v24.toNat ((YFf #[]),(0:Int),(0:Int),(YFf #[]))).2.2.1) ((v22.getD v24.toNat ((YFf #[]),(0:Int),(0:Int),(YFf #[]))).2.2.2)) fun y381=>chk (terms7.length+[y381.1].length<=maxEl) (some (.inl (v15,v16,v17,v22,v23,(YFg .i64 (v24+(1:Int))),q1_0,q1_1,atoms4,a6_0,a6_1,(terms7++[y381.1])))))else(chk (terms7.length+([(v22.getD v24.toNat ((YFf #[]),(0:Int),(0:Int),(YFf #[]))).1]).length<=maxEl) (some (.inl (v15,v16,v17,v22,v23,(YFg .i64 (v24+(1:Int))),q1_0,q1_1,atoms4,a6_0,a6_1,(terms7++([(v22.getD v24.toNat ((YFf #[]),(0:Int),(0:Int),(YFf #[]))).1]))))))))else(some (.inr (v15,v16,v17,q1_0,q1_1,atoms4,a6_0,a6_1,terms7)))
def YmO(lo:Lo):Zp54->Option ((Zt0×Int×Int×Zt4×Zt0×Zt4×ByteArray×Zt5×Zt4)):=lo.run (YmN lo)
def Yxq(lo:Lo):LpE:=⟨6,[(7,none,false)],⟨[1,4,6,7,15,16,17,22,23,24],[.ptr 0 0 0,.ref 1,.ptr 2 0 0,.ref 3,.l Zc2,.i .i64,.i .i64,.l Zc9,.i .i64,.i .i64],[.st [.l (cs [.s]),.l Zc2],.sq (cs [.s]),.st [.s,.l Zc9],.sq (cs [.s])],(cs [.l Zc2,I,I,.l Zc9,I,I,.l (cs [.s]),.l Zc2,.l (cs [.s]),.s,.l Zc9,.l (cs [.s])])⟩,[⟨.exit 2,⟨[1,4,6,7,15,16,17],[.ptr 0 0 0,.ref 1,.ptr 2 0 0,.ref 3,.l Zc2,.i .i64,.i .i64],[.st [.l (cs [.s]),.l Zc2],.sq (cs [.s]),.st [.s,.l Zc9],.sq (cs [.s])],(cs [.l Zc2,I,I,.l (cs [.s]),.l Zc2,.l (cs [.s]),.s,.l Zc9,.l (cs [.s])])⟩⟩],YmO lo⟩
def YmP(lo:Lo):LL:=(Yxq lo,.loop q96_L6_b.er)::[]
theorem Yxr(lo:Lo):Lk lo pf (fs96 lo) 0 (YmP lo):=.l .n (YmN lo) rfl (by kernel_rfl) fun x=>by kernel_rfl
def q96_L3_b:VCode:=
 (.seq (.reg [o 18 (.bin .lss (t 17) (t 16))])
 (.seq (.cond (t 18) .skip
 (.exit 0))
 (.seq (.blk 1 (.seq (.reg [o 19 (.iad 2 (t 15) (t 17)),o 20 (.load true 2 (t 19)),o 6 (.alloc [.s (⟨#[]⟩),.e Zc9]),on (.store 2 (t 6) (t 20))])
 (.seq (.reg [o 7 (.mv (ke (cs [.s])))])
 (.seq (.seq (.reg [oF 21 1 6,oL 22 21,oN 23 22,o 24 (.mv (k 0))])
 (.blk 2 (.loop 6 q96_L6_b)))
 (.reg [oM 43 4,oF 44 0 6,oL 45 44,o 46 (.bin .add (t 45) (ks (⟨#[40]⟩))),oM 47 7,o 48 (.call 169 [(t 47),(ks (⟨#[44,32]⟩))]),o 49 (.bin .add (t 46) (t 48)),o 50 (.bin .add (t 49) (ks (⟨#[41]⟩))),o 51 (.bsl (cs [.s]) 1 [(0,(t 50))]),o 52 (.app (cs [.s]) 0 (t 43) (t 51)),oM 4 52])))))
 (.reg [o 53 (.bin .add (t 17) (k 1)),oM 17 53]))))
def YmQ(lo:Lo):Zt0×Int×Int×Zt4×Zt0×Zt4->Option ((Zt0×Int×Int×Zt4×Zt0×Zt4)⊕ ((Zt4×Zt0×Zt4))):=fun x=>match x with
  | (v15,v16,v17,q1_0,q1_1,atoms4)=>bif(decide (v17<v16))then(chk (0<=v17/\v17< (v15.length:Int)) (YEV (YmO lo (v15,v16,v17,(v15.getD v17.toNat ((YFf #[]),[])).2,(((v15.getD v17.toNat ((YFf #[]),[])).2).length:Int),(0:Int),q1_0,q1_1,atoms4,(v15.getD v17.toNat ((YFf #[]),[])).1,(v15.getD v17.toNat ((YFf #[]),[])).2,[])) fun y382=>chk (YEL (y382.2.2.2.2.2.2.1.size+(YFf #[40]).size) 9223372036854775807=true) (YEV (q95 lo y382.2.2.2.2.2.2.2.2 (YFf #[44,32])) fun y383=>chk (YEL ((y382.2.2.2.2.2.2.1++(YFf #[40])).size+y383.size) 9223372036854775807=true) (chk (YEL (((y382.2.2.2.2.2.2.1++(YFf #[40]))++y383).size+(YFf #[41]).size) 9223372036854775807=true) (chk (y382.2.2.2.2.2.1.length+([(((y382.2.2.2.2.2.2.1++(YFf #[40]))++y383)++(YFf #[41]))]).length<=maxEl) (some (.inl (y382.1,y382.2.1,(YFg .i64 (y382.2.2.1+(1:Int))),y382.2.2.2.1,y382.2.2.2.2.1,(y382.2.2.2.2.2.1++([(((y382.2.2.2.2.2.2.1++(YFf #[40]))++y383)++(YFf #[41]))]))))))))))else(some (.inr (q1_0,q1_1,atoms4)))
def YmR(lo:Lo):Zt0×Int×Int×Zt4×Zt0×Zt4->Option ((Zt4×Zt0×Zt4)):=lo.run (YmQ lo)
def Yxs(lo:Lo):LpE:=⟨3,[(4,none,false)],⟨[1,4,15,16,17],[.ptr 0 0 0,.ref 1,.l Zc2,.i .i64,.i .i64],[.st [.l (cs [.s]),.l Zc2],.sq (cs [.s])],(cs [.l Zc2,I,I,.l (cs [.s]),.l Zc2,.l (cs [.s])])⟩,[⟨.exit 0,⟨[1,4],[.ptr 0 0 0,.ref 1],[.st [.l (cs [.s]),.l Zc2],.sq (cs [.s])],(cs [.l (cs [.s]),.l Zc2,.l (cs [.s])])⟩⟩],YmR lo⟩
def Yxt(lo:Lo):LL:=(Yxs lo,.loop q96_L3_b.er)::YmP lo
theorem Yxu(lo:Lo):Lk lo pf (fs96 lo) 0 (Yxt lo):=.l (Yxr lo) (YmQ lo) rfl (by kernel_rfl) fun x=>by kernel_rfl
def q96(lo:Lo)(q0_0:List ByteArray)(q0_1:List (ByteArray×Zt5)):Option (ByteArray×Int):=
  YEV (q77 lo q0_0 q0_1) fun y370=>bif(!y370)then(some ((YFf #[]),(1:Int)))else(YEV (YmR lo (q0_1,(q0_1.length:Int),(0:Int),q0_0,q0_1,[])) fun y384=>YEV (q95 lo y384.1 (YFf #[44,32])) fun y385=>chk (YEL ((YFf #[40]).size+y385.size) 9223372036854775807=true) (chk (YEL (((YFf #[40])++y385).size+(YFf #[41,32,58,32]).size) 9223372036854775807=true) (YEV (q95 lo y384.2.2 (YFf #[44,32])) fun y386=>chk (YEL ((((YFf #[40])++y385)++(YFf #[41,32,58,32])).size+y386.size) 9223372036854775807=true) (some (((((YFf #[40])++y385)++(YFf #[41,32,58,32]))++y386),(0:Int))))))
def Yxv:VFn:=⟨true,62,[.t 2,.t 3],
 (.seq (.reg [o 1 (.box (t 0)),o 2 (.mv (ks (⟨#[]⟩))),o 3 (.mv (k 0))])
 (.seq (.seq (.reg [o 11 (.load true 2 (t 1)),o 12 (.call 519 [(t 11)]),o 13 (.not (t 12))])
 (.cond (t 13) (.seq (.reg [o 2 (.mv (ks (⟨#[]⟩))),o 3 (.mv (k 1))])
 (.fz [2,3] .ret))
 .skip))
 (.seq (.reg [o 4 (.mv (ke (cs [.s])))])
 (.seq (.seq (.reg [oF 14 1 1,oL 15 14,oN 16 15,o 17 (.mv (k 0))])
 (.blk 0 (.loop 3 q96_L3_b)))
 (.seq (.reg [oF 54 0 1,oL 55 54,o 56 (.call 169 [(t 55),(ks (⟨#[44,32]⟩))]),o 57 (.bin .add (ks (⟨#[40]⟩)) (t 56)),o 58 (.bin .add (t 57) (ks (⟨#[41,32,58,32]⟩))),oM 59 4,o 60 (.call 169 [(t 59),(ks (⟨#[44,32]⟩))]),o 61 (.bin .add (t 58) (t 60)),oM 2 61,o 3 (.mv (k 0))])
 (.fz [2,3] .ret))))))⟩
def YmS(lo:Lo):FnE:=⟨489,true,⟨[0],[.ag [.l (cs [.s]),.l Zc2]],[],Zc20⟩,.tp [.s,.i .i64],[],(cs [.s,I]),(fun x=>q96 lo x.1 x.2:Zt4×Zt0->Option (ByteArray×Int))⟩
noncomputable def fs97(lo:Lo):List FnE:=YmS lo::fs96 lo
theorem Yxw{P:Program}{fm:FM}{lo:Lo}(h:GZ P fm fs96 lo)(t:Ti P fm 489 Yxv):GZ P fm fs97 lo:=
  h.p (YmS lo) (Yxu lo) t (by kernel_rfl) (by kernel_rfl) fun x=>by kernel_rfl
def q97_L3_b:VCode:=
 (.seq (.seq (.reg [oM 11 5,oM 12 0,oN 13 12,o 14 (.bin .lss (t 11) (t 13))])
 (.cond (t 14) .skip
 (.exit 0)))
 (.seq (.blk 1 (.seq (.reg [oM 17 0,oM 18 5,o 19 (.iad 1 (t 17) (t 18)),oL 20 19,oM 21 1,oM 22 5,o 23 (.iad 1 (t 21) (t 22)),oL 24 23,o 25 (.bin .neq (t 20) (t 24))])
 (.cond (t 25) (.seq (.reg [o 4 (.mv (kb false))])
 (.fz [4] .ret))
 .skip)))
 (.reg [oM 15 5,o 16 (.bin .add (t 15) (k 1)),oM 5 16])))
def YmT(lo:Lo):(List Int)× (List Int)×Int->Option (((List Int)× (List Int)×Int)⊕ (Bool⊕Unit)):=fun x=>match x with
  | (a0,b1,i5)=>bif(decide (i5< (a0.length:Int)))then(chk (0<=i5/\i5< (a0.length:Int)) (chk (0<=i5/\i5< (b1.length:Int)) (bif(!decide ((a0.getD i5.toNat (0:Int))=(b1.getD i5.toNat (0:Int))))then(some (.inr (.inl false)))else(some (.inl (a0,b1,(YFg .i64 (i5+(1:Int)))))))))else(some (.inr (.inr ())))
def YmU(lo:Lo):(List Int)× (List Int)×Int->Option (Bool⊕Unit):=lo.run (YmT lo)
def Yxx(lo:Lo):LpE:=⟨3,[],⟨[0,1,5],[.l (cs [I]),.l (cs [I]),.i .i64],[],(cs [.l (cs [I]),.l (cs [I]),I])⟩,[⟨.ret,⟨[4],[.b],[],(cs [.b])⟩⟩,⟨.exit 0,⟨[],[],[],(cs [])⟩⟩],YmU lo⟩
def Yxy(lo:Lo):LL:=(Yxx lo,.loop q97_L3_b.er)::[]
theorem Yxz(lo:Lo):Lk lo pf (fs97 lo) 0 (Yxy lo):=.l .n (YmT lo) rfl (by kernel_rfl) fun x=>by kernel_rfl
def q97(lo:Lo)(a0:List Int)(b1:List Int):Option Bool:=
  bif(!decide ((a0.length:Int)=(b1.length:Int)))then(some false)else(YEV (YmU lo (a0,b1,(0:Int))) fun y388=>alt2 y388 (fun y389=>some y389) (fun y390=>some true))
def YxA:VFn:=⟨true,26,[.t 4],
 (.seq (.reg [o 4 (.mv (kb false))])
 (.seq (.seq (.reg [oM 6 0,oN 7 6,oM 8 1,oN 9 8,o 10 (.bin .neq (t 7) (t 9))])
 (.cond (t 10) (.seq (.reg [o 4 (.mv (kb false))])
 (.fz [4] .ret))
 .skip))
 (.seq (.seq (.reg [o 5 (.mv (k 0))])
 (.blk 0 (.loop 3 q97_L3_b)))
 (.seq (.reg [o 4 (.mv (kb true))])
 (.fz [4] .ret)))))⟩
def YmV(lo:Lo):FnE:=⟨351,true,⟨[0,1],[.l (cs [I]),.l (cs [I])],[],(cs [.l (cs [I]),.l (cs [I])])⟩,.b,[],(cs [.b]),(fun x=>q97 lo x.1 x.2:(List Int)× (List Int)->Option Bool)⟩
noncomputable def fs98(lo:Lo):List FnE:=YmV lo::fs97 lo
theorem YxB{P:Program}{fm:FM}{lo:Lo}(h:GZ P fm fs97 lo)(t:Ti P fm 351 YxA):GZ P fm fs98 lo:=
  h.p (YmV lo) (Yxz lo) t (by kernel_rfl) (by kernel_rfl) fun x=>by kernel_rfl
end Go.Abs.G47
