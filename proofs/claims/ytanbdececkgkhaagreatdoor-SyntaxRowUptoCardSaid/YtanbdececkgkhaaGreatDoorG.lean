/- Functions of the program (written by program). No condition. -/
import Derived.Test.YtanbdececkgkhaaGreatDoorB
import Derived.Test.YtanbdececkgkhaaGreatDoorD
import Derived.Test.YtanbdececkgkhaaGreatDoorChecked
set_option linter.unusedVariables false
set_option linter.unusedSimpArgs false
set_option linter.unusedSectionVars false
open Option renaming some → U,none → zz
open Bool renaming true → zZ,false → zj
open List renaming mem_map → mH
open Nat renaming beq → im, ble → iS, blt → js
open Option renaming bind → d'
open ByteArray renaming mk → a_
open Go.IntKind renaming wrap → g_
namespace Go.Abs.iA
open Go Go.Abs Go.Proofs
set_option maxRecDepth 100000
set_option maxHeartbeats 4000000
set_option synthInstance.maxSize 100000
set_option synthInstance.maxHeartbeats 1000000
abbrev iW:Type:=Int×ByteArray×Int×Int×ByteArray×Int×Int
abbrev jY:Cs:=cs [I,.s,I,I,.s,I,I]
abbrev iy:SO:=.st [.l jY,.j,.b]
abbrev ij:Cs:=cs [.s]
abbrev iH:Cs:=cs [I,I,.s]
abbrev lN:Cs:=cs [.s,.b,I,I,.s]
abbrev lO:Cs:=cs [I,.s,I,I,.s,I,I,.s,I,I,.s]
abbrev jj:Cs:=cs [.s,.l (cs [.s,I,I,.s])]
abbrev l8:Cs:=cs [.l (cs [I,.s,I])]
abbrev oq:Sg:=ik [0,1] [.ptr 0 0 0,.ptr 1 0 0] [iy,.st [.s,.s,.s,.s,.l ij,.l ij,.j,.ref 2,.ref 8,.j,.ref 9,.l ij,.ref 10,.ref 11,.ref 12],.sq iH,.dd,.dd,.dd,.dd,.dd,.sq lN,.sq lO,.sq jj,.sq l8,.sq (cs [I])]
abbrev jP:Cs:=cs [.b,I,I,.s]
abbrev pE:Cs:=cs [I,I,I,I,.s,I,I,I,I,I,.s]
abbrev mW:Cs:=cs [.s,.s,I,.i .u32,.i .u32,.i .u32,.i .u32,.s,.l (cs [I]),.s,.l (cs [I]),.l (cs [I]),I,.l jP,.l (cs [I]),.l (cs [I]),I,.l pE]
abbrev lP:Type:=ByteArray×Int×Int×ByteArray
abbrev vq:Type:=ByteArray× (List lP)
abbrev AW:Type:=Int×ByteArray×Int×Int×ByteArray×Int×Int×ByteArray×Int×Int×ByteArray
abbrev ln:Cs:=cs [I,.l iH]
abbrev jM:Cs:=cs [.s,.l ij,.l ln]
abbrev kz:Type:=Int×Int×ByteArray
abbrev AX:Type:=ByteArray×Bool×Int×Int×ByteArray
abbrev wv:SO:=.st [.s,.s,.s,.s,.l ij,.l ij,.j,.l iH,.l lN,.j,.l lO,.l ij,.l jj,.l l8,.l (cs [I])]
abbrev P_:Cs:=cs [.l (cs [I,I,I])]
abbrev ni:Cs:=cs [.s,.l P_,.l (cs [I]),.l (cs [I])]
abbrev C3:SO:=.st [.s,.s,.s,.s,.ref 2,.l ij,.ref 3,.j,.ref 4,.ref 5,.ref 6,.l ij,.ref 7,.ref 8,.ref 9]
abbrev lB:Cs:=cs [I,.s,I,I,.s]
abbrev lC:Cs:=cs [.l (cs [I,I,I,.s])]
abbrev rD:Sg:=ik [0,1] [.ptr 0 0 0,.ptr 1 0 0] [iy,C3,.sq ij,.sq jP,.sq iH,.sq lB,.sq (cs [I]),.sq jj,.sq lC,.sq (cs [I])]
abbrev jQ:Cs:=cs [.s,.l ij,.l jj]
abbrev xt:Type:=Int×ByteArray×Int×Int×ByteArray
abbrev lq:Type:=Int×ByteArray×Int
abbrev kO:Type:=Bool×Int×Int×ByteArray
abbrev tP:Type:=Int×Int×Int×ByteArray
abbrev oI:SO:=.st [.l jM,.b]
abbrev zr:Sg:=ik [3,4,6,8] [.ptr 0 0 0,.ptr 1 0 0,.ptr 2 0 0,.ptr 3 0 0] [wv,.st [.s,.s,.j,.i .u32,.i .u32,.i .u32,.i .u32,.s,.l (cs [I]),.s,.l (cs [I]),.ref 4,.j,.ref 5,.l (cs [I]),.l (cs [I]),.j,.ref 6],oI,.st [.s,.s,.j,.i .u32,.i .u32,.i .u32,.i .u32,.s,.l (cs [I]),.s,.l (cs [I]),.ref 7,.j,.ref 8,.l (cs [I]),.l (cs [I]),.j,.ref 9],.sq (cs [I]),.sq jP,.sq pE,.sq (cs [I]),.sq jP,.sq pE]
abbrev vt:Sg:=ik [0,1] [.ptr 0 0 0,.ptr 1 0 0] [iy,.st [.s,.s,.s,.s,.l ij,.l ij,.j,.ref 8,.ref 3,.j,.ref 4,.l ij,.ref 5,.ref 6,.ref 7],.dd,.sq lN,.sq lO,.sq jj,.sq l8,.sq (cs [I]),.sq iH]
abbrev tQ:Sg:=ik [0,2,3] [.ptr 0 0 0,.ptr 1 0 0,.ptr 2 0 0] [iy,.st [.s,.ref 3],.st [.s,.ref 4],.sq (cs [.s,I,I,.s]),.sq (cs [.s,I,I,.s])]
abbrev zt:Sg:=ik [0,1] [.ptr 0 0 0,.ptr 1 0 0] [iy,.st [.s,.s,.s,.s,.ref 10,.l ij,.ref 11,.j,.ref 4,.ref 5,.ref 6,.l ij,.ref 7,.ref 8,.ref 9],.dd,.dd,.sq iH,.sq lB,.sq (cs [I]),.sq jj,.sq lC,.sq (cs [I]),.sq ij,.sq jP]
abbrev jE:Cs:=cs [.s,.i .u32]
abbrev oJ:SO:=.st [.l jM,.l jE,.l mW,.l jQ,.l ni]
abbrev zu:SV:=.ag [.s,.s,.s,.s,.l ij,.l ij,.j,.l iH,.l lN,.j,.l lO,.l ij,.l jj,.l l8,.l (cs [I])]
abbrev zw:Sg:=ik [0,1] [.ptr 0 0 0,.ptr 1 0 0] [iy,.st [.s,.s,.s,.s,.l ij,.l ij,.j,.ref 2,.ref 3,.j,.ref 4,.l ij,.ref 5,.ref 6,.ref 7],.sq iH,.sq lN,.sq lO,.sq jj,.sq l8,.sq (cs [I])]
abbrev zx:SO:=.st [.s,.s,.s,.s,.ref 3,.l ij,.ref 4,.j,.ref 5,.ref 6,.ref 7,.l ij,.ref 8,.ref 9,.ref 10]
abbrev kP:Sg:=ik [0] [.ptr 0 0 0] [iy]
abbrev C4:Sg:=ik [0,1,7,67] [.ptr 0 0 0,.ptr 1 0 0,.s,.b] [iy,.st [.s,.s,.s,.s,.l ij,.l ij,.j,.ref 2,.ref 8,.j,.ref 9,.l ij,.ref 10,.ref 11,.ref 12],.sq iH,.dd,.dd,.dd,.dd,.dd,.sq lN,.sq lO,.sq jj,.sq l8,.sq (cs [I])]
abbrev C5:SO:=.st [.s,.s,.s,.s,.l ij,.l ij,.j,.ref 3,.ref 4,.j,.ref 5,.l ij,.ref 6,.ref 7,.ref 8]
abbrev C6:SO:=.st [.s,.s,.s,.s,.l ij,.l ij,.j,.ref 9,.ref 10,.j,.ref 11,.l ij,.ref 12,.ref 13,.ref 14]
abbrev C7:Sg:=ik [0,2,4,5] [.l jY,.ptr 0 0 0,.ptr 1 0 0,.ptr 2 0 0] [C5,iy,C6,.sq iH,.sq lN,.sq lO,.sq jj,.sq l8,.sq (cs [I]),.sq iH,.sq lN,.sq lO,.sq jj,.sq l8,.sq (cs [I])]
abbrev C8:Sg:=ik [0,2,4,5] [.l jY,.ptr 0 0 0,.ptr 1 0 0,.ptr 2 0 0] [zx,iy,.st [.s,.s,.s,.s,.l ij,.l ij,.ref 11,.j,.ref 12,.ref 13,.ref 14,.l ij,.ref 15,.ref 16,.ref 17],.sq ij,.sq jP,.sq iH,.sq lB,.sq (cs [I]),.sq jj,.sq lC,.sq (cs [I]),.sq jP,.sq iH,.sq lB,.sq (cs [I]),.sq jj,.sq lC,.sq (cs [I])]
abbrev C9:Type:=ByteArray× (List ByteArray)× (List (Int× (List kz)))
abbrev C':SO:=.st [.s,.s,.s,.s,.l ij,.l ij,.ref 2,.j,.ref 3,.ref 4,.ref 5,.l ij,.ref 6,.ref 7,.ref 8]
abbrev C_:Sg:=ik [0,1] [.ptr 0 0 0,.ptr 1 0 0] [iy,C',.sq jP,.sq iH,.sq lB,.sq (cs [I]),.sq jj,.sq lC,.sq (cs [I])]
abbrev Da:SO:=.st [.s,.s,.s,.s,.ref 11,.l ij,.ref 12,.j,.ref 13,.ref 14,.ref 15,.l ij,.ref 16,.ref 17,.ref 18]
abbrev HK:Sg:=ik [0,2,4,5] [.l jY,.ptr 0 0 0,.ptr 1 0 0,.ptr 2 0 0] [zx,iy,Da,.sq ij,.sq jP,.sq iH,.sq lB,.sq (cs [I]),.sq jj,.sq lC,.sq (cs [I]),.sq ij,.sq jP,.sq iH,.sq lB,.sq (cs [I]),.sq jj,.sq lC,.sq (cs [I])]
abbrev Db:Sg:=ik [0,1] [.ptr 0 0 0,.ptr 1 0 0] [iy,.st [.s,.s,.s,.s,.e ij,.e ij,.e jP,.j,.e iH,.e lB,.e (cs [I]),.e ij,.e jj,.e lC,.e (cs [I])]]
abbrev kj:Sg:=ik [0] [.s] []
abbrev oK:SO:=.st [.s,.l ij,.l ln]
abbrev nj:SV:=.ag [.s,.l ij,.l ln]
abbrev sE:Sg:=ik [0,3] [.ptr 0 0 0,.ref 1] [iy,.sq ij]
abbrev qn:Sg:=ik [] [] []
abbrev nC:jL:=⟨.exit 0,qn⟩
abbrev Dc:SO:=.st [.s,.s,.j,.i .u32,.i .u32,.i .u32,.i .u32,.s,.l (cs [I]),.s,.l (cs [I]),.ref 8,.j,.ref 9,.l (cs [I]),.l (cs [I]),.j,.ref 10]
abbrev Dd:SO:=.st [.s,.s,.j,.i .u32,.i .u32,.i .u32,.i .u32,.s,.l (cs [I]),.s,.l (cs [I]),.ref 5,.j,.ref 6,.l (cs [I]),.l (cs [I]),.j,.ref 7]
abbrev sF:SO:=.st [.ref 1,.ref 3,.ref 4,.ref 5,.ref 6]
abbrev zy:Sg:=ik [1,5,6] [.ptr 0 0 0,.ptr 1 0 0,.clo 657 [.ptr 1 0 0]] [oJ,.st [.np 1,.ref 2],.sb]
abbrev De:Sg:=ik [0,1] [.ptr 0 0 0,zu] [.st [.ref 1,.ref 2,.ref 3,.ref 4,.ref 5],.sq jM,.sq jE,.sq mW,.sq jQ,.sq ni]
abbrev vv:SO:=.st [.ref 3,.ref 0,.ref 4,.ref 5,.ref 6]
abbrev HL:Sg:=ik [0,1,4] [.ptr 0 0 0,.ptr 1 0 0,.ref 2] [iy,.st [.s,.s,.s,.s,.l ij,.l ij,.ref 3,.j,.ref 4,.ref 5,.ref 6,.l ij,.ref 7,.ref 8,.ref 9],.sq (cs [I,I,I,.s]),.sq jP,.sq iH,.sq lB,.sq (cs [I]),.sq jj,.sq lC,.sq (cs [I])]
abbrev HM:Sg:=ik [0,1,4] [.ptr 0 0 0,.ptr 1 0 0,.ref 8] [iy,.st [.s,.s,.s,.s,.l ij,.l ij,.j,.ref 2,.ref 3,.j,.ref 4,.l ij,.ref 5,.ref 9,.ref 7],.sq iH,.sq lN,.sq lO,.sq jj,.dd,.sq (cs [I]),.sq (cs [I,.s,I]),.sq l8]
abbrev HO:Sg:=ik [0,1] [.ptr 0 0 0,.ptr 1 0 0] [iy,.st [.s,.s,.s,.s,.l ij,.l ij,.j,.ref 2,.ref 3,.j,.ref 4,.l ij,.ref 5,.ref 8,.ref 7],.sq iH,.sq lN,.sq lO,.sq jj,.dd,.sq (cs [I]),.sq l8]
abbrev pF:jL:=⟨.ret,(ik [2] [.j] [])⟩
abbrev Df:SO:=.st [.s,.s,.s,.s,.l ij,.l ij,.j,.ref 2,.ref 3,.j,.ref 4,.l ij,.ref 5,.ref 8,.ref 9]
abbrev zA:Sg:=ik [0] [.ag [.l jM,.l jE,.l mW,.l jQ,.l ni]] []
abbrev vw:Sg:=ik [0,1] [.ptr 0 0 0,.s] [iy]
abbrev HP:jL:=⟨.ret,(ik [2,3] [.ptr 0 0 0,.b] [.st [.s,.s,.s,.s,.l ij,.l ij,.l jP,.j,.l iH,.l lB,.l (cs [I]),.l ij,.l jj,.l lC,.l (cs [I])]])⟩
abbrev HQ:SV:=.tp [.ag [.s,.s,.j,.i .u32,.i .u32,.i .u32,.i .u32,.s,.l (cs [I]),.s,.l (cs [I]),.l (cs [I]),.j,.l jP,.l (cs [I]),.l (cs [I]),.j,.l pE],.j]
abbrev nO:SV:=.ag [.j,.j,.s]
abbrev HS:SO:=.st [.s,.s,.j,.i .u32,.i .u32,.i .u32,.i .u32,.s,.l (cs [I]),.s,.l (cs [I]),.l (cs [I]),.j,.l jP,.l (cs [I]),.l (cs [I]),.j,.l pE]
abbrev vy:Type:=Int×ByteArray×ByteArray
abbrev HT:Sg:=ik [1,5,6,26,27,28] [.ptr 0 0 0,.ptr 1 0 0,.clo 657 [.ptr 1 0 0],.l jM,.j,.j] [oJ,.st [.np 1,.ref 2],.sb]
abbrev ot:Cs:=cs [.l jY]
abbrev HU:SV:=.ag [.s,.s,.s,.s,.l ij,.l ij,.l jP,.j,.l iH,.l lB,.l (cs [I]),.l ij,.l jj,.l lC,.l (cs [I])]
abbrev qo:SV:=.ag [.j,.l iH]
abbrev HV:Sg:=ik [0,1] [.ref 0,.clo 784 [.ptr 1 0 0]] [.sq jE,wv,vv,.sq jM,.sq mW,.sq jQ,.sq ni,.st [.ref 3,.b]]
abbrev vz:jL:=⟨.ret,(ik [4] [.j] [])⟩
abbrev vA:jL:=⟨.ret,(ik [2] [.b] [])⟩
abbrev HW:SO:=.st [.s,.s,.s,.s,.ref 2,.l ij,.ref 10,.j,.ref 4,.ref 5,.ref 6,.l ij,.ref 7,.ref 8,.ref 9]
abbrev Dg:jL:=⟨.ret,(ik [2,3,4,5] [.l jY,.j,.j,.j] [])⟩
abbrev vD:Sg:=ik [0] [.i .u8] []
abbrev sH:SO:=.st [.ref 1,.b]
abbrev zB:SV:=.ag [.j,.s,.j,.j,.s,.j,.j]
abbrev nD(X:Type):Type:=ByteArray×ByteArray×X
abbrev vE(X:Type):Type:=(List ByteArray)× (List ByteArray)×X
abbrev Zq0(X:Type):Type:=Int×Bool×nD (nD (vE (Int×Int× (List ByteArray)× (List kz)× (List AX)× (List AW)× (List vq)×X)))
abbrev lr(X:Type):Type:=(List iW)×Int×X
abbrev kL(X:Type):Type:=lr (Bool×X)
abbrev oY(X:Type):Type:=kL (nD (nD ((List ByteArray)×X)))
abbrev Dh(X:Type):Type:=(List kz)× (List xt)× (List Int)× (List vq)× (List (List tP))×X
abbrev jF(X:Type):Type:=(List iW)×Zq0 ((List (List lq))×X)
abbrev pG(X:Type):Type:=(List ByteArray)×Int×X
abbrev sI(X:Type):Type:=oY (pG (Int× (List ByteArray)× (List AX)× (List AW)× (List vq)× (List (List lq))× (List Int)×X))
abbrev rE(X:Type):Type:=Int×vE ((List kO)×Dh X)
abbrev LM(X:Type):Type:=pG ((List ByteArray)×X)
abbrev wx(X:Type):Type:=oY (Int× (List ByteArray)×Dh ((List Int)× (List ByteArray)×X))
abbrev xu(X:Type):Type:=nD (nD (vE (Int×Int× (List ByteArray)×jF ((List Int)× (List kz)× (List AX)× (List AW)× (List vq)× (List (List lq))×X))))
abbrev jR(X:Type):Type:=ByteArray×Int×X
abbrev zC(X:Type):Type:=nD (nD (vE ((List kO)×Int× (List kz)× (List xt)× (List Int)× (List ByteArray)× (List vq)× (List (List tP))×X)))
abbrev tR(X:Type):Type:=nD (nD (LM (oY (rE ((List Int)× (List ByteArray)× (List kO)×Dh X)))))
abbrev zD(X:Type):Type:=nD (nD (vE (Int× (List kz)× (List AX)×Int× (List AW)× (List ByteArray)× (List vq)× (List (List lq))×X)))
abbrev ou(X:Type):Type:=kL (nD ((List lP)×X))
abbrev pH(X:Type):Type:=oY (LM ((List kO)×Dh X))
abbrev qp(X:Type):Type:=(List iW)×Zq0 ((List Int)×X)
abbrev Di(X:Type):Type:=(List iW)×nD (nD (LM (oY ((List ByteArray)×rE ((List Int)× (List kO)×Dh X)))))
abbrev xw(X:Type):Type:=oY (LM ((List tP)× (List kO)×Dh X))
abbrev kq(X:Type):Type:=jR (Int×X)
abbrev Dj(X:Type):Type:=nD (nD (nD (nD (nD (nD (nD (nD (nD (nD (ByteArray×X))))))))))
abbrev Dk(X:Type):Type:=ByteArray× (List ByteArray)×X
abbrev zE(X:Type):Type:=oY (Int×vE (Dh ((List Int)×X)))
abbrev qs(X:Type):Type:=ByteArray×lr X
abbrev vF(X:Type):Type:=(List C9)×Int×Int×X
abbrev vH(X:Type):Type:=(List (List iW))×Int×X
def Qa:List Nat:=[0,0,1075,629,632,649,650,266,635,647,642,633,696,699,297,673,674,675,680,256,697,682,269,308,638,657,149,169,658,659,660,661,662,663,664,605,151,677,678,274,713,714,715,716,717,718,719,720,721,492,722,723,724,725,726,500,173,758,759,760,761,762,763,744,538,745,746,681,683,684,472,685,686,687,164,188,704,549,705,559,706,707,708,165,640,727,728,729,730,731,732,733,734,735,736,737,302,303,768,203,769,770,771,772,773,774,775,776,777,778,779,780,781,782,783,252,742,784,785,786,787,535,536,230,555,556,798,799,800,801,743,747,501,502,503,504,505,748,587,426,749,143,147,148,750,0,200,530,1081,1076,693,694,695,788,789,790,791,792,700,712,793,794,795,320,813,210,0,191,1101,814,815,816,817,604,818,819,820,821,822,242,257,280,286,287,288,289,797,552,553,554,255,824,825,283,826,827,828,829,537,539,540,541,597,584,577,442,162,163,0,550,1082,1083,1084,1085,753,752,756,757,690,823,711,272,1093,1086,835,1099,277,278,293,294,306,307,560,561,434,836,837,838,557,571,590,575,595,596,177,178,179,180,181,182,183,184,185,186,187,1090,1091,1092,209,807,808,551,809,0,0,1094,1095,839,174,840,309,321,448,591,601,602,594,271,606,607,608,609,194,195,196,197,198,199,212,213,153,834,284,558,1097,175,1079,193,326,613,603,301,1100,208,1080,204,205,206,207,614,615,311,312,313,314,315,316,317,318,319,0,1088,1089,1096,211,322,323,324,325,327,0,0,0,0,0,0,0,0,0,0,0,0,214,0,0,215,216,0,217,218,0,0,0,0,0,0,0,0,0,0,0,0,0,0,1098]
def Qb:Cs->Bool
 | .cons (.l _) .nil=>zZ
 | .cons _ r=>Qb r
 | .nil=>zj
def wf(i:Nat)(c:Cs):Nat:=bif im i 273&&Qb c&&im c.width 1 then 2 else bif zj&&Qb c&&js 1 c.width then 2 else 0
def ku:List ByteArray:=[⟨#[45,62,62]⟩,⟨#[45,62]⟩,⟨#[126,62]⟩,⟨#[60,61]⟩,⟨#[33,61]⟩,⟨#[40]⟩,⟨#[41]⟩,⟨#[123]⟩,⟨#[125]⟩,⟨#[91]⟩,⟨#[93]⟩,⟨#[44]⟩,⟨#[58]⟩,⟨#[59]⟩,⟨#[46]⟩,⟨#[61]⟩,⟨#[60]⟩,⟨#[42]⟩,⟨#[47]⟩,⟨#[124]⟩]
def Qc:List ByteArray:=[⟨#[]⟩,⟨#[102,105,114,115,116]⟩,⟨#[102,114,101,113,117,101,110,116]⟩,⟨#[108,111,110,103,101,115,116]⟩,⟨#[108,101,97,115,116]⟩,⟨#[103,114,101,97,116,101,115,116]⟩]
def HY:List ByteArray:=[⟨#[]⟩,⟨#[101,113,117,97,108]⟩,⟨#[101,100,105,116,115]⟩,⟨#[103,114,97,109,115]⟩,⟨#[108,101,97,100,105,110,103]⟩]
def gsv:List (Nat×List Value):=[(0,HY.map Value.string),(1,Qc.map Value.string),(2,ku.map Value.string)]
def fm:FM:={f:=zf Qa,own:=[("ref.go:256",49),("parse.go:229",41),("parse.go:137",9),("value.go:49",6),("value.go:141",12),("value.go:97",60),("ref.go:142",30),("ref.go:148",46),("ref.go:150",75),("ref.go:153",38),("linkage.go:41",1000000),("parse.go:249",1000000),("ref.go:293",1000000),("syntax.go:101",1000000),("ref.go:221",1000000),("syntax.go:109",1000000),("ref.go:209",1000000),("parse.go:263",1000000),("parse.go:265",1000000),("parse.go:269",1000000),("ref.go:224",1000000),("ref.go:187",1000000),("ref.go:117",1000000),("ref.go:188",1000000),("ref.go:189",1000000),("ref.go:151",1000000),("parse.go:276",1000000),("syntax.go:122",1000000),("parse.go:179",1000000),("syntax.go:126",1000000),("parse.go:278",1000000),("syntax.go:88",1000000),("parse.go:282",1000000),("parse.go:197",1000000),("parse.go:199",1000000),("parse.go:284",1000000),("parse.go:213",1000000),("syntax.go:145",1000000),("parse.go:213",2000003),("syntax.go:145",2000008),("syntax.go:149",1000000),("ref.go:158",2000010),("ref.go:161",2000031),("syntax.go:222",1000000),("syntax.go:195",1000000),("syntax.go:204",2000005),("syntax.go:237",2000007),("syntax.go:241",1000000),("syntax.go:204",3000012),("syntax.go:237",3000062)],qv:=[],bt:=108,bu:=5,tb:=(gsv.map λp=>(p.1,λc=>c=p.2.toArray))++[(4,λc=>c=wu),(7,yd),(8,yd)],gs:=gsv,F9:=λp H=>⟨_,List.mem_append_left _ (mH.2 ⟨p,H,rfl⟩),λ_ h=>h⟩}
theorem tb4:((4,λc=>c=wu):Nat× (Array Value->Prop))∈fm.tb:=List.mem_append_right _ (.head _)
theorem tb7:(7,yd)∈fm.tb:=List.mem_append_right _ (.tail _ (.head _))
theorem tb8:(8,yd)∈fm.tb:=List.mem_append_right _ (.tail _ (.tail _ (.head _)))
abbrev pf:Nat->Bool:=λg=> !(List.any ([310,280,282,714,642,697,786,675,657,149,605,151,715,717,718,719,720,721,722,723,724,725,758,760,761,762,683,684,685,686,164,188,559,706,728,729,730,731,732,733,734,735,736,737,772,773,774,775,776,777,778,779,780,781,782,783,742,784,785,787,798,743,747,502,748,426,749,200,788,789,790,791,792,793,794,795,815,818,819,820,821,822,286,797,824,827,828,537,539,540,541,442,823,277,278,293,560,561,836,837,838,557,309,601,196,197,198,1079,193,613,208,1080,204,205,206,207,211,323,324,327,147,148,288,162,1084,307,177,178,179,181,182,184,185,321,271,194,326,301,311,312,313,315,316,318,319,322,269,492,726,143]:List Nat) (im g))
abbrev GZ(P:Program)(fm:FM)(fs:Lo->List hM)(L:Lo):Prop:=GS P fm pf (fs L) L
abbrev GY(fs:Lo->List hM):Prop:= ∀{L:Lo},zb L->GZ Tryz.prog fm fs L
noncomputable abbrev V(i:Nat)(A:List (Nat×List Wr):=[])(R:Option (List Wr):=zz):kT:=fnV Tryz.prog fm pf (wf i) [] [] i A R
theorem tV{g i:Nat}{A:List (Nat×List Wr)}{R:Option (List Wr)}(h:CL g Qa i 0=true:=by kernel_rfl)(H:im g 0=false:=by kernel_rfl)(d:lk Tryz.prog fm pf i=U ((V i A R).lJ,(V i A R).res,(V i A R).code.er):=by kernel_rfl):vh Tryz.prog fm pf g (V i A R):=Ly rfl h (λe=>by subst e;cases H) d
noncomputable def Qd(_:Lo):List hM:=[]
theorem mixed:Tryz.prog.follows .mixedOrders=true:=by kernel_rfl
theorem S0:GY Qd:=λh=>⟨h,mixed,Yul Tryz.prog fm pf []⟩
theorem wy{g i f:Nat}(h:CL g Qa i 0=zZ)(H:g≠0)(d:fm f=g):f=i:=Z0 h H d
theorem YCE:l5 Tryz.prog fm Tryz.kK:=⟨Tryz.xq,by kernel_rfl⟩
theorem tO: ∀f,fm f=716->CS Tryz.prog f:=λf h=>by
 have:=wy (i:=43) (by kernel_rfl) (by decide) h;subst this
 exact Tryz.tO
theorem HZ: ∀f,fm f=813->kB Tryz.prog f=zZ/\ ∃ρ:Go.Shelf.Ren,Go.Proofs.Lays.n137 Tryz.prog ρ/\ρ.f 137=f:=λf h=>by
 have:=wy (i:=164) (by kernel_rfl) (by decide) h;subst this
 exact⟨by kernel_rfl,_,Tryz.zo,by kernel_rfl⟩
theorem H2: ∀f,fm f=203->kB Tryz.prog f=zZ/\ ∃ρ:Go.Shelf.Ren,Go.Proofs.Lays.n138 Tryz.prog ρ/\ρ.f 138=f:=λf h=>by
 have:=wy (i:=99) (by kernel_rfl) (by decide) h;subst this
 exact⟨by kernel_rfl,_,Tryz.zp,by kernel_rfl⟩
theorem H3: ∀f,fm f=175->kB Tryz.prog f=zZ/\vm Tryz.prog fm f .u64 2 16 8 ql:=λf h=>by
 have:=wy (i:=295) (by kernel_rfl) (by decide) h;subst this
 exact⟨by kernel_rfl,Tryz.HJ tb7 (λ_ h=>h)⟩
theorem H4: ∀f,fm f=174->kB Tryz.prog f=zZ/\zl Tryz.prog fm f .i64 64 vp:=λf h=>by
 have:=wy (i:=268) (by kernel_rfl) (by decide) h;subst this
 exact⟨by kernel_rfl,YvH Tryz.mP tb7 (λ_ h=>h) tb8 (λ_ h=>h)⟩
theorem H5: ∀f,fm f=549->kB Tryz.prog f=zZ/\ ∃ρ:Go.Shelf.Ren,Go.Proofs.LaysM.n173 Tryz.prog ρ/\ (∃q,(ρ.g 17,q)∈fm.tb/\ ∀c,q c->c=wu)/\ρ.f 173=f:=λf h=>by
 have:=wy (i:=77) (by kernel_rfl) (by decide) h;subst this
 exact⟨by kernel_rfl,_,Tryz.xn,⟨_,tb4,λ_ h=>h⟩,by kernel_rfl⟩
theorem H6: ∀f,fm f=715->kB Tryz.prog f=zZ/\ ∃ρ:Go.Shelf.Ren,Go.Proofs.SlLaysH.n10 Tryz.prog ρ/\ (∀w,(zeroValue (ρ.t 23)).run Tryz.prog w= .ok (.slice zz 0 0) w)/\ (∀f,fm f=716->CS Tryz.prog f)/\ρ.f 10=f:=λf h=>by
 have:=wy (i:=42) (by kernel_rfl) (by decide) h;subst this
 exact⟨by kernel_rfl,_,Tryz.Hu,Tryz.P7,tO,by kernel_rfl⟩
theorem H7: ∀f,fm f=288->kB Tryz.prog f=zZ/\ ∃(ρ:Go.Shelf.Ren) (z:List Value),ry Tryz.prog ρ z/\z.length=2/\ρ.f 22=f:=λf h=>by
 have:=wy (i:=184) (by kernel_rfl) (by decide) h;subst this
 exact⟨by kernel_rfl,_,_,Tryz.CK,rfl,by kernel_rfl⟩
theorem H8: ∀f,fm f=169->kB Tryz.prog f=zZ/\ ∃ρ:Go.Shelf.Ren,Go.Proofs.Lays.n156 Tryz.prog ρ/\Go.Proofs.Builder.Extra Tryz.prog ρ/\ρ.f 156=f:=λf h=>by
 have:=wy (i:=27) (by kernel_rfl) (by decide) h;subst this
 exact⟨by kernel_rfl,_,Tryz.rA,Tryz.xq,by kernel_rfl⟩
theorem H9: ∀f,fm f=164->kB Tryz.prog f=zZ/\ ∃ρ:Go.Shelf.Ren,Go.Proofs.Lays.n240 Tryz.prog ρ/\l5 Tryz.prog fm ρ/\ρ.f 240=f:=λf h=>by
 have:=wy (i:=74) (by kernel_rfl) (by decide) h;subst this
 exact⟨by kernel_rfl,_,Tryz.xp,YCE,by kernel_rfl⟩
theorem H_: ∀f,fm f=165->kB Tryz.prog f=zZ/\ ∃ρ:Go.Shelf.Ren,Go.Proofs.LaysM.n171 Tryz.prog ρ/\ (∃q,(ρ.g 17,q)∈fm.tb/\ ∀c,q c->c=wu)/\ρ.f 171=f:=λf h=>by
 have:=wy (i:=83) (by kernel_rfl) (by decide) h;subst this
 exact⟨by kernel_rfl,_,Tryz.xm,⟨_,tb4,λ_ h=>h⟩,by kernel_rfl⟩
theorem Ia: ∀f,fm f=151->kB Tryz.prog f=zZ/\ ∃ρ:Go.Shelf.Ren,Go.Proofs.Lays.n169 Tryz.prog ρ/\l5 Tryz.prog fm ρ/\fm.bu=ρ.t 5/\ρ.f 169=f:=λf h=>by
 have:=wy (i:=36) (by kernel_rfl) (by decide) h;subst this
 exact⟨by kernel_rfl,_,Tryz.xo,YCE,by kernel_rfl,by kernel_rfl⟩
def strings_IndexByte(c:Lo)(a:ByteArray)(b:Int):Option Int:=U (CQ a b)
def YvM(L:Lo):hM:=AQ 813
noncomputable def Qe(L:Lo):List hM:=YvM L::Qd L
theorem YvN{P:Program}{fm:FM}{L:Lo}(h:GZ P fm Qd L)(G: ∀f,fm f=813->kB P f=zZ/\ ∃ρ:Go.Shelf.Ren,Go.Proofs.Lays.n137 P ρ/\ρ.f 137=f):GZ P fm Qe L:=
 ⟨h.1,h.2,Yvc h.S rfl G⟩
theorem S1:GY Qe:=λh=>YvN (S0 h) (HZ)
noncomputable abbrev Qf:kT:=V 98 [(231,[.j 0])]
def Ib(d:Lo):kq Bool->Option ((ByteArray×Int)⊕Int):=λg=>match g with
 | (a,b,e,f)=>bif f then(U (.inl (a,(g_ .i64 (b+1)))))else(bif(decide (e=35))then(e_ (0<=b/\b<=(a.size:Int)/\ (a.size:Int)<=(a.size:Int)) (d' (strings_IndexByte d (a.extract b.toNat (a.size:Int).toNat) 10) λc=>bif(decide (c<0))then(U (.inr (a.size:Int)))else(U (.inl (a,(g_ .i64 (b+c)))))))else(U (.inr b)))
def FB(c:Lo):ByteArray×Int->Option ((ByteArray×Int)⊕ (Int⊕Int)):=λg=>match g with
 | (b,a)=>bif(decide (a< (b.size:Int)))then(e_ (0<=a/\a< (b.size:Int)) (bif(decide ((ig b a)=32))then(d' (Ib c (b,a,(ig b a),zZ)) λh=>iV h (λd=>U (.inl (d.1,d.2))) (λi=>U (.inr (.inl i))))else(bif(decide ((ig b a)=9))then(d' (Ib c (b,a,(ig b a),zZ)) λj=>iV j (λe=>U (.inl (e.1,e.2))) (λk=>U (.inr (.inl k))))else(d' (Ib c (b,a,(ig b a),(decide ((ig b a)=10)))) λm=>iV m (λf=>U (.inl (f.1,f.2))) (λn=>U (.inr (.inl n)))))))else(U (.inr (.inr a)))
def xy(a:Lo):ByteArray×Int->Option (Int⊕Int):=a.run (FB a)
def LN(a:Lo)(b:ByteArray):Option Int:=
 d' (xy a (b,0)) λc=>iV c (λd=>U d) (λe=>U e)
noncomputable def Qg(L:Lo):List hM:=iL 768 zZ kj .j [] (LN L)::Qe L
theorem S2:GY Qg:=λ{L} h=>
 (S1 h).p (F:=Qf) _ (.l (p:=⟨14,[],(ik [0,3] [.s,.j] []),[pF,⟨.exit 0,(ik [3] [.j] [])⟩],xy L⟩) (b:=jf Qf 14) (.j (p:=⟨0,[],(ik [0,3,11,13] [.s,.j,.i .u8,.b] []),[⟨.kM,(ik [0,3] [.s,.j] [])⟩,pF],Ib L⟩) (b:=jf Qf 0) .n) (FB L)) tV
def Yo6(c:Lo)(a b:ByteArray):Option Int:=PI a b
def YvO(L:Lo):hM:=AR 203
noncomputable def Qh(L:Lo):List hM:=YvO L::Qg L
theorem YvP{P:Program}{fm:FM}{L:Lo}(h:GZ P fm Qg L)(G: ∀f,fm f=203->kB P f=zZ/\ ∃ρ:Go.Shelf.Ren,Go.Proofs.Lays.n138 P ρ/\ρ.f 138=f):GZ P fm Qh L:=
 ⟨h.1,h.2,Yvd h.S rfl G⟩
theorem S3:GY Qh:=λh=>YvP (S2 h) (H2)
def Ic(e:Lo):jR Int->Option ((jR Int)⊕ (Int⊕Unit)):=λd=>match d with
 | (b,c,a)=>bif(decide (0<=a))then(e_ (0<=a/\a< (b.size:Int)) (bif(decide ((ig b a)=c))then(U (.inr (.inl a)))else(U (.inl (b,c,(g_ .i64 (a-1)))))))else(U (.inr (.inr ())))
def LO(a:Lo):jR Int->Option (Int⊕Unit):=a.run (Ic a)
def Qi(b:Lo)(a:ByteArray)(c:Int):Option Int:=
 d' (LO b (a,c,(g_ .i64 ((a.size:Int)-1)))) λd=>iV d (λe=>U e) (λf=>U (-1))
noncomputable def fs4(L:Lo):List hM:=iL 1101 zZ (ik [0,1] [.s,.i .u8] []) .j [] (u2 (Qi L):)::Qh L
theorem S4:GY fs4:=λ{L} h=>
 (S3 h).p (F:=(V 168)) _ (.l (p:=⟨13,[],(ik [0,1,5] [.s,.i .u8,.j] []),[vz,nC],LO L⟩) (b:=jf (V 168) 13) .n (Ic L)) tV
def LP(a:Lo)(b:ByteArray)(c:Int):Option Int:=
 d' (Qi a b c) λd=>U d
noncomputable def fs5(L:Lo):List hM:=iL 769 zZ (ik [0,1] [.s,.i .u8] []) .j [] (u2 (LP L):)::fs4 L
theorem S5:GY fs5:=λ{L} h=>
 (S4 h).p (F:=(V 100)) _ .n tV
def Dl(b:Lo)(a:Int):Option Bool:=
 bif(decide (97<=a))then(bif(decide (a<=122))then(U zZ)else(bif(decide (65<=a))then(bif(decide (a<=90))then(U zZ)else(U (decide (a=95))))else(U (decide (a=95)))))else(bif(decide (65<=a))then(bif(decide (a<=90))then(U zZ)else(U (decide (a=95))))else(U (decide (a=95))))
noncomputable def fs6(L:Lo):List hM:=iL 555 zZ vD .b [] (Dl L)::fs5 L
theorem S6:GY fs6:=λ{L} h=>
 (S5 h).p (F:=(V 124)) _ .n tV
def zF(b:Lo)(a:Int):Option Bool:=
 bif(decide (48<=a))then(U (decide (a<=57)))else(U zj)
noncomputable def fs7(L:Lo):List hM:=iL 556 zZ vD .b [] (zF L)::fs6 L
theorem S7:GY fs7:=λ{L} h=>
 (S6 h).p (F:=(V 125)) _ .n tV
def LQ(a:Lo)(b:Int):Option Bool:=
 d' (Dl a b) λc=>bif c then(U zZ)else(d' (zF a b) λd=>U d)
noncomputable def fs8(L:Lo):List hM:=iL 816 zZ vD .b [] (LQ L)::fs7 L
theorem S8:GY fs8:=λ{L} h=>
 (S7 h).p (F:=(V 171)) _ .n tV
noncomputable abbrev Yo7:kT:=V 170 [] (U [])
def Ie(c:Lo):ByteArray×Int->Option ((ByteArray×Int)⊕Int):=λd=>match d with
 | (b,a)=>bif(decide (a< (b.size:Int)))then(e_ (0<=a/\a< (b.size:Int)) (d' (LQ c (ig b a)) λe=>bif e then(U (.inl (b,(g_ .i64 (a+1)))))else(U (.inr a))))else(U (.inr a))
def Qj(a:Lo):ByteArray×Int->Option Int:=a.run (Ie a)
def LR(a:Lo)(b:ByteArray):Option Int:=
 d' (Qj a (b,0)) λc=>U c
noncomputable def fs9(L:Lo):List hM:=iL 815 zj (ik [0,1] [.s,.clo 816 []] []) .j [] (LR L)::fs8 L
theorem S9:GY fs9:=λ{L} h=>
 (S8 h).i (F:=Yo7) _ (.l (p:=⟨14,[],(ik [0,1,5] [.s,.clo 816 [],.j] []),[⟨.exit 0,(ik [5] [.j] [])⟩],Qj L⟩) (b:=jf Yo7 14) .n (Ie L)) tV
noncomputable abbrev Yo8:kT:=V 170 [] (U [])
def If(c:Lo):ByteArray×Int->Option ((ByteArray×Int)⊕Int):=λd=>match d with
 | (b,a)=>bif(decide (a< (b.size:Int)))then(e_ (0<=a/\a< (b.size:Int)) (d' (zF c (ig b a)) λe=>bif e then(U (.inl (b,(g_ .i64 (a+1)))))else(U (.inr a))))else(U (.inr a))
def Qk(a:Lo):ByteArray×Int->Option Int:=a.run (If a)
def Dm(a:Lo)(b:ByteArray):Option Int:=
 d' (Qk a (b,0)) λc=>U c
noncomputable def Ig(L:Lo):List hM:=iL 815 zj (ik [0,1] [.s,.clo 556 []] []) .j [] (Dm L)::fs9 L
theorem S10:GY Ig:=λ{L} h=>
 (S9 h).i (F:=Yo8) _ (.l (p:=⟨14,[],(ik [0,1,5] [.s,.clo 556 [],.j] []),[⟨.exit 0,(ik [5] [.j] [])⟩],Qk L⟩) (b:=jf Yo8 14) .n (If L)) tV
def uz(d:Lo):ByteArray×Int->Option ((ByteArray×Int)⊕ (Int⊕Unit)):=λc=>match c with
 | (b,a)=>bif(decide (a< (b.size:Int)))then(e_ (0<=a/\a< (b.size:Int)) (bif(decide ((ig b a)=92))then(U (.inl (b,(g_ .i64 ((g_ .i64 (a+1))+1)))))else(bif(decide ((ig b a)=34))then(U (.inr (.inl (g_ .i64 (a+1)))))else(U (.inl (b,(g_ .i64 (a+1))))))))else(U (.inr (.inr ())))
def sJ(a:Lo):ByteArray×Int->Option (Int⊕Unit):=a.run (uz a)
def xA(a:Lo)(b:ByteArray):Option Int:=
 d' (sJ a (b,1)) λc=>iV c (λd=>U d) (λe=>U 0)
noncomputable def Ih(L:Lo):List hM:=iL 817 zZ kj .j [] (xA L)::Ig L
theorem S11:GY Ih:=λ{L} h=>
 (S10 h).p (F:=(V 172)) _ (.l (p:=⟨13,[],(ik [0,3] [.s,.j] []),[pF,nC],sJ L⟩) (b:=jf (V 172) 13) .n (uz L)) tV
def Ql(c:Lo)(b a:ByteArray):Option Bool:=
 bif(decide ((a.size:Int)<=(b.size:Int)))then(e_ (0<=(0:Int)/\0<=(a.size:Int)/\ (a.size:Int)<=(b.size:Int)) (U (decide ((b.extract 0 (a.size:Int).toNat)=a))))else(U zj)
noncomputable def Ii(L:Lo):List hM:=iL 1099 zZ (ik [0,1] [.s,.s] []) .b [] (u2 (Ql L):)::Ih L
theorem S12:GY Ii:=λ{L} h=>
 (S11 h).p (F:=(V 225)) _ .n tV
def LS(a:Lo)(b c:ByteArray):Option Bool:=
 d' (Ql a b c) λd=>U d
noncomputable def Ij(L:Lo):List hM:=iL 604 zZ (ik [0,1] [.s,.s] []) .b [] (u2 (LS L):)::Ii L
theorem S13:GY Ij:=λ{L} h=>
 (S12 h).p (F:=(V 173)) _ .n tV
def Qm(x:Lo):Dj Int->Option ((Dj Int)⊕ (ByteArray⊕Unit)):=λy=>match y with
 | (w,b,c,d,e,f,g,h,i,j,k,m,n,o,p,q,r,s,t,u,v,a)=>bif(decide (a<20))then(e_ (0<=a/\a<20) (d' (LS x w ([b,c,d,e,f,g,h,i,j,k,m,n,o,p,q,r,s,t,u,v].getD a.toNat (a_ #[]))) λz=>bif z then(U (.inr (.inl ([b,c,d,e,f,g,h,i,j,k,m,n,o,p,q,r,s,t,u,v].getD a.toNat (a_ #[])))))else(U (.inl (w,b,c,d,e,f,g,h,i,j,k,m,n,o,p,q,r,s,t,u,v,(g_ .i64 (a+1)))))))else(U (.inr (.inr ())))
def AY(a:Lo):Dj Int->Option (ByteArray⊕Unit):=a.run (Qm a)
def FC(b:Lo)(a:ByteArray):Option ByteArray:=
 e_ (0<=(0:Int)/\0< (a.size:Int)) (d' (Dl b (ig a 0)) λm=>bif m then(d' (LR b a) λc=>e_ (0<=(0:Int)/\0<=c/\c<=(a.size:Int)) (U (a.extract 0 c.toNat)))else(e_ (0<=(0:Int)/\0< (a.size:Int)) (d' (zF b (ig a 0)) λn=>bif n then(d' (Dm b a) λd=>e_ (0<=(0:Int)/\0<=d/\d<=(a.size:Int)) (U (a.extract 0 d.toNat)))else(e_ (0<=(0:Int)/\0< (a.size:Int)) (bif(decide ((ig a 0)=45))then(bif(decide (1< (a.size:Int)))then(e_ (0<=(1:Int)/\1< (a.size:Int)) (d' (zF b (ig a 1)) λo=>bif o then(e_ (0<=(1:Int)/\1<=(a.size:Int)/\ (a.size:Int)<=(a.size:Int)) (d' (Dm b (a.extract 1 (a.size:Int).toNat)) λe=>e_ (0<=(0:Int)/\0<=(g_ .i64 (1+e))/\ (g_ .i64 (1+e))<=(a.size:Int)) (U (a.extract 0 (g_ .i64 (1+e)).toNat))))else(e_ (0<=(0:Int)/\0< (a.size:Int)) (bif(decide ((ig a 0)=34))then(d' (xA b a) λf=>e_ (0<=(0:Int)/\0<=f/\f<=(a.size:Int)) (U (a.extract 0 f.toNat)))else(d' (AY b (a,(a_ #[45,62,62]),(a_ #[45,62]),(a_ #[126,62]),(a_ #[60,61]),(a_ #[33,61]),(a_ #[40]),(a_ #[41]),(a_ #[123]),(a_ #[125]),(a_ #[91]),(a_ #[93]),(a_ #[44]),(a_ #[58]),(a_ #[59]),(a_ #[46]),(a_ #[61]),(a_ #[60]),(a_ #[42]),(a_ #[47]),(a_ #[124]),0)) λp=>iV p (λq=>U q) (λa0=>U (a_ #[])))))))else(e_ (0<=(0:Int)/\0< (a.size:Int)) (bif(decide ((ig a 0)=34))then(d' (xA b a) λg=>e_ (0<=(0:Int)/\0<=g/\g<=(a.size:Int)) (U (a.extract 0 g.toNat)))else(d' (AY b (a,(a_ #[45,62,62]),(a_ #[45,62]),(a_ #[126,62]),(a_ #[60,61]),(a_ #[33,61]),(a_ #[40]),(a_ #[41]),(a_ #[123]),(a_ #[125]),(a_ #[91]),(a_ #[93]),(a_ #[44]),(a_ #[58]),(a_ #[59]),(a_ #[46]),(a_ #[61]),(a_ #[60]),(a_ #[42]),(a_ #[47]),(a_ #[124]),0)) λr=>iV r (λs=>U s) (λA=>U (a_ #[]))))))else(e_ (0<=(0:Int)/\0< (a.size:Int)) (bif(decide ((ig a 0)=63))then(bif(decide (1< (a.size:Int)))then(e_ (0<=(1:Int)/\1< (a.size:Int)) (d' (zF b (ig a 1)) λt=>bif t then(e_ (0<=(1:Int)/\1<=(a.size:Int)/\ (a.size:Int)<=(a.size:Int)) (d' (Dm b (a.extract 1 (a.size:Int).toNat)) λh=>e_ (0<=(0:Int)/\0<=(g_ .i64 (1+h))/\ (g_ .i64 (1+h))<=(a.size:Int)) (U (a.extract 0 (g_ .i64 (1+h)).toNat))))else(e_ (0<=(0:Int)/\0< (a.size:Int)) (bif(decide ((ig a 0)=34))then(d' (xA b a) λi=>e_ (0<=(0:Int)/\0<=i/\i<=(a.size:Int)) (U (a.extract 0 i.toNat)))else(d' (AY b (a,(a_ #[45,62,62]),(a_ #[45,62]),(a_ #[126,62]),(a_ #[60,61]),(a_ #[33,61]),(a_ #[40]),(a_ #[41]),(a_ #[123]),(a_ #[125]),(a_ #[91]),(a_ #[93]),(a_ #[44]),(a_ #[58]),(a_ #[59]),(a_ #[46]),(a_ #[61]),(a_ #[60]),(a_ #[42]),(a_ #[47]),(a_ #[124]),0)) λu=>iV u (λv=>U v) (λB=>U (a_ #[])))))))else(e_ (0<=(0:Int)/\0< (a.size:Int)) (bif(decide ((ig a 0)=34))then(d' (xA b a) λj=>e_ (0<=(0:Int)/\0<=j/\j<=(a.size:Int)) (U (a.extract 0 j.toNat)))else(d' (AY b (a,(a_ #[45,62,62]),(a_ #[45,62]),(a_ #[126,62]),(a_ #[60,61]),(a_ #[33,61]),(a_ #[40]),(a_ #[41]),(a_ #[123]),(a_ #[125]),(a_ #[91]),(a_ #[93]),(a_ #[44]),(a_ #[58]),(a_ #[59]),(a_ #[46]),(a_ #[61]),(a_ #[60]),(a_ #[42]),(a_ #[47]),(a_ #[124]),0)) λw=>iV w (λx=>U x) (λC=>U (a_ #[]))))))else(e_ (0<=(0:Int)/\0< (a.size:Int)) (bif(decide ((ig a 0)=34))then(d' (xA b a) λk=>e_ (0<=(0:Int)/\0<=k/\k<=(a.size:Int)) (U (a.extract 0 k.toNat)))else(d' (AY b (a,(a_ #[45,62,62]),(a_ #[45,62]),(a_ #[126,62]),(a_ #[60,61]),(a_ #[33,61]),(a_ #[40]),(a_ #[41]),(a_ #[123]),(a_ #[125]),(a_ #[91]),(a_ #[93]),(a_ #[44]),(a_ #[58]),(a_ #[59]),(a_ #[46]),(a_ #[61]),(a_ #[60]),(a_ #[42]),(a_ #[47]),(a_ #[124]),0)) λy=>iV y (λz=>U z) (λD=>U (a_ #[]))))))))))))
noncomputable def Ik(L:Lo):List hM:=iL 771 zZ kj .s [] (FC L)::Ij L
theorem S14:GY Ik:=λ{L} h=>
 (S13 h).p (F:=(V 102)) _ (.l (p:=⟨29,[],(ik [0,54,55] [.s,.ag [.s,.s,.s,.s,.s,.s,.s,.s,.s,.s,.s,.s,.s,.s,.s,.s,.s,.s,.s,.s],.j] []),[⟨.ret,(ik [2] [.s] [])⟩,⟨.exit 1,qn⟩],AY L⟩) (b:=jf (V 102) 29) .n (Qm L)) tV
def LU(f:Lo):(List ByteArray)×jR Int->Option (((List ByteArray)×jR Int)⊕ (Int⊕Unit)):=λe=>match e with
 | (b,c,d,a)=>bif(decide (a<d))then(e_ (0<=a/\a< (b.length:Int)) (bif(decide (c=(b.getD a.toNat (a_ #[]))))then(U (.inr (.inl a)))else(U (.inl (b,c,d,(g_ .i64 (a+1)))))))else(U (.inr (.inr ())))
def Qn(a:Lo):(List ByteArray)×jR Int->Option (Int⊕Unit):=a.run (LU a)
def zG(b:Lo)(a:List ByteArray)(c:ByteArray):Option Int:=
 d' (Qn b (a,c,(a.length:Int),0)) λd=>iV d (λe=>U e) (λf=>U (-1))
noncomputable def Il(L:Lo):List hM:=iL 173 zZ (ik [0,1] [.l ij,.s] []) .j [] (u2 (zG L):)::Ik L
theorem S15:GY Il:=λ{L} h=>
 (S14 h).p (F:=(V 56)) _ (.l (p:=⟨13,[],(ik [0,1,7,8] [.l ij,.s,.j,.j] []),[vz,nC],Qn L⟩) (b:=jf (V 56) 13) .n (LU L)) tV
def LV(a:Lo)(b:List ByteArray)(c:ByteArray):Option Bool:=
 d' (zG a b c) λd=>U (decide (0<=d))
noncomputable def Im(L:Lo):List hM:=iL 256 zZ (ik [0,1] [.l ij,.s] []) .b [] (u2 (LV L):)::Il L
theorem S16:GY Im:=λ{L} h=>
 (S15 h).p (F:=(V 19)) _ .n tV
def LW(d:Lo):jR Int->Option ((jR Int)⊕ (Bool⊕Unit)):=λe=>match e with
 | (b,c,a)=>bif(decide (a<c))then(e_ (0<=a/\a< (b.size:Int)) (d' (Dl d (ig b a)) λf=>bif(!f)then(e_ (0<=a/\a< (b.size:Int)) (d' (zF d (ig b a)) λg=>bif(!g)then(U (.inr (.inl zj)))else(U (.inl (b,c,(g_ .i64 (a+1)))))))else(U (.inl (b,c,(g_ .i64 (a+1)))))))else(U (.inr (.inr ())))
def Qo(a:Lo):jR Int->Option (Bool⊕Unit):=a.run (LW a)
def LX(b:Lo)(a:ByteArray):Option Bool:=
 bif(decide (a=(a_ #[])))then(U zj)else(bif(decide (24< (a.size:Int)))then(U zj)else(bif(decide (a=(a_ #[110,117,108,108])))then(U zj)else(e_ (0<=(0:Int)/\0< (a.size:Int)) (d' (Dl b (ig a 0)) λc=>bif(!c)then(U zj)else(d' (Qo b (a,(a.size:Int),0)) λd=>iV d (λe=>U e) (λf=>U zZ))))))
noncomputable def Dn(L:Lo):List hM:=iL 538 zZ kj .b [] (LX L)::Im L
theorem S17:GY Dn:=λ{L} h=>
 (S16 h).p (F:=(V 64)) _ (.l (p:=⟨29,[],(ik [0,22,23] [.s,.j,.j] []),[vA,nC],Qo L⟩) (b:=jf (V 64) 29) .n (LW L)) tV
def Qp(d:Lo)(a:ByteArray)(b c:Int):Option (Int×Bool):=C1 2 16 8 ql a b c
def YvQ(L:Lo):hM:=HH 175
noncomputable def Dp(L:Lo):List hM:=YvQ L::Dn L
theorem YvR{P:Program}{fm:FM}{L:Lo}(h:GZ P fm Dn L)(G: ∀f,fm f=175->kB P f=zZ/\vm P fm f .u64 2 16 8 ql):GZ P fm Dp L:=
 ⟨h.1,h.2,Yo5 h.S .u64 2 16 8 ql rfl G⟩
theorem S18:GY Dp:=λh=>YvR (S17 h) (H3)
def xB(e:Lo):jR (List Int)->Option ((jR (List Int))⊕ ((List Int))):=λf=>match f with
 | (a,b,c)=>bif(decide (b< (g_ .i64 ((a.size:Int)-1))))then(e_ (0<=b/\b< (a.size:Int)) (bif(decide ((ig a b)=92))then(bif(decide ((g_ .i64 (b+1))< (a.size:Int)))then(e_ (0<=(g_ .i64 (b+1))/\ (g_ .i64 (b+1))< (a.size:Int)) (bif(decide ((ig a (g_ .i64 (b+1)))=110))then(e_ (c.length+([10]).length<=c_) (U (.inl (a,(g_ .i64 ((g_ .i64 (b+1))+1)),(c++([10]))))))else(bif(decide ((ig a (g_ .i64 (b+1)))=120))then(e_ (0<=(min (g_ .i64 ((g_ .i64 (b+1))+1)) (a.size:Int))/\ (min (g_ .i64 ((g_ .i64 (b+1))+1)) (a.size:Int))<=(min (g_ .i64 ((g_ .i64 (b+1))+3)) (a.size:Int))/\ (min (g_ .i64 ((g_ .i64 (b+1))+3)) (a.size:Int))<=(a.size:Int)) (d' (Qp e (a.extract (min (g_ .i64 ((g_ .i64 (b+1))+1)) (a.size:Int)).toNat (min (g_ .i64 ((g_ .i64 (b+1))+3)) (a.size:Int)).toNat) 16 8) λd=>e_ (c.length+([(g_ .u8 d.1)]).length<=c_) (U (.inl (a,(g_ .i64 ((g_ .i64 ((g_ .i64 (b+1))+2))+1)),(c++([(g_ .u8 d.1)])))))))else(e_ (c.length+([(ig a (g_ .i64 (b+1)))]).length<=c_) (U (.inl (a,(g_ .i64 ((g_ .i64 (b+1))+1)),(c++([(ig a (g_ .i64 (b+1)))])))))))))else(e_ (c.length+([(ig a b)]).length<=c_) (U (.inl (a,(g_ .i64 (b+1)),(c++([(ig a b)])))))))else(e_ (c.length+([(ig a b)]).length<=c_) (U (.inl (a,(g_ .i64 (b+1)),(c++([(ig a b)]))))))))else(U (.inr c))
def FE(a:Lo):jR (List Int)->Option ((List Int)):=a.run (xB a)
def FF(a:Lo)(b:ByteArray):Option ByteArray:=
 d' (FE a (b,1,[])) λc=>U (nT c)
noncomputable def Dq(L:Lo):List hM:=iL 839 zZ kj .s [] (FF L)::Dp L
theorem S19:GY Dq:=λ{L} h=>
 (S18 h).p (F:=(V 267)) _ (.l (p:=⟨29,[(3,zz,zj)],(ik [0,3,4] [.s,.ref 0,.j] [.sq (cs [.i .u8])]),[⟨.exit 0,(ik [3] [.ref 0] [.sq (cs [.i .u8])])⟩],FE L⟩) (b:=jf (V 267) 29) .n (xB L)) tV
def LY(d:Lo)(a:ByteArray)(b c:Int):Option (Int×Bool):=YCC 64 vp a b c
def YvS(L:Lo):hM:=YCD 174
noncomputable def Dr(L:Lo):List hM:=YvS L::Dq L
theorem YvT{P:Program}{fm:FM}{L:Lo}(h:GZ P fm Dq L)(G: ∀f,fm f=174->kB P f=zZ/\zl P fm f .i64 64 vp):GZ P fm Dr L:=
 ⟨h.1,h.2,YvG h.S .i64 64 vp rfl G⟩
theorem S20:GY Dr:=λh=>YvT (S19 h) (H4)
def Yo9(b:Lo)(a:Int):Option kz:=
 U (1,a,(a_ #[]))
noncomputable def Io(L:Lo):List hM:=iL 840 zZ (ik [0] [.j] []) (nO) [] (Yo9 L)::Dr L
theorem S21:GY Io:=λ{L} h=>
 (S20 h).p (F:=(V 269)) _ .n tV
def FH(b:Lo)(a:ByteArray):Option kz:=
 bif(decide (a=(a_ #[110,117,108,108])))then(U (0,0,(a_ #[])))else(bif(decide (a=(a_ #[])))then(U (0,0,(a_ #[])))else(e_ (0<=(0:Int)/\0< (a.size:Int)) (bif(decide ((ig a 0)=34))then(d' (FF b a) λd=>U (2,0,d))else(bif(decide ((ig a 0)=63))then(e_ (0<=(1:Int)/\1<=(a.size:Int)/\ (a.size:Int)<=(a.size:Int)) (d' (LY b (a.extract 1 (a.size:Int).toNat) 10 64) λe=>U (3,e.1,(a_ #[]))))else(d' (LY b a 10 64) λf=>d' (Yo9 b f.1) λc=>U (c.1,c.2.1,c.2.2))))))
noncomputable def Ip(L:Lo):List hM:=iL 835 zZ kj (nO) [] (FH L)::Io L
theorem S22:GY Ip:=λ{L} h=>
 (S21 h).p (F:=(V 224)) _ .n tV
def ye(d:Lo)(a c:Int)(b:ByteArray):Option Bool:=
 bif(decide (a=0))then(bif(decide (c=0))then(U (decide (b=(a_ #[]))))else(U zj))else(bif(decide (a=1))then(U (decide (b=(a_ #[]))))else(bif(decide (a=2))then(bif(decide (c=0))then(U (decide ((b.size:Int)<=200)))else(U zj))else(bif(decide (a=3))then(bif(decide (1<=c))then(U (decide (b=(a_ #[]))))else(U zj))else(U zj))))
noncomputable def Ds(L:Lo):List hM:=iL 283 zZ (ik [0] [nO] []) .b [] (u3 (ye L):)::Ip L
theorem S23:GY Ds:=λ{L} h=>
 (S22 h).p (F:=(V 193)) _ .n tV
def LZ(c:Lo)(a b:Int):Option ByteArray:=LD a b
def YvU(L:Lo):hM:=uw 549
noncomputable def Dt(L:Lo):List hM:=YvU L::Ds L
theorem YvV{P:Program}{fm:FM}{L:Lo}(h:GZ P fm Ds L)(G: ∀f,fm f=549->kB P f=zZ/\ ∃ρ:Go.Shelf.Ren,Go.Proofs.LaysM.n173 P ρ/\ (∃q,(ρ.g 17,q)∈fm.tb/\ ∀c,q c->c=wu)/\ρ.f 173=f):GZ P fm Dt L:=
 ⟨h.1,h.2,Yvf h.S rfl G⟩
theorem S24:GY Dt:=λh=>YvV (S23 h) (H5)
def Qq(f:Lo):lP->Option (lP⊕ByteArray):=λe=>match e with
 | (b,d,a,c)=>bif(decide (a<d))then(e_ (0<=a/\a< (b.size:Int)) (bif(decide ((ig b a)=34))then(bif sT ([92,(ig b a)])then(e_ (c.size+([92,(ig b a)]).length<=c_) (U (.inl (b,d,(g_ .i64 (a+1)),(c++nT ([92,(ig b a)]))))))else zz)else(bif(decide ((ig b a)=92))then(bif sT ([92,(ig b a)])then(e_ (c.size+([92,(ig b a)]).length<=c_) (U (.inl (b,d,(g_ .i64 (a+1)),(c++nT ([92,(ig b a)]))))))else zz)else(bif(decide ((ig b a)=10))then(bif sT ([92,110])then(e_ (c.size+([92,110]).length<=c_) (U (.inl (b,d,(g_ .i64 (a+1)),(c++nT ([92,110]))))))else zz)else(bif(decide ((ig b a)<32))then(e_ (0<=4) (e_ (0<=((ig b a).fdiv (2^(min (4:Int).toNat (IntKind.bits .u8))))/\ ((ig b a).fdiv (2^(min (4:Int).toNat (IntKind.bits .u8))))< ((a_ #[48,49,50,51,52,53,54,55,56,57,97,98,99,100,101,102]).size:Int)) (e_ (0<=(bits .and .u8 (ig b a) 15)/\ (bits .and .u8 (ig b a) 15)< ((a_ #[48,49,50,51,52,53,54,55,56,57,97,98,99,100,101,102]).size:Int)) (bif sT ([92,120,(ig (a_ #[48,49,50,51,52,53,54,55,56,57,97,98,99,100,101,102]) ((ig b a).fdiv (2^(min (4:Int).toNat (IntKind.bits .u8))))),(ig (a_ #[48,49,50,51,52,53,54,55,56,57,97,98,99,100,101,102]) (bits .and .u8 (ig b a) 15))])then(e_ (c.size+([92,120,(ig (a_ #[48,49,50,51,52,53,54,55,56,57,97,98,99,100,101,102]) ((ig b a).fdiv (2^(min (4:Int).toNat (IntKind.bits .u8))))),(ig (a_ #[48,49,50,51,52,53,54,55,56,57,97,98,99,100,101,102]) (bits .and .u8 (ig b a) 15))]).length<=c_) (U (.inl (b,d,(g_ .i64 (a+1)),(c++nT ([92,120,(ig (a_ #[48,49,50,51,52,53,54,55,56,57,97,98,99,100,101,102]) ((ig b a).fdiv (2^(min (4:Int).toNat (IntKind.bits .u8))))),(ig (a_ #[48,49,50,51,52,53,54,55,56,57,97,98,99,100,101,102]) (bits .and .u8 (ig b a) 15))]))))))else zz))))else(bif(decide (126< (ig b a)))then(e_ (0<=4) (e_ (0<=((ig b a).fdiv (2^(min (4:Int).toNat (IntKind.bits .u8))))/\ ((ig b a).fdiv (2^(min (4:Int).toNat (IntKind.bits .u8))))< ((a_ #[48,49,50,51,52,53,54,55,56,57,97,98,99,100,101,102]).size:Int)) (e_ (0<=(bits .and .u8 (ig b a) 15)/\ (bits .and .u8 (ig b a) 15)< ((a_ #[48,49,50,51,52,53,54,55,56,57,97,98,99,100,101,102]).size:Int)) (bif sT ([92,120,(ig (a_ #[48,49,50,51,52,53,54,55,56,57,97,98,99,100,101,102]) ((ig b a).fdiv (2^(min (4:Int).toNat (IntKind.bits .u8))))),(ig (a_ #[48,49,50,51,52,53,54,55,56,57,97,98,99,100,101,102]) (bits .and .u8 (ig b a) 15))])then(e_ (c.size+([92,120,(ig (a_ #[48,49,50,51,52,53,54,55,56,57,97,98,99,100,101,102]) ((ig b a).fdiv (2^(min (4:Int).toNat (IntKind.bits .u8))))),(ig (a_ #[48,49,50,51,52,53,54,55,56,57,97,98,99,100,101,102]) (bits .and .u8 (ig b a) 15))]).length<=c_) (U (.inl (b,d,(g_ .i64 (a+1)),(c++nT ([92,120,(ig (a_ #[48,49,50,51,52,53,54,55,56,57,97,98,99,100,101,102]) ((ig b a).fdiv (2^(min (4:Int).toNat (IntKind.bits .u8))))),(ig (a_ #[48,49,50,51,52,53,54,55,56,57,97,98,99,100,101,102]) (bits .and .u8 (ig b a) 15))]))))))else zz))))else(bif sT ([(ig b a)])then(e_ (c.size+([(ig b a)]).length<=c_) (U (.inl (b,d,(g_ .i64 (a+1)),(c++nT ([(ig b a)]))))))else zz)))))))else(U (.inr c))
def Qr(a:Lo):lP->Option ByteArray:=a.run (Qq a)
def L3(c:Lo)(a:ByteArray):Option ByteArray:=
 bif sT [34]then(d' (Qr c (a,(a.size:Int),0,(nT [34]))) λb=>bif sT ([34])then(e_ (b.size+([34]).length<=c_) (U (b++nT ([34]))))else zz)else zz
noncomputable def Iq(L:Lo):List hM:=iL 550 zZ kj .s [] (L3 L)::Dt L
theorem S25:GY Iq:=λ{L} h=>
 (S24 h).p (F:=(V 209)) _ (.l (p:=⟨29,[],(ik [0,3,8,9] [.s,.ref 0,.j,.j] [.sb]),[⟨.exit 0,(ik [3] [.ref 0] [.sb])⟩],Qr L⟩) (b:=jf (V 209) 29) .n (Qq L)) tV
def Ir(a:Lo)(b c:Int)(d:ByteArray):Option (ByteArray×Int):=
 d' (ye a b c d) λf=>bif(!f)then(U ((a_ #[]),1))else(bif(decide (b=0))then(U ((a_ #[110,117,108,108]),0))else(bif(decide (b=1))then(d' (LZ a c 10) λg=>U (g,0))else(bif(decide (b=3))then(d' (LZ a c 10) λe=>e_ (iS ((a_ #[63]).size+e.size) 9223372036854775807=zZ) (U (((a_ #[63])++e),0)))else(d' (L3 a d) λh=>U (h,0)))))
noncomputable def Is(L:Lo):List hM:=iL 530 zZ (ik [0] [nO] []) (.tp [.s,.j]) [] (u3 (Ir L):)::Iq L
theorem S26:GY Is:=λ{L} h=>
 (S25 h).p (F:=(V 147)) _ .n tV
def Du(a:Lo)(b:ByteArray):Option (Int×Int×ByteArray×Int):=
 d' (FH a b) λ(d,e,f)=>d' (Ir a d e f) λc=>bif(!decide (c.2=0))then(U (0,0,(a_ #[]),2))else(bif(!decide (c.1=b))then(U (0,0,(a_ #[]),2))else(U (d,e,f,0)))
noncomputable def It(L:Lo):List hM:=iL 814 zZ kj (.tp [nO,.j]) [] (Du L)::Is L
theorem S27:GY It:=λ{L} h=>
 (S26 h).p (F:=(V 169)) _ .n tV
def L4(b:Lo)(a:ByteArray):Option (Int×kq (kq Bool)):=
 bif(decide (a=(a_ #[])))then(U (0,a,0,0,(a_ #[]),0,0,zj))else(d' (LV b ku a) λc=>bif c then(U (3,a,0,0,(a_ #[]),0,0,zZ))else(d' (LX b a) λd=>bif d then(U (1,a,0,0,(a_ #[]),0,0,zZ))else(d' (Du b a) λ(e,f,g,h)=>U (2,a,e,f,g,0,0,(decide (h=0))))))
noncomputable def Iu(L:Lo):List hM:=iL 770 zZ kj (.tp [zB,.b]) [] (L4 L)::It L
theorem S28:GY Iu:=λ{L} h=>
 (S27 h).p (F:=(V 101)) _ .n tV
noncomputable abbrev Qs:kT:=V 40 [(1015,[.j 0])]
def zH(h:Lo):kq (Int×ByteArray× (List iW))->Option ((lr (Int×Int))⊕ (kq (Int× (List iW)))):=λn=>match n with
 | (c,d,e,a,b,f)=>bif(decide ((g_ .i64 (a+(b.size:Int)))=(c.size:Int)))then(U (.inl (f,0,0,0)))else(e_ (0<=(g_ .i64 (a+(b.size:Int)))/\ (g_ .i64 (a+(b.size:Int)))<=(c.size:Int)/\ (c.size:Int)<=(c.size:Int)) (d' (FC h (c.extract (g_ .i64 (a+(b.size:Int))).toNat (c.size:Int).toNat)) λo=>d' (L4 h o) λ(i,g,j,k,m,_,_,p)=>bif(!p)then(U (.inl ([],d,(g_ .i64 ((g_ .i64 ((g_ .i64 (a+(b.size:Int)))-e))+1)),2)))else(e_ (f.length+([(i,g,j,k,m,d,(g_ .i64 ((g_ .i64 ((g_ .i64 (a+(b.size:Int)))-e))+1)))]).length<=c_) (U (.inr (c,d,e,(g_ .i64 ((g_ .i64 (a+(b.size:Int)))+(g.size:Int))),(f++([(i,g,j,k,m,d,(g_ .i64 ((g_ .i64 ((g_ .i64 (a+(b.size:Int)))-e))+1)))]))))))))
def L5(d:Lo):kq (Int× (List iW))->Option ((kq (Int× (List iW)))⊕ ((lr (Int×Int)))):=λj=>match j with
 | (b,e,i,a,f)=>e_ (0<=a/\a<=(b.size:Int)/\ (b.size:Int)<=(b.size:Int)) (d' (LN d (b.extract a.toNat (b.size:Int).toNat)) λc=>e_ (0<=a/\a<=(g_ .i64 (a+c))/\ (g_ .i64 (a+c))<=(b.size:Int)) (d' (Yo6 d (b.extract a.toNat (g_ .i64 (a+c)).toNat) (a_ #[10])) λg=>d' (LP d (b.extract a.toNat (g_ .i64 (a+c)).toNat) 10) λh=>bif(decide (0<=h))then(d' (zH d (b,(g_ .i64 (e+g)),(g_ .i64 ((g_ .i64 (a+h))+1)),a,(b.extract a.toNat (g_ .i64 (a+c)).toNat),f)) λk=>iV k (λ(n,o,p,q)=>U (.inr (n,o,p,q))) (λ(r,s,t,u,v)=>U (.inl (r,s,t,u,v))))else(d' (zH d (b,(g_ .i64 (e+g)),i,a,(b.extract a.toNat (g_ .i64 (a+c)).toNat),f)) λm=>iV m (λ(w,x,y,z)=>U (.inr (w,x,y,z))) (λ(a0,A,B,C,D)=>U (.inl (a0,A,B,C,D))))))
def AZ(a:Lo):kq (Int× (List iW))->Option ((lr (Int×Int))):=a.run (L5 a)
def L6(b:Lo)(a:ByteArray):Option (lr (Int×Int)):=
 bif(decide (65536< (a.size:Int)))then(U ([],0,0,3))else(d' (AZ b (a,1,0,0,[])) λ(c,d,e,f)=>U (c,d,e,f))
noncomputable def Iv(L:Lo):List hM:=iL 713 zZ kj (.tp [.l jY,.j,.j,.j]) [] (L6 L)::Iu L
theorem S29:GY Iv:=λ{L} h=>
 (S28 h).p (F:=Qs) _ (.l (p:=⟨63,[(6,zz,zj)],(ik [0,6,7,8,9] [.s,.ref 0,.j,.j,.j] [.sq jY]),[Dg],AZ L⟩) (b:=jf Qs 63) (.j (p:=⟨0,[],(ik [0,6,7,8,9,10] [.s,.ref 0,.j,.j,.j,.s] [.sq jY]),[Dg,⟨.kM,(ik [0,6,7,8,9] [.s,.ref 0,.j,.j,.j] [.sq jY])⟩],zH L⟩) (b:=jf Qs 0) .n) (L5 L)) tV
noncomputable abbrev Ypa:kT:=V 41 [(31444,[.f [6]])] (U [.o [(2,zz,zj)]])
def A0(h:Lo):(List iW)×lr (Int× (List (List iW))× (List iW))->Option (((List iW)×lr (Int× (List (List iW))× (List iW)))⊕ ((Int×Int× (List (List iW)))⊕ ((List (List iW))))):=λg=>match g with
 | (d,b,f,a,e,c)=>bif(decide (a<f))then(e_ (0<=a/\a< (b.length:Int)) (bif(decide ((b.getD a.toNat (0,(a_ #[]),0,0,(a_ #[]),0,0)).1=3))then(bif(decide ((b.getD a.toNat (0,(a_ #[]),0,0,(a_ #[]),0,0)).2.1=(a_ #[59])))then(e_ (e.length+[c].length<=c_) (U (.inl (d,b,f,(g_ .i64 (a+1)),(e++[c]),[]))))else(e_ (c.length+([(b.getD a.toNat (0,(a_ #[]),0,0,(a_ #[]),0,0))]).length<=c_) (bif(decide (a=(g_ .i64 ((d.length:Int)-1))))then(U (.inr (.inl ((b.getD a.toNat (0,(a_ #[]),0,0,(a_ #[]),0,0)).2.2.2.2.2.1,2,[]))))else(U (.inl (d,b,f,(g_ .i64 (a+1)),e,(c++([(b.getD a.toNat (0,(a_ #[]),0,0,(a_ #[]),0,0))]))))))))else(e_ (c.length+([(b.getD a.toNat (0,(a_ #[]),0,0,(a_ #[]),0,0))]).length<=c_) (bif(decide (a=(g_ .i64 ((d.length:Int)-1))))then(U (.inr (.inl ((b.getD a.toNat (0,(a_ #[]),0,0,(a_ #[]),0,0)).2.2.2.2.2.1,2,[]))))else(U (.inl (d,b,f,(g_ .i64 (a+1)),e,(c++([(b.getD a.toNat (0,(a_ #[]),0,0,(a_ #[]),0,0))])))))))))else(U (.inr (.inr e)))
def yf(a:Lo):(List iW)×lr (Int× (List (List iW))× (List iW))->Option ((Int×Int× (List (List iW)))⊕ ((List (List iW)))):=a.run (A0 a)
def FI(c:Lo)(a:List iW):Option (Int×Int× (List (List iW))):=
 d' (yf c (a,a,(a.length:Int),0,[],[])) λd=>iV d (λb=>U (b.1,b.2.1,b.2.2)) (λe=>U (0,0,e))
noncomputable def Dv(L:Lo):List hM:=iL 714 zj (ik [0] [.l jY] []) (.tp [.ref 0,.j,.j]) [.sq ot] (FI L)::Iv L
theorem S30:GY Dv:=λ{L} h=>
 (S29 h).i (F:=Ypa) _ (.l (p:=⟨61,[(5,zz,zj),(6,zz,zj)],(ik [0,5,6,9,10,11] [.l jY,.ref 0,.ref 1,.l jY,.j,.j] [.sq ot,.sq jY]),[⟨.ret,(ik [2,3,4] [.ref 0,.j,.j] [.sq ot])⟩,⟨.exit 0,(ik [5] [.ref 0] [.sq ot])⟩],yf L⟩) (b:=jf Ypa 61) .n (A0 L)) tV
def YvW(c:Lo)(a:List (List iW)):Option (List (List iW)):=U (a.filter λb=> !b.isEmpty)
def YvX(L:Lo):hM:=qM 715 716 jY
noncomputable def Dw(L:Lo):List hM:=YvX L::Dv L
theorem YvY{P:Program}{fm:FM}{L:Lo}(h:GZ P fm Dv L)(G: ∀f,fm f=715->kB P f=zZ/\ ∃ρ:Go.Shelf.Ren,Go.Proofs.SlLaysH.n10 P ρ/\ (∀w,(zeroValue (ρ.t 23)).run P w= .ok (.slice zz 0 0) w)/\ (∀f,fm f=716->CS P f)/\ρ.f 10=f):GZ P fm Dw L:=
 ⟨h.1,h.2,Yvv h.S 716 jY rfl G⟩
theorem S31:GY Dw:=λh=>YvY (S30 h) (H6)
def L7(a:Lo)(d:ByteArray):Option (vH Int):=
 d' (L6 a d) λ(f,g,_,b)=>bif(!decide (b=0))then(U ([],g,b))else(d' (FI a f) λ(h,c,i)=>bif(!decide (c=0))then(U ([],h,c))else(d' (YvW a i) λe=>U (e,0,0)))
noncomputable def Iw(L:Lo):List hM:=iL 673 zZ kj (.tp [.l ot,.j,.j]) [] (L7 L)::Dw L
theorem S32:GY Iw:=λ{L} h=>
 (S31 h).p (F:=(V 15)) _ .n tV
end Go.Abs.iA
namespace Go.Abs.iA
open Go Go.Abs Go.Proofs
set_option maxRecDepth 100000
set_option maxHeartbeats 4000000
set_option synthInstance.maxSize 100000
set_option synthInstance.maxHeartbeats 1000000
def Dx(e:Lo)(c:Int)(b:List iW)(a:Int)(d:Bool):Option (Int×kq (kq (lr Bool))):=
 bif(decide ((g_ .i64 (a+c))< (b.length:Int)))then(e_ (0<=(g_ .i64 (a+c))/\ (g_ .i64 (a+c))< (b.length:Int)) (U ((b.getD ((g_ .i64 (a+c)).toNat) (0,(a_ #[]),0,0,(a_ #[]),0,0)).1,(b.getD ((g_ .i64 (a+c)).toNat) (0,(a_ #[]),0,0,(a_ #[]),0,0)).2.1,(b.getD ((g_ .i64 (a+c)).toNat) (0,(a_ #[]),0,0,(a_ #[]),0,0)).2.2.1,(b.getD ((g_ .i64 (a+c)).toNat) (0,(a_ #[]),0,0,(a_ #[]),0,0)).2.2.2.1,(b.getD ((g_ .i64 (a+c)).toNat) (0,(a_ #[]),0,0,(a_ #[]),0,0)).2.2.2.2.1,(b.getD ((g_ .i64 (a+c)).toNat) (0,(a_ #[]),0,0,(a_ #[]),0,0)).2.2.2.2.2.1,(b.getD ((g_ .i64 (a+c)).toNat) (0,(a_ #[]),0,0,(a_ #[]),0,0)).2.2.2.2.2.2,b,a,d)))else(U (0,(a_ #[]),0,0,(a_ #[]),0,0,b,a,d))
noncomputable def Ix(L:Lo):List hM:=iL 818 zj (ik [0,1] [.ptr 0 0 0,.j] [iy]) (zB) [iy] (u4 (Dx L):)::Iw L
theorem S33:GY Ix:=λ{L} h=>
 (S32 h).i (F:=(V 174 [] (U []))) _ .n tV
def Dy(d:Lo)(e:Int)(f:List iW)(g:Int)(h:Bool):Option (Int×kq (kq (lr Bool))):=
 d' (Dx d 0 f g h) λ(c,i,j,k,m,n,o,a,b,p)=>bif(!decide (c=e))then(U (0,(a_ #[]),0,0,(a_ #[]),0,0,a,b,zZ))else(bif(decide ((a.length:Int)<=b))then(U (0,(a_ #[]),0,0,(a_ #[]),0,0,a,b,zZ))else(U (c,i,j,k,m,n,o,a,(g_ .i64 (b+1)),p)))
noncomputable def Iy(L:Lo):List hM:=iL 773 zj (ik [0,1] [.ptr 0 0 0,.j] [iy]) (zB) [iy] (u4 (Dy L):)::Ix L
theorem S34:GY Iy:=λ{L} h=>
 (S33 h).i (F:=(V 104 [] (U []))) _ .n tV
def mX(a:Lo)(b:List iW)(c:Int)(d:Bool):Option (qs Bool):=
 d' (Dy a 1 b c d) λ(_,e,_,_,_,_,_,f,g,h)=>U (e,f,g,h)
noncomputable def Iz(L:Lo):List hM:=iL 717 zj kP .s [iy] (u3 (mX L):)::Iy L
theorem S35:GY Iz:=λ{L} h=>
 (S34 h).i (F:=(V 44 [] (U []))) _ .n tV
def zI(d:Lo)(e:Int)(f:ByteArray)(g:List iW)(h:Int)(i:Bool):Option (Bool×lr Bool):=
 d' (Dx d e g h i) λ(j,k,_,_,_,_,_,a,b,c)=>bif(decide (j=3))then(U ((decide (k=f)),a,b,c))else(U (zj,a,b,c))
noncomputable def IA(L:Lo):List hM:=iL 779 zj (ik [0,1,2] [.ptr 0 0 0,.j,.s] [iy]) .b [iy] (u5 (zI L):)::Iz L
theorem S36:GY IA:=λ{L} h=>
 (S35 h).i (F:=(V 110 [] (U []))) _ .n tV
def A1(d:Lo)(e:ByteArray)(f:List iW)(g:Int)(h:Bool):Option (Bool×lr Bool):=
 d' (zI d 0 e f g h) λ(i,a,b,c)=>bif(!i)then(U (zj,a,b,c))else(U (zZ,a,(g_ .i64 (b+1)),c))
noncomputable def IB(L:Lo):List hM:=iL 775 zj vw .b [iy] (u4 (A1 L):)::IA L
theorem S37:GY IB:=λ{L} h=>
 (S36 h).i (F:=(V 106 [] (U []))) _ .n tV
def ov(c:Lo)(d:ByteArray)(e:List iW)(f:Int)(g:Bool):Option (lr Bool):=
 d' (A1 c d e f g) λ(h,a,b,i)=>bif(!h)then(U (a,b,zZ))else(U (a,b,i))
noncomputable def IC(L:Lo):List hM:=iL 719 zj vw (.tp []) [iy] (u4 (ov L):)::IB L
theorem S38:GY IC:=λ{L} h=>
 (S37 h).i (F:=(V 46 [] (U []))) _ .n tV
def Dz(a:Lo)(b:List iW)(c:Int)(d:Bool):Option (Bool×lr Bool):=
 d' (Dx a 0 b c d) λ(e,_,_,_,_,_,_,f,g,h)=>U ((decide (e=1)),f,g,h)
noncomputable def ID(L:Lo):List hM:=iL 819 zj kP .b [iy] (u3 (Dz L):)::IC L
theorem S39:GY ID:=λ{L} h=>
 (S38 h).i (F:=(V 175 [] (U []))) _ .n tV
def qN(d:Lo)(b:List iW)(c:Int)(a:Bool):Option (Bool×lr Bool):=
 bif(!a)then(d' (A1 d (a_ #[44]) b c a) λ(e,f,g,h)=>U (e,f,g,h))else(U (zj,b,c,a))
noncomputable def IE(L:Lo):List hM:=iL 777 zj kP .b [iy] (u3 (qN L):)::ID L
theorem S40:GY IE:=λ{L} h=>
 (S39 h).i (F:=(V 108 [] (U []))) _ .n tV
noncomputable abbrev Ypb:kT:=V 105 [] (U [.f [2]])
def FJ(b:Lo):kL (List ByteArray)->Option ((kL (List ByteArray))⊕ ((kL (List ByteArray)))):=λj=>match j with
 | (g,h,i,a)=>d' (qN b g h i) λ(k,c,d,e)=>bif k then(d' (mX b c d e) λ(f,m,n,o)=>e_ (a.length+[f].length<=c_) (U (.inl (m,n,o,(a++[f])))))else(U (.inr (c,d,e,a)))
def IF(a:Lo):kL (List ByteArray)->Option ((kL (List ByteArray))):=a.run (FJ a)
def tS(a:Lo)(e:List iW)(f:Int)(g:Bool):Option ((List ByteArray)×lr Bool):=
 d' (Dz a e f g) λ(h,b,c,d)=>bif(!h)then(U ([],b,c,d))else(d' (mX a b c d) λ(i,j,k,m)=>d' (IF a (j,k,m,[i])) λ(n,o,p,q)=>U (q,n,o,p))
noncomputable def IG(L:Lo):List hM:=iL 774 zj kP (.l ij) [iy] (u3 (tS L):)::IE L
theorem S41:GY IG:=λ{L} h=>
 (S40 h).i (F:=Ypb) _ (.l (p:=⟨30,[],sE,[⟨.exit 0,sE⟩],IF L⟩) (b:=jf Ypb 30) .n (FJ L)) tV
def DA(a:Lo)(d:List iW)(e:Int)(f:Bool):Option ((List ByteArray)×lr Bool):=
 d' (ov a (a_ #[40]) d e f) λb=>d' (tS a b.1 b.2.1 b.2.2) λ(g,h,i,j)=>d' (ov a (a_ #[41]) h i j) λc=>U (g,c.1,c.2.1,c.2.2)
noncomputable def IH(L:Lo):List hM:=iL 718 zj kP (.l ij) [iy] (u3 (DA L):)::IG L
theorem S42:GY IH:=λ{L} h=>
 (S41 h).i (F:=(V 45 [] (U [.f [2]]))) _ .n tV
def xC(a:Lo)(b:List iW)(c:Int)(d:Bool):Option (Int×Int×qs Bool):=
 d' (Dy a 2 b c d) λ(_,_,e,f,g,_,_,h,i,j)=>U (e,f,g,h,i,j)
noncomputable def II(L:Lo):List hM:=iL 776 zj kP (nO) [iy] (u3 (xC L):)::IH L
theorem S43:GY II:=λ{L} h=>
 (S42 h).i (F:=(V 107 [] (U []))) _ .n tV
def yg(d:Lo)(e:List iW)(f:Int)(g:Bool):Option (Int×lr Bool):=
 d' (xC d e f g) λ(h,a,_,b,c,i)=>bif(!decide (h=1))then(U (a,b,c,zZ))else(U (a,b,c,i))
noncomputable def IJ(L:Lo):List hM:=iL 720 zj kP .j [iy] (u3 (yg L):)::II L
theorem S44:GY IJ:=λ{L} h=>
 (S43 h).i (F:=(V 47 [] (U []))) _ .n tV
noncomputable abbrev Ypc:kT:=V 109 [] (U [.f [2]])
def FK(b:Lo):kL (List ByteArray)->Option ((kL (List ByteArray))⊕ ((kL (List ByteArray)))):=λj=>match j with
 | (g,h,i,a)=>d' (Dz b g h i) λ(k,c,d,e)=>bif k then(d' (mX b c d e) λ(f,m,n,o)=>e_ (a.length+[f].length<=c_) (U (.inl (m,n,o,(a++[f])))))else(U (.inr (c,d,e,a)))
def IK(a:Lo):kL (List ByteArray)->Option ((kL (List ByteArray))):=a.run (FK a)
def zJ(a:Lo)(b:List iW)(c:Int)(d:Bool):Option ((List ByteArray)×lr Bool):=
 d' (IK a (b,c,d,[])) λ(e,f,g,h)=>U (h,e,f,g)
noncomputable def IL(L:Lo):List hM:=iL 778 zj kP (.l ij) [iy] (u3 (zJ L):)::IJ L
theorem S45:GY IL:=λ{L} h=>
 (S44 h).i (F:=Ypc) _ (.l (p:=⟨14,[(3,zz,zj)],sE,[⟨.exit 0,sE⟩],IK L⟩) (b:=jf Ypc 14) .n (FK L)) tV
def wz(a:Lo)(f:List iW)(g:Int)(h:Bool):Option (ByteArray×Bool×Int×Int×qs Bool):=
 d' (mX a f g h) λ(b,i,j,k)=>d' (A1 a (a_ #[61]) i j k) λ(m,c,d,e)=>bif m then(d' (xC a c d e) λ(n,o,p,q,r,s)=>U (b,zj,n,o,p,q,r,s))else(U (b,zZ,0,0,(a_ #[]),c,d,e))
noncomputable def IM(L:Lo):List hM:=iL 780 zj kP (.ag [.s,.b,.j,.j,.s]) [iy] (u3 (wz L):)::IL L
theorem S46:GY IM:=λ{L} h=>
 (S45 h).i (F:=(V 111 [] (U []))) _ .n tV
def IN(b:Lo)(k:List iW)(m:Int)(n:Bool):Option (Int×kq (qs Bool)):=
 d' (xC b k m n) λ(e,a,f,g,h,i)=>bif(!decide (e=1))then(U (0,(a_ #[]),e,a,f,g,h,i))else(d' (A1 b (a_ #[46]) g h i) λ(o,c,d,j)=>bif(!o)then(U (0,(a_ #[]),e,a,f,c,d,j))else(bif(decide (a<1))then(d' (mX b c d zZ) λ(p,q,r,s)=>U (a,p,0,0,(a_ #[]),q,r,s))else(bif(decide (3<a))then(d' (mX b c d zZ) λ(t,u,v,w)=>U (a,t,0,0,(a_ #[]),u,v,w))else(d' (mX b c d j) λ(x,y,z,a0)=>U (a,x,0,0,(a_ #[]),y,z,a0)))))
noncomputable def IP(L:Lo):List hM:=iL 820 zj kP (.ag [.j,.s,.j,.j,.s]) [iy] (u3 (IN L):)::IM L
theorem S47:GY IP:=λ{L} h=>
 (S46 h).i (F:=(V 176 [] (U []))) _ .n tV
def zK(a:Lo)(p:List iW)(q:Int)(r:Bool):Option (Int×kq (kq (kq (qs Bool)))):=
 d' (IN a p q r) λ(c,d,e,f,g,s,t,u)=>d' (Dy a 3 s t u) λ(_,v,_,_,_,_,_,w,x,y)=>d' (zG a ([(a_ #[61]),(a_ #[33,61]),(a_ #[60]),(a_ #[60,61])]) v) λb=>d' (IN a w x y) λ(h,i,j,k,m,n,o,z)=>bif z then(U (c,d,e,f,g,(g_ .i64 (1+b)),h,i,j,k,m,n,o,zZ))else(U (c,d,e,f,g,(g_ .i64 (1+b)),h,i,j,k,m,n,o,(decide ((g_ .i64 (1+b))=0))))
noncomputable def IQ(L:Lo):List hM:=iL 781 zj kP (.ag [.j,.s,.j,.j,.s,.j,.j,.s,.j,.j,.s]) [iy] (u3 (zK L):)::IP L
theorem S48:GY IQ:=λ{L} h=>
 (S47 h).i (F:=(V 112 [] (U []))) _ .n tV
noncomputable abbrev Qt:kT:=V 113 [(243,[.j 0])] (U [.f [2]])
def IS(i:Lo):ou (List lP)->Option ((ou (List lP))⊕ (ou (List lP))):=λn=>match n with
 | (j,k,m,a,b,c,d)=>d' (qN i j k m) λ(o,f,g,h)=>bif(!o)then(U (.inl (f,g,h,a,b,c,d)))else(bif h then(U (.inr (f,g,zZ,a,b,c,d)))else(d' (zI i 0 (a_ #[41]) f g h) λe=>U (.inr (e.2.1,e.2.2.1,e.1,a,b,c,d))))
def L8(a:Lo):ou (List lP)->Option ((ou (List lP))⊕ ((ou (List lP)))):=λt=>match t with
 | (g,h,f,c,d,e,b)=>bif(!f)then(d' (zI a 0 (a_ #[41]) g h f) λ(w,i,j,k)=>bif(!w)then(d' (Dz a i j k) λ(x,m,n,o)=>bif x then(d' (mX a m n o) λ(p,y,z,a0)=>e_ (b.length+([(p,0,0,(a_ #[]))]).length<=c_) (d' (IS a (y,z,a0,c,d,e,(b++([(p,0,0,(a_ #[]))])))) λu=>iV u (λ(A,B,C,D,E,F,G)=>U (.inr (A,B,C,D,E,F,G))) (λ(H,I,J,K,L,M,N)=>U (.inl (H,I,J,K,L,M,N)))))else(d' (xC a m n o) λ(q,r,s,O,P,Q)=>e_ (b.length+([((a_ #[]),q,r,s)]).length<=c_) (d' (IS a (O,P,Q,c,d,e,(b++([((a_ #[]),q,r,s)])))) λv=>iV v (λ(R,S,c0,T,c2,V,W)=>U (.inr (R,S,c0,T,c2,V,W))) (λ(X,Y,Z,c8,c9,d0,d1)=>U (.inl (X,Y,Z,c8,c9,d0,d1))))))else(U (.inr (i,j,k,c,d,e,b))))else(U (.inr (g,h,f,c,d,e,b)))
def A2(a:Lo):ou (List lP)->Option ((ou (List lP))):=a.run (L8 a)
def zL(a:Lo)(d:List iW)(e:Int)(f:Bool):Option (ByteArray× (List lP)×lr Bool):=
 d' (mX a d e f) λ(g,h,i,j)=>d' (ov a (a_ #[40]) h i j) λb=>d' (A2 a (b.1,b.2.1,b.2.2,(a_ #[]),g,[],[])) λ(k,m,n,_,o,_,p)=>d' (ov a (a_ #[41]) k m n) λc=>U (o,p,c.1,c.2.1,c.2.2)
noncomputable def IT(L:Lo):List hM:=iL 782 zj kP (.ag [.s,.l (cs [.s,I,I,.s])]) [iy] (u3 (zL L):)::IQ L
theorem S49:GY IT:=λ{L} h=>
 (S48 h).i (F:=Qt) _ (.l (p:=⟨30,[(2,U 1,zj),(3,U 1,zj)],tQ,[⟨.exit 0,tQ⟩],A2 L⟩) (b:=jf Qt 30) (.j (p:=⟨0,[(2,U 1,zj),(3,U 1,zj)],tQ,[⟨.exit 0,tQ⟩,⟨.kM,tQ⟩],IS L⟩) (b:=jf Qt 0) .n) (L8 L)) tV
def IU(c:Lo)(d:ByteArray)(e:List iW)(f:Int)(g:Bool):Option (lr Bool):=
 d' (mX c e f g) λ(h,a,b,i)=>bif(!decide (h=d))then(U (a,b,zZ))else(U (a,b,i))
noncomputable def IV(L:Lo):List hM:=iL 821 zj vw (.tp []) [iy] (u4 (IU L):)::IT L
theorem S50:GY IV:=λ{L} h=>
 (S49 h).i (F:=(V 177 [] (U []))) _ .n tV
noncomputable abbrev Ypd:kT:=V 178 [(7,[.j 0])] (U [])
def IW(g:Lo):kL (Int×kq (ByteArray×Int))->Option ((kL (Int×ByteArray×Int))):=λh=>match h with
 | (b,c,e,_,_,_,a,d,f)=>bif(decide (a<1))then(U (b,c,zZ,a,d,f))else(bif(!decide (a=1))then(d' (yg g b c e) λ(i,j,k,m)=>U (j,k,m,a,d,i))else(U (b,c,e,a,d,f)))
def IX(a:Lo)(b:List iW)(c:Int)(d:Bool):Option (Int×jR (lr Bool)):=
 xU (d' (mX a b c d) λ(h,i,j,k)=>d' (zG a HY h) λe=>d' (mX a i j k) λ(m,n,o,p)=>d' (IW a (n,o,p,0,(a_ #[]),0,e,m,0)) λ(q,r,s,t,u,v)=>U (t,u,v,q,r,s)) (xU (d' (mX a b c d) λ(w,x,y,z)=>d' (zG a HY w) λf=>d' (mX a x y z) λ(a0,A,B,C)=>d' (IW a (A,B,C,0,(a_ #[]),0,f,a0,0)) λ(D,E,F,G,H,I)=>U (G,H,I,D,E,F)) (d' (mX a b c d) λ(J,K,L,M)=>d' (zG a HY J) λg=>d' (mX a K L M) λ(N,O,P,Q)=>d' (IW a (O,P,Q,0,(a_ #[]),0,g,N,0)) λ(R,S,c0,T,c2,V)=>U (T,c2,V,R,S,c0)))
noncomputable def IY(L:Lo):List hM:=iL 822 zj kP (.ag [.j,.s,.j]) [iy] (u3 (IX L):)::IV L
theorem S51:GY IY:=λ{L} h=>
 (S50 h).i (F:=Ypd) _ (.j (p:=⟨0,[],(ik [0,2,3] [.ptr 0 0 0,.ptr 1 0 0,.ptr 2 0 0] [iy,.st [.j,.s,.j],.st [.j,.s,.j]]),[⟨.ret,(ik [2,0] [.ptr 1 0 0,.ptr 0 0 0] [iy,.st [.j,.s,.j]])⟩],IW L⟩) (b:=jf Ypd 0) .n) tV
noncomputable abbrev L9:kT:=V 114 [(1950,[.f [4]])] (U [.o [(1,U 13,zj),(1,U 14,zj),(1,U 7,zj),(1,U 8,zj),(1,U 10,zj),(1,U 12,zj)]])
def L_(b:Lo):qp ((List lq)× (List (List lq)))->Option ((qp ((List lq)× (List (List lq))))⊕ ((qp ((List lq)× (List (List lq)))))):=λA=>match A with
 | (y,z,a0,c,d,e,f,g,h,i,j,k,m,n,o,p,q,a,r)=>d' (qN b y z a0) λ(B,s,t,u)=>bif B then(d' (IX b s t u) λ(v,w,x,C,D,E)=>e_ (a.length+([(v,w,x)]).length<=c_) (U (.inl (C,D,E,c,d,e,f,g,h,i,j,k,m,n,o,p,q,(a++([(v,w,x)])),r))))else(U (.inr (s,t,u,c,d,e,f,g,h,i,j,k,m,n,o,p,q,a,r)))
def Ma(a:Lo):qp ((List lq)× (List (List lq)))->Option ((qp ((List lq)× (List (List lq))))):=a.run (L_ a)
def Mb(a:Lo):qp ((List (List lq)))->Option ((qp ((List (List lq))))⊕ ((qp ((List (List lq)))))):=λC=>match C with
 | (t,u,r,b,c,d,e,f,g,h,i,j,k,m,n,o,p,q)=>bif(!r)then(d' (Dx a 0 t u r) λ(_,D,_,_,_,_,_,v,w,x)=>bif(decide (D=(a_ #[109,97,116,99,104])))then(d' (Dz a v w x) λ(E,y,z,a0)=>bif E then(d' (IX a y (g_ .i64 (z+1)) a0) λ(F,G,H,I,J,K)=>d' (Ma a (I,J,K,b,c,d,e,f,g,h,i,j,k,m,n,o,p,[(F,G,H)],q)) λ(L,M,N,O,P,Q,R,S,c0,T,c2,V,W,X,Y,Z,c8,A,B)=>e_ (B.length+[A].length<=c_) (d' (ov a (a_ #[124]) L M N) λs=>U (.inl (s.1,s.2.1,s.2.2,O,P,Q,R,S,c0,T,c2,V,W,X,Y,Z,c8,(B++[A])))))else(U (.inr (y,z,a0,b,c,d,e,f,g,h,i,j,k,m,n,o,p,q))))else(U (.inr (v,w,x,b,c,d,e,f,g,h,i,j,k,m,n,o,p,q))))else(U (.inr (t,u,r,b,c,d,e,f,g,h,i,j,k,m,n,o,p,q)))
def Mc(a:Lo):qp ((List (List lq)))->Option ((qp ((List (List lq))))):=a.run (Mb a)
def Md(x:Lo):pG (Int×jF (List Int))->Option ((pG (Int×jF (List Int)))⊕ ((jF (List Int)))):=λy=>match y with
 | (d,e,a,f,g,w,h,i,j,k,m,n,o,p,q,r,s,t,u,v,b)=>bif(decide (a<e))then(e_ (0<=a/\a< (d.length:Int)) (d' (zG x Qc (d.getD a.toNat (a_ #[]))) λc=>bif w then(e_ (b.length+[c].length<=c_) (U (.inl (d,e,(g_ .i64 (a+1)),f,g,zZ,h,i,j,k,m,n,o,p,q,r,s,t,u,v,(b++[c])))))else(e_ (b.length+[c].length<=c_) (U (.inl (d,e,(g_ .i64 (a+1)),f,g,(decide (c<1)),h,i,j,k,m,n,o,p,q,r,s,t,u,v,(b++[c])))))))else(U (.inr (f,g,w,h,i,j,k,m,n,o,p,q,r,s,t,u,v,b)))
def Me(a:Lo):pG (Int×jF (List Int))->Option ((jF (List Int))):=a.run (Md a)
def FL(a:Lo)(f:List iW)(g:Int)(h:Bool)(i j:ByteArray)(k m:ByteArray)(e0 n:List ByteArray)(o p:Int)(q:List ByteArray)(r:List kz)(s:List AX)(t:List AW)(u:List vq)(v:List (List lq))(w:List Int):Option (jF (List Int)):=
 d' (IU a (a_ #[98,108,111,99,107]) f g h) λb=>d' (tS a b.1 b.2.1 b.2.2) λ(x,y,z,a0)=>d' (ov a (a_ #[124]) y z a0) λc=>d' (Mc a (c.1,c.2.1,c.2.2,i,j,k,m,x,n,o,p,q,r,s,t,u,w,v)) λ(A,B,C,D,E,F,G,H,I,J,K,L,M,N,O,P,Q,R)=>d' (IU a (a_ #[115,117,114,118,105,118,101]) A B C) λd=>d' (tS a d.1 d.2.1 d.2.2) λ(e,S,c0,T)=>d' (Me a (e,(e.length:Int),0,S,c0,T,D,E,F,G,H,I,J,K,L,M,N,O,P,R,Q)) λ(c2,V,W,X,Y,Z,c8,c9,d0,d1,d2,d3,d4,d5,d6,d7,d8,d9)=>U (c2,V,W,X,Y,Z,c8,c9,d0,d1,d2,d3,d4,d5,d6,d7,d8,d9)
noncomputable def IZ(L:Lo):List hM:=iL 783 zj zw (.tp []) [iy,Df,.sq iH,.sq lN,.sq lO,.sq jj,.dd,.dd,.sq l8,.sq (cs [I])] (λ(y,z,A,B,C,D,E,F,G,H,X,d,g,h,k,p,q,w)=>FL L y z A B C D E F G H X d g h k p q w:jF (List Int)->Option (jF (List Int)))::IY L
theorem S52:GY IZ:=λ{L} h=>
 (S51 h).i (F:=L9) _ (.l (p:=⟨127,[(1000007,zz,zZ),(1,U 7,zj),(1,U 8,zj),(1,U 10,zj),(1,U 12,zj),(1,U 13,zj),(1,U 14,zj)],(ik [0,1,64,65,66] [.ptr 0 0 0,.ptr 1 0 0,.l ij,.j,.j] [iy,Df,.sq iH,.sq lN,.sq lO,.sq jj,.dd,.dd,.sq l8,.sq (cs [I])]),[⟨.exit 4,(ik [0,1] [.ptr 0 0 0,.ptr 1 0 0] [iy,Df,.sq iH,.sq lN,.sq lO,.sq jj,.dd,.dd,.sq l8,.sq (cs [I])])⟩],Me L⟩) (b:=jf L9 127) (.l (p:=⟨30,[(1000006,zz,zZ),(1,U 7,zj),(1,U 8,zj),(1,U 10,zj),(1,U 12,zj),(1,U 13,zj),(1,U 14,zj)],HO,[⟨.exit 0,HO⟩],Mc L⟩) (b:=jf L9 30) (.l (p:=⟨974,[(1,U 7,zj),(1,U 8,zj),(1,U 10,zj),(1,U 12,zj),(1,U 13,zj),(1,U 14,zj)],HM,[⟨.exit 2,HM⟩],Ma L⟩) (b:=jf L9 974) .n (L_ L)) (Mb L)) (Md L)) tV
noncomputable abbrev DB:kT:=V 48 [(127,[.j 0]),(2045,[.j 1])] (U [.f [1],.o [(1000002,zz,zZ),(1000003,zz,zZ),(1000004,zz,zZ),(1000005,zz,zZ),(1000006,zz,zZ),(1000007,zz,zZ),(1,U 13,zj),(1,U 14,zj),(1,U 7,zj),(1,U 8,zj),(1,U 10,zj),(1,U 12,zj)]])
def FN(y:Lo):sI (List kz)->Option ((sI (List kz))⊕ ((sI (List kz)))):=λa0=>match a0 with
 | (q,r,s,b,c,d,e,f,g,h,i,j,k,m,n,o,p,a)=>bif(decide (r< (q.length:Int)))then(bif(!s)then(d' (xC y q r s) λ(t,u,v,A,B,C)=>e_ (a.length+([(t,u,v)]).length<=c_) (d' (qN y A B C) λ(D,w,x,z)=>bif(!D)then(U (.inr (w,x,z,b,c,d,e,f,g,h,i,j,k,m,n,o,p,(a++([(t,u,v)])))))else(bif z then(U (.inl (w,x,zZ,b,c,d,e,f,g,h,i,j,k,m,n,o,p,(a++([(t,u,v)])))))else(U (.inl (w,x,(decide (x=(w.length:Int))),b,c,d,e,f,g,h,i,j,k,m,n,o,p,(a++([(t,u,v)]))))))))else(U (.inr (q,r,s,b,c,d,e,f,g,h,i,j,k,m,n,o,p,a))))else(U (.inr (q,r,s,b,c,d,e,f,g,h,i,j,k,m,n,o,p,a)))
def zM(a:Lo):sI (List kz)->Option ((sI (List kz))):=a.run (FN a)
def Ype(b:Lo):jF (List Int)->Option ((jF (List Int))⊕ ((jF (List Int)))):=λA=>match A with
 | (z,a0,B,c,d,e,f,g,h,i,j,k,m,a,n,o,p,q)=>d' (qN b z a0 B) λ(C,r,s,t)=>bif C then(d' (wz b r s t) λ(u,v,w,x,y,D,E,F)=>e_ (a.length+([(u,v,w,x,y)]).length<=c_) (U (.inl (D,E,F,c,d,e,f,g,h,i,j,k,m,(a++([(u,v,w,x,y)])),n,o,p,q))))else(U (.inr (r,s,t,c,d,e,f,g,h,i,j,k,m,a,n,o,p,q)))
def Ypf(a:Lo):jF (List Int)->Option ((jF (List Int))):=a.run (Ype a)
def Qu(b:Lo):jF (List Int)->Option ((jF (List Int))):=λa0=>match a0 with
 | (i,j,k,m,n,o,p,q,r,s,t,u,v,c,w,x,y,z)=>d' (ov b (a_ #[45,62]) i j k) λa=>d' (wz b a.1 a.2.1 a.2.2) λ(d,e,f,g,h,A,B,C)=>e_ (c.length+([(d,e,f,g,h)]).length<=c_) (U (A,B,C,m,n,o,p,q,r,s,t,u,v,(c++([(d,e,f,g,h)])),w,x,y,z))
end Go.Abs.iA
namespace Go.Abs.iA
open Go Go.Abs Go.Proofs
set_option maxRecDepth 100000
set_option maxHeartbeats 4000000
set_option synthInstance.maxSize 100000
set_option synthInstance.maxHeartbeats 1000000
def Ypg(b:Lo):jF (List Int)->Option ((jF (List Int))⊕ ((jF (List Int)))):=λE=>match E with
 | (F,G,H,c,d,e,f,g,h,i,j,k,m,n,a,o,p,q)=>d' (qN b F G H) λ(I,r,s,t)=>bif I then(d' (zK b r s t) λ(u,v,w,x,y,z,a0,A,B,C,D,J,K,L)=>e_ (a.length+([(u,v,w,x,y,z,a0,A,B,C,D)]).length<=c_) (U (.inl (J,K,L,c,d,e,f,g,h,i,j,k,m,n,(a++([(u,v,w,x,y,z,a0,A,B,C,D)])),o,p,q))))else(U (.inr (r,s,t,c,d,e,f,g,h,i,j,k,m,n,a,o,p,q)))
def Yph(a:Lo):jF (List Int)->Option ((jF (List Int))):=a.run (Ypg a)
def Ypi(b:Lo):jF (List Int)->Option ((jF (List Int))⊕ ((jF (List Int)))):=λz=>match z with
 | (w,x,y,c,d,e,f,g,h,i,j,k,m,n,o,a,p,q)=>d' (qN b w x y) λ(a0,r,s,t)=>bif a0 then(d' (zL b r s t) λ(u,v,A,B,C)=>e_ (a.length+([(u,v)]).length<=c_) (U (.inl (A,B,C,c,d,e,f,g,h,i,j,k,m,n,o,(a++([(u,v)])),p,q))))else(U (.inr (r,s,t,c,d,e,f,g,h,i,j,k,m,n,o,a,p,q)))
def Ypj(a:Lo):jF (List Int)->Option ((jF (List Int))):=a.run (Ypi a)
def Qv(a:Lo):ByteArray×Bool×jF (List Int)->Option ((jF (List Int))):=λV=>match V with
 | (u,c2,g,h,r,e,i,j,k,s,t,m,n,o,f,b,c,d,p,q)=>bif c2 then(d' (zJ a g h r) λ(W,X,Y,Z)=>d' (ov a (B9 sX e (oc sX (tq sX 0 (a_ #[102,100]) ([]:List vy)) (a_ #[109,118,100]) (a_ #[45,62,62]) (oc sX 0 (a_ #[102,100]) (a_ #[45,62]) ([]:List vy))) (a_ #[])) X Y Z) λv=>d' (zJ a v.1 v.2.1 v.2.2) λ(c8,c9,d0,d1)=>U (c9,d0,d1,e,i,j,k,W,c8,m,n,o,f,b,c,d,p,q))else(bif(decide (u=(a_ #[99,102,100])))then(d' (zI a 0 (a_ #[45,62]) g h r) λ(d2,x,y,z)=>bif(!d2)then(d' (wz a x y z) λ(a0,A,B,C,D,d3,d4,d5)=>e_ (b.length+([(a0,A,B,C,D)]).length<=c_) (d' (Ypf a (d3,d4,d5,e,i,j,k,s,t,m,n,o,f,(b++([(a0,A,B,C,D)])),c,d,p,q)) λ(d6,d7,d8,d9,e0,e1,e2,e3,e4,e5,e6,e7,e8,e9,f0,f1,f2,f3)=>d' (Qu a (d6,d7,d8,d9,e0,e1,e2,e3,e4,e5,e6,e7,e8,e9,f0,f1,f2,f3)) λ(f4,f5,f6,f7,f8,f9,g0,g1,g2,g3,g4,g5,g6,g7,g8,g9,h0,h1)=>U (f4,f5,f6,f7,f8,f9,g0,g1,g2,g3,g4,g5,g6,g7,g8,g9,h0,h1)))else(d' (Qu a (x,y,z,e,i,j,k,s,t,m,n,o,f,b,c,d,p,q)) λ(h2,h3,h4,h5,h6,h7,h8,h9,i0,i1,i2,i3,i4,i5,i6,i7,i8,i9)=>U (h2,h3,h4,h5,h6,h7,h8,h9,i0,i1,i2,i3,i4,i5,i6,i7,i8,i9)))else(bif(decide (u=(a_ #[111,100])))then(d' (tS a g h r) λ(j0,j1,j2,j3)=>d' (ov a (a_ #[126,62]) j1 j2 j3) λw=>d' (tS a w.1 w.2.1 w.2.2) λ(j4,j5,j6,j7)=>U (j5,j6,j7,e,i,j,k,j0,j4,m,n,o,f,b,c,d,p,q))else(bif(decide (u=(a_ #[100,101,110,121])))then(bif(decide (h< (g.length:Int)))then(d' (zK a g h r) λ(E,F,G,H,I,J,K,L,M,N,O,j8,j9,k0)=>e_ (c.length+([(E,F,G,H,I,J,K,L,M,N,O)]).length<=c_) (d' (Yph a (j8,j9,k0,e,i,j,k,s,t,m,n,o,f,b,(c++([(E,F,G,H,I,J,K,L,M,N,O)])),d,p,q)) λ(k1,k2,k3,k4,k5,k6,k7,k8,k9,m0,m1,m2,m3,m4,m5,m6,m7,m8)=>U (k1,k2,k3,k4,k5,k6,k7,k8,k9,m0,m1,m2,m3,m4,m5,m6,m7,m8)))else(U (g,h,r,e,i,j,k,s,t,m,n,o,f,b,c,d,p,q)))else(bif(decide (u=(a_ #[113,117,101,114,121])))then(d' (zL a g h r) λ(P,Q,m9,n0,n1)=>e_ (d.length+([(P,Q)]).length<=c_) (d' (Ypj a (m9,n0,n1,e,i,j,k,s,t,m,n,o,f,b,c,(d++([(P,Q)])),p,q)) λ(n2,n3,n4,n5,n6,n7,n8,n9,o0,o1,o2,o3,o4,o5,o6,o7,o8,o9)=>U (n2,n3,n4,n5,n6,n7,n8,n9,o0,o1,o2,o3,o4,o5,o6,o7,o8,o9)))else(bif(decide (u=(a_ #[108,105,110,107])))then(d' (FL a g h r e i j k s t m n o f b c d p q) λ(p0,p1,p2,p3,p4,p5,p6,p7,p8,p9,q0,q1,R,S,c0,T,q2,q3)=>e_ (R.length=f.length) (e_ (S.length=b.length) (e_ (c0.length=c.length) (e_ (T.length=d.length) (U (p0,p1,p2,p3,p4,p5,p6,p7,p8,p9,q0,q1,R,S,c0,T,q2,q3))))))else(U (g,h,r,e,i,j,k,s,t,m,n,o,f,b,c,d,p,q)))))))
def zN(b:Lo)(c:List iW)(d:Int)(e:Bool)(a f:ByteArray)(g h:ByteArray)(i j:List ByteArray)(k m:Int)(n:List ByteArray)(o:List kz)(p:List AX)(q:List AW)(r:List vq)(s:List (List lq))(t:List Int):Option (sI (List kz)):=
 bif(decide (a=(a_ #[114,111,119])))then(d' (zM b (c,d,e,a,f,g,h,i,j,k,m,n,p,q,r,s,t,o)) λ(u,v,w,x,y,z,a0,A,B,C,D,E,F,G,H,I,J,K)=>U (u,v,w,x,y,z,a0,A,B,C,D,E,F,G,H,I,J,K))else(bif(decide (a=(a_ #[107,101,121])))then(d' (tS b c d e) λL=>zz)else(bif(decide (a=(a_ #[102,100])))then(d' (Qv b (a,zZ,c,d,e,a,f,g,h,i,j,k,m,n,o,p,q,r,s,t)) λM=>zz)else(d' (Qv b (a,(decide (a=(a_ #[109,118,100]))),c,d,e,a,f,g,h,i,j,k,m,n,o,p,q,r,s,t)) λN=>zz)))
noncomputable def I0(L:Lo):List hM:=iL 721 zj zw (.tp []) [iy,.st [.s,.s,.s,.s,.l ij,.l ij,.j,.ref 8,.ref 3,.j,.ref 4,.l ij,.ref 5,.ref 6,.ref 7],.dd,.sq lN,.sq lO,.sq jj,.sq l8,.sq (cs [I]),.sq iH] (λ(y,z,A,B,C,D,E,F,G,H,X,d,g,h,k,p,q,w)=>zN L y z A B C D E F G H X d g h k p q w:jF (List Int)->Option (sI (List kz)))::IZ L
theorem S53:GY I0:=λ{L} h=>
 (S52 h).i (F:=DB) _ (.j (p:=⟨0,[(1000003,zz,zZ),(1000004,zz,zZ),(1000005,zz,zZ),(1000006,zz,zZ),(1000007,zz,zZ),(1,U 7,zj),(1,U 8,zj),(1,U 10,zj),(1,U 12,zj),(1,U 13,zj),(1,U 14,zj)],C4,[⟨.kM,oq⟩],Qv L⟩) (b:=jf DB 0) (.l (p:=⟨131069,[(1,U 7,zj),(1,U 8,zj),(1,U 10,zj),(1,U 12,zj),(1,U 13,zj),(1,U 14,zj)],oq,[⟨.exit 7,oq⟩],Ypj L⟩) (b:=jf DB 131069) (.l (p:=⟨131061,[(1,U 7,zj),(1,U 8,zj),(1,U 10,zj),(1,U 12,zj),(1,U 13,zj),(1,U 14,zj)],oq,[⟨.exit 5,oq⟩],Yph L⟩) (b:=jf DB 131061) (.j (p:=⟨1,[(1,U 7,zj),(1,U 8,zj),(1,U 10,zj),(1,U 12,zj),(1,U 13,zj),(1,U 14,zj)],oq,[⟨.kM,oq⟩],Qu L⟩) (b:=jf DB 1) (.l (p:=⟨16357,[(1,U 7,zj),(1,U 8,zj),(1,U 10,zj),(1,U 12,zj),(1,U 13,zj),(1,U 14,zj)],oq,[⟨.exit 3,oq⟩],Ypf L⟩) (b:=jf DB 16357) (.l (p:=⟨14,[(1000002,zz,zZ),(1,U 7,zj),(1,U 8,zj),(1,U 10,zj),(1,U 12,zj),(1,U 13,zj),(1,U 14,zj)],vt,[⟨.exit 1,vt⟩],zM L⟩) (b:=jf DB 14) .n (FN L)) (Ype L))) (Ypg L)) (Ypi L))) tV
noncomputable abbrev DC:kT:=V 48 [(127,[.j 0]),(2045,[.j 1])] (U [.f [1],.o [(1000003,zz,zZ),(1000004,zz,zZ),(1000005,zz,zZ),(1000006,zz,zZ),(1000007,zz,zZ),(1,U 13,zj),(1,U 14,zj),(1,U 7,zj),(1,U 8,zj),(1,U 10,zj),(1,U 12,zj)]])
def Ypk(y:Lo):sI (List kz)->Option ((sI (List kz))⊕ ((sI (List kz)))):=λa0=>match a0 with
 | (q,r,s,b,c,d,e,f,g,h,i,j,k,m,n,o,p,a)=>bif(decide (r< (q.length:Int)))then(bif(!s)then(d' (xC y q r s) λ(t,u,v,A,B,C)=>e_ (a.length+([(t,u,v)]).length<=c_) (d' (qN y A B C) λ(D,w,x,z)=>bif(!D)then(U (.inr (w,x,z,b,c,d,e,f,g,h,i,j,k,m,n,o,p,(a++([(t,u,v)])))))else(bif z then(U (.inl (w,x,zZ,b,c,d,e,f,g,h,i,j,k,m,n,o,p,(a++([(t,u,v)])))))else(U (.inl (w,x,(decide (x=(w.length:Int))),b,c,d,e,f,g,h,i,j,k,m,n,o,p,(a++([(t,u,v)]))))))))else(U (.inr (q,r,s,b,c,d,e,f,g,h,i,j,k,m,n,o,p,a))))else(U (.inr (q,r,s,b,c,d,e,f,g,h,i,j,k,m,n,o,p,a)))
def Ypl(a:Lo):sI (List kz)->Option ((sI (List kz))):=a.run (Ypk a)
def Ypm(b:Lo):jF (List Int)->Option ((jF (List Int))⊕ ((jF (List Int)))):=λA=>match A with
 | (z,a0,B,c,d,e,f,g,h,i,j,k,m,a,n,o,p,q)=>d' (qN b z a0 B) λ(C,r,s,t)=>bif C then(d' (wz b r s t) λ(u,v,w,x,y,D,E,F)=>e_ (a.length+([(u,v,w,x,y)]).length<=c_) (U (.inl (D,E,F,c,d,e,f,g,h,i,j,k,m,(a++([(u,v,w,x,y)])),n,o,p,q))))else(U (.inr (r,s,t,c,d,e,f,g,h,i,j,k,m,a,n,o,p,q)))
def Ypn(a:Lo):jF (List Int)->Option ((jF (List Int))):=a.run (Ypm a)
def Qw(b:Lo):jF (List Int)->Option ((jF (List Int))):=λa0=>match a0 with
 | (i,j,k,m,n,o,p,q,r,s,t,u,v,c,w,x,y,z)=>d' (ov b (a_ #[45,62]) i j k) λa=>d' (wz b a.1 a.2.1 a.2.2) λ(d,e,f,g,h,A,B,C)=>e_ (c.length+([(d,e,f,g,h)]).length<=c_) (U (A,B,C,m,n,o,p,q,r,s,t,u,v,(c++([(d,e,f,g,h)])),w,x,y,z))
def Ypo(b:Lo):jF (List Int)->Option ((jF (List Int))⊕ ((jF (List Int)))):=λE=>match E with
 | (F,G,H,c,d,e,f,g,h,i,j,k,m,n,a,o,p,q)=>d' (qN b F G H) λ(I,r,s,t)=>bif I then(d' (zK b r s t) λ(u,v,w,x,y,z,a0,A,B,C,D,J,K,L)=>e_ (a.length+([(u,v,w,x,y,z,a0,A,B,C,D)]).length<=c_) (U (.inl (J,K,L,c,d,e,f,g,h,i,j,k,m,n,(a++([(u,v,w,x,y,z,a0,A,B,C,D)])),o,p,q))))else(U (.inr (r,s,t,c,d,e,f,g,h,i,j,k,m,n,a,o,p,q)))
def Ypp(a:Lo):jF (List Int)->Option ((jF (List Int))):=a.run (Ypo a)
def Ypq(b:Lo):jF (List Int)->Option ((jF (List Int))⊕ ((jF (List Int)))):=λz=>match z with
 | (w,x,y,c,d,e,f,g,h,i,j,k,m,n,o,a,p,q)=>d' (qN b w x y) λ(a0,r,s,t)=>bif a0 then(d' (zL b r s t) λ(u,v,A,B,C)=>e_ (a.length+([(u,v)]).length<=c_) (U (.inl (A,B,C,c,d,e,f,g,h,i,j,k,m,n,o,(a++([(u,v)])),p,q))))else(U (.inr (r,s,t,c,d,e,f,g,h,i,j,k,m,n,o,a,p,q)))
def Ypr(a:Lo):jF (List Int)->Option ((jF (List Int))):=a.run (Ypq a)
def Qx(a:Lo):ByteArray×Bool×jF (List Int)->Option ((jF (List Int))):=λV=>match V with
 | (u,c2,g,h,r,e,i,j,k,s,t,m,n,o,f,b,c,d,p,q)=>bif c2 then(d' (zJ a g h r) λ(W,X,Y,Z)=>d' (ov a (B9 sX e (oc sX (tq sX 0 (a_ #[102,100]) ([]:List vy)) (a_ #[109,118,100]) (a_ #[45,62,62]) (oc sX 0 (a_ #[102,100]) (a_ #[45,62]) ([]:List vy))) (a_ #[])) X Y Z) λv=>d' (zJ a v.1 v.2.1 v.2.2) λ(c8,c9,d0,d1)=>U (c9,d0,d1,e,i,j,k,W,c8,m,n,o,f,b,c,d,p,q))else(bif(decide (u=(a_ #[99,102,100])))then(d' (zI a 0 (a_ #[45,62]) g h r) λ(d2,x,y,z)=>bif(!d2)then(d' (wz a x y z) λ(a0,A,B,C,D,d3,d4,d5)=>e_ (b.length+([(a0,A,B,C,D)]).length<=c_) (d' (Ypn a (d3,d4,d5,e,i,j,k,s,t,m,n,o,f,(b++([(a0,A,B,C,D)])),c,d,p,q)) λ(d6,d7,d8,d9,e0,e1,e2,e3,e4,e5,e6,e7,e8,e9,f0,f1,f2,f3)=>d' (Qw a (d6,d7,d8,d9,e0,e1,e2,e3,e4,e5,e6,e7,e8,e9,f0,f1,f2,f3)) λ(f4,f5,f6,f7,f8,f9,g0,g1,g2,g3,g4,g5,g6,g7,g8,g9,h0,h1)=>U (f4,f5,f6,f7,f8,f9,g0,g1,g2,g3,g4,g5,g6,g7,g8,g9,h0,h1)))else(d' (Qw a (x,y,z,e,i,j,k,s,t,m,n,o,f,b,c,d,p,q)) λ(h2,h3,h4,h5,h6,h7,h8,h9,i0,i1,i2,i3,i4,i5,i6,i7,i8,i9)=>U (h2,h3,h4,h5,h6,h7,h8,h9,i0,i1,i2,i3,i4,i5,i6,i7,i8,i9)))else(bif(decide (u=(a_ #[111,100])))then(d' (tS a g h r) λ(j0,j1,j2,j3)=>d' (ov a (a_ #[126,62]) j1 j2 j3) λw=>d' (tS a w.1 w.2.1 w.2.2) λ(j4,j5,j6,j7)=>U (j5,j6,j7,e,i,j,k,j0,j4,m,n,o,f,b,c,d,p,q))else(bif(decide (u=(a_ #[100,101,110,121])))then(bif(decide (h< (g.length:Int)))then(d' (zK a g h r) λ(E,F,G,H,I,J,K,L,M,N,O,j8,j9,k0)=>e_ (c.length+([(E,F,G,H,I,J,K,L,M,N,O)]).length<=c_) (d' (Ypp a (j8,j9,k0,e,i,j,k,s,t,m,n,o,f,b,(c++([(E,F,G,H,I,J,K,L,M,N,O)])),d,p,q)) λ(k1,k2,k3,k4,k5,k6,k7,k8,k9,m0,m1,m2,m3,m4,m5,m6,m7,m8)=>U (k1,k2,k3,k4,k5,k6,k7,k8,k9,m0,m1,m2,m3,m4,m5,m6,m7,m8)))else(U (g,h,r,e,i,j,k,s,t,m,n,o,f,b,c,d,p,q)))else(bif(decide (u=(a_ #[113,117,101,114,121])))then(d' (zL a g h r) λ(P,Q,m9,n0,n1)=>e_ (d.length+([(P,Q)]).length<=c_) (d' (Ypr a (m9,n0,n1,e,i,j,k,s,t,m,n,o,f,b,c,(d++([(P,Q)])),p,q)) λ(n2,n3,n4,n5,n6,n7,n8,n9,o0,o1,o2,o3,o4,o5,o6,o7,o8,o9)=>U (n2,n3,n4,n5,n6,n7,n8,n9,o0,o1,o2,o3,o4,o5,o6,o7,o8,o9)))else(bif(decide (u=(a_ #[108,105,110,107])))then(d' (FL a g h r e i j k s t m n o f b c d p q) λ(p0,p1,p2,p3,p4,p5,p6,p7,p8,p9,q0,q1,R,S,c0,T,q2,q3)=>e_ (R.length=f.length) (e_ (S.length=b.length) (e_ (c0.length=c.length) (e_ (T.length=d.length) (U (p0,p1,p2,p3,p4,p5,p6,p7,p8,p9,q0,q1,R,S,c0,T,q2,q3))))))else(U (g,h,r,e,i,j,k,s,t,m,n,o,f,b,c,d,p,q)))))))
def xD(b:Lo)(c:List iW)(d:Int)(e:Bool)(a f:ByteArray)(g h:ByteArray)(t i:List ByteArray)(j k:Int)(m:List ByteArray)(n:List kz)(o:List AX)(p:List AW)(q:List vq)(r:List (List lq))(s:List Int):Option (jF (List Int)):=
 bif(decide (a=(a_ #[114,111,119])))then(d' (Ypl b (c,d,e,a,f,g,h,t,i,j,k,m,o,p,q,r,s,n)) λy=>zz)else(bif(decide (a=(a_ #[107,101,121])))then(d' (tS b c d e) λ(u,v,w,x)=>U (v,w,x,a,f,g,h,u,i,j,k,m,n,o,p,q,r,s))else(bif(decide (a=(a_ #[102,100])))then(d' (Qx b (a,zZ,c,d,e,a,f,g,h,t,i,j,k,m,n,o,p,q,r,s)) λz=>zz)else(d' (Qx b (a,(decide (a=(a_ #[109,118,100]))),c,d,e,a,f,g,h,t,i,j,k,m,n,o,p,q,r,s)) λa0=>zz)))
noncomputable def I1(L:Lo):List hM:=iL 721 zj zw (.tp []) [iy,.st [.s,.s,.s,.s,.l ij,.l ij,.j,.ref 2,.ref 3,.j,.ref 4,.l ij,.ref 5,.ref 6,.ref 7],.sq iH,.sq lN,.sq lO,.sq jj,.sq l8,.sq (cs [I])] (λ(y,z,A,B,C,D,E,F,G,H,X,d,g,h,k,p,q,w)=>xD L y z A B C D E F G H X d g h k p q w:jF (List Int)->Option (jF (List Int)))::I0 L
end Go.Abs.iA
namespace Go.Abs.iA
open Go Go.Abs Go.Proofs
set_option maxRecDepth 100000
set_option maxHeartbeats 4000000
set_option synthInstance.maxSize 100000
set_option synthInstance.maxHeartbeats 1000000
theorem S54:GY I1:=λ{L} h=>
 (S53 h).i (F:=DC) _ (.j (p:=⟨0,[(1000003,zz,zZ),(1000004,zz,zZ),(1000005,zz,zZ),(1000006,zz,zZ),(1000007,zz,zZ),(1,U 7,zj),(1,U 8,zj),(1,U 10,zj),(1,U 12,zj),(1,U 13,zj),(1,U 14,zj)],C4,[⟨.kM,oq⟩],Qx L⟩) (b:=jf DC 0) (.l (p:=⟨131069,[(1,U 7,zj),(1,U 8,zj),(1,U 10,zj),(1,U 12,zj),(1,U 13,zj),(1,U 14,zj)],oq,[⟨.exit 7,oq⟩],Ypr L⟩) (b:=jf DC 131069) (.l (p:=⟨131061,[(1,U 7,zj),(1,U 8,zj),(1,U 10,zj),(1,U 12,zj),(1,U 13,zj),(1,U 14,zj)],oq,[⟨.exit 5,oq⟩],Ypp L⟩) (b:=jf DC 131061) (.j (p:=⟨1,[(1,U 7,zj),(1,U 8,zj),(1,U 10,zj),(1,U 12,zj),(1,U 13,zj),(1,U 14,zj)],oq,[⟨.kM,oq⟩],Qw L⟩) (b:=jf DC 1) (.l (p:=⟨16357,[(1,U 7,zj),(1,U 8,zj),(1,U 10,zj),(1,U 12,zj),(1,U 13,zj),(1,U 14,zj)],oq,[⟨.exit 3,oq⟩],Ypn L⟩) (b:=jf DC 16357) (.l (p:=⟨14,[(1000002,zz,zZ),(1,U 7,zj),(1,U 8,zj),(1,U 10,zj),(1,U 12,zj),(1,U 13,zj),(1,U 14,zj)],vt,[⟨.exit 1,vt⟩],Ypl L⟩) (b:=jf DC 14) .n (Ypk L)) (Ypm L))) (Ypo L)) (Ypq L))) tV
noncomputable abbrev DD:kT:=V 48 [(127,[.j 0]),(2045,[.j 1])] (U [.o [(1,U 13,zj),(1,U 14,zj),(1,U 7,zj),(1,U 8,zj),(1,U 10,zj),(1,U 12,zj)]])
def Yps(y:Lo):sI (List kz)->Option ((sI (List kz))⊕ ((sI (List kz)))):=λa0=>match a0 with
 | (q,r,s,b,c,d,e,f,g,h,i,j,k,m,n,o,p,a)=>bif(decide (r< (q.length:Int)))then(bif(!s)then(d' (xC y q r s) λ(t,u,v,A,B,C)=>e_ (a.length+([(t,u,v)]).length<=c_) (d' (qN y A B C) λ(D,w,x,z)=>bif(!D)then(U (.inr (w,x,z,b,c,d,e,f,g,h,i,j,k,m,n,o,p,(a++([(t,u,v)])))))else(bif z then(U (.inl (w,x,zZ,b,c,d,e,f,g,h,i,j,k,m,n,o,p,(a++([(t,u,v)])))))else(U (.inl (w,x,(decide (x=(w.length:Int))),b,c,d,e,f,g,h,i,j,k,m,n,o,p,(a++([(t,u,v)]))))))))else(U (.inr (q,r,s,b,c,d,e,f,g,h,i,j,k,m,n,o,p,a))))else(U (.inr (q,r,s,b,c,d,e,f,g,h,i,j,k,m,n,o,p,a)))
def Ypt(a:Lo):sI (List kz)->Option ((sI (List kz))):=a.run (Yps a)
def Mf(b:Lo):jF (List Int)->Option ((jF (List Int))⊕ ((jF (List Int)))):=λA=>match A with
 | (z,a0,B,c,d,e,f,g,h,i,j,k,m,a,n,o,p,q)=>d' (qN b z a0 B) λ(C,r,s,t)=>bif C then(d' (wz b r s t) λ(u,v,w,x,y,D,E,F)=>e_ (a.length+([(u,v,w,x,y)]).length<=c_) (U (.inl (D,E,F,c,d,e,f,g,h,i,j,k,m,(a++([(u,v,w,x,y)])),n,o,p,q))))else(U (.inr (r,s,t,c,d,e,f,g,h,i,j,k,m,a,n,o,p,q)))
def Mg(a:Lo):jF (List Int)->Option ((jF (List Int))):=a.run (Mf a)
def I2(b:Lo):jF (List Int)->Option ((jF (List Int))):=λa0=>match a0 with
 | (i,j,k,m,n,o,p,q,r,s,t,u,v,c,w,x,y,z)=>d' (ov b (a_ #[45,62]) i j k) λa=>d' (wz b a.1 a.2.1 a.2.2) λ(d,e,f,g,h,A,B,C)=>e_ (c.length+([(d,e,f,g,h)]).length<=c_) (U (A,B,C,m,n,o,p,q,r,s,t,u,v,(c++([(d,e,f,g,h)])),w,x,y,z))
def Mh(b:Lo):jF (List Int)->Option ((jF (List Int))⊕ ((jF (List Int)))):=λE=>match E with
 | (F,G,H,c,d,e,f,g,h,i,j,k,m,n,a,o,p,q)=>d' (qN b F G H) λ(I,r,s,t)=>bif I then(d' (zK b r s t) λ(u,v,w,x,y,z,a0,A,B,C,D,J,K,L)=>e_ (a.length+([(u,v,w,x,y,z,a0,A,B,C,D)]).length<=c_) (U (.inl (J,K,L,c,d,e,f,g,h,i,j,k,m,n,(a++([(u,v,w,x,y,z,a0,A,B,C,D)])),o,p,q))))else(U (.inr (r,s,t,c,d,e,f,g,h,i,j,k,m,n,a,o,p,q)))
def Mi(a:Lo):jF (List Int)->Option ((jF (List Int))):=a.run (Mh a)
def Mj(b:Lo):jF (List Int)->Option ((jF (List Int))⊕ ((jF (List Int)))):=λz=>match z with
 | (w,x,y,c,d,e,f,g,h,i,j,k,m,n,o,a,p,q)=>d' (qN b w x y) λ(a0,r,s,t)=>bif a0 then(d' (zL b r s t) λ(u,v,A,B,C)=>e_ (a.length+([(u,v)]).length<=c_) (U (.inl (A,B,C,c,d,e,f,g,h,i,j,k,m,n,o,(a++([(u,v)])),p,q))))else(U (.inr (r,s,t,c,d,e,f,g,h,i,j,k,m,n,o,a,p,q)))
def Mk(a:Lo):jF (List Int)->Option ((jF (List Int))):=a.run (Mj a)
def I3(a:Lo):ByteArray×Bool×jF (List Int)->Option ((jF (List Int))):=λV=>match V with
 | (u,c2,g,h,r,e,i,j,k,s,t,m,n,o,f,b,c,d,p,q)=>bif c2 then(d' (zJ a g h r) λ(W,X,Y,Z)=>d' (ov a (B9 sX e (oc sX (tq sX 0 (a_ #[102,100]) ([]:List vy)) (a_ #[109,118,100]) (a_ #[45,62,62]) (oc sX 0 (a_ #[102,100]) (a_ #[45,62]) ([]:List vy))) (a_ #[])) X Y Z) λv=>d' (zJ a v.1 v.2.1 v.2.2) λ(c8,c9,d0,d1)=>U (c9,d0,d1,e,i,j,k,W,c8,m,n,o,f,b,c,d,p,q))else(bif(decide (u=(a_ #[99,102,100])))then(d' (zI a 0 (a_ #[45,62]) g h r) λ(d2,x,y,z)=>bif(!d2)then(d' (wz a x y z) λ(a0,A,B,C,D,d3,d4,d5)=>e_ (b.length+([(a0,A,B,C,D)]).length<=c_) (d' (Mg a (d3,d4,d5,e,i,j,k,s,t,m,n,o,f,(b++([(a0,A,B,C,D)])),c,d,p,q)) λ(d6,d7,d8,d9,e0,e1,e2,e3,e4,e5,e6,e7,e8,e9,f0,f1,f2,f3)=>d' (I2 a (d6,d7,d8,d9,e0,e1,e2,e3,e4,e5,e6,e7,e8,e9,f0,f1,f2,f3)) λ(f4,f5,f6,f7,f8,f9,g0,g1,g2,g3,g4,g5,g6,g7,g8,g9,h0,h1)=>U (f4,f5,f6,f7,f8,f9,g0,g1,g2,g3,g4,g5,g6,g7,g8,g9,h0,h1)))else(d' (I2 a (x,y,z,e,i,j,k,s,t,m,n,o,f,b,c,d,p,q)) λ(h2,h3,h4,h5,h6,h7,h8,h9,i0,i1,i2,i3,i4,i5,i6,i7,i8,i9)=>U (h2,h3,h4,h5,h6,h7,h8,h9,i0,i1,i2,i3,i4,i5,i6,i7,i8,i9)))else(bif(decide (u=(a_ #[111,100])))then(d' (tS a g h r) λ(j0,j1,j2,j3)=>d' (ov a (a_ #[126,62]) j1 j2 j3) λw=>d' (tS a w.1 w.2.1 w.2.2) λ(j4,j5,j6,j7)=>U (j5,j6,j7,e,i,j,k,j0,j4,m,n,o,f,b,c,d,p,q))else(bif(decide (u=(a_ #[100,101,110,121])))then(bif(decide (h< (g.length:Int)))then(d' (zK a g h r) λ(E,F,G,H,I,J,K,L,M,N,O,j8,j9,k0)=>e_ (c.length+([(E,F,G,H,I,J,K,L,M,N,O)]).length<=c_) (d' (Mi a (j8,j9,k0,e,i,j,k,s,t,m,n,o,f,b,(c++([(E,F,G,H,I,J,K,L,M,N,O)])),d,p,q)) λ(k1,k2,k3,k4,k5,k6,k7,k8,k9,m0,m1,m2,m3,m4,m5,m6,m7,m8)=>U (k1,k2,k3,k4,k5,k6,k7,k8,k9,m0,m1,m2,m3,m4,m5,m6,m7,m8)))else(U (g,h,r,e,i,j,k,s,t,m,n,o,f,b,c,d,p,q)))else(bif(decide (u=(a_ #[113,117,101,114,121])))then(d' (zL a g h r) λ(P,Q,m9,n0,n1)=>e_ (d.length+([(P,Q)]).length<=c_) (d' (Mk a (m9,n0,n1,e,i,j,k,s,t,m,n,o,f,b,c,(d++([(P,Q)])),p,q)) λ(n2,n3,n4,n5,n6,n7,n8,n9,o0,o1,o2,o3,o4,o5,o6,o7,o8,o9)=>U (n2,n3,n4,n5,n6,n7,n8,n9,o0,o1,o2,o3,o4,o5,o6,o7,o8,o9)))else(bif(decide (u=(a_ #[108,105,110,107])))then(d' (FL a g h r e i j k s t m n o f b c d p q) λ(p0,p1,p2,p3,p4,p5,p6,p7,p8,p9,q0,q1,R,S,c0,T,q2,q3)=>e_ (R.length=f.length) (e_ (S.length=b.length) (e_ (c0.length=c.length) (e_ (T.length=d.length) (U (p0,p1,p2,p3,p4,p5,p6,p7,p8,p9,q0,q1,R,S,c0,T,q2,q3))))))else(U (g,h,r,e,i,j,k,s,t,m,n,o,f,b,c,d,p,q)))))))
def xE(b:Lo)(c:List iW)(d:Int)(e:Bool)(a f:ByteArray)(g h:ByteArray)(i j:List ByteArray)(k m:Int)(n:List ByteArray)(o:List kz)(p:List AX)(q:List AW)(r:List vq)(s:List (List lq))(t:List Int):Option (jF (List Int)):=
 bif(decide (a=(a_ #[114,111,119])))then(d' (Ypt b (c,d,e,a,f,g,h,i,j,k,m,n,p,q,r,s,t,o)) λd0=>zz)else(bif(decide (a=(a_ #[107,101,121])))then(d' (tS b c d e) λd1=>zz)else(bif(decide (a=(a_ #[102,100])))then(d' (I3 b (a,zZ,c,d,e,a,f,g,h,i,j,k,m,n,o,p,q,r,s,t)) λ(u,v,w,x,y,z,a0,A,B,C,D,E,F,G,H,I,J,K)=>U (u,v,w,x,y,z,a0,A,B,C,D,E,F,G,H,I,J,K))else(d' (I3 b (a,(decide (a=(a_ #[109,118,100]))),c,d,e,a,f,g,h,i,j,k,m,n,o,p,q,r,s,t)) λ(L,M,N,O,P,Q,R,S,c0,T,c2,V,W,X,Y,Z,c8,c9)=>U (L,M,N,O,P,Q,R,S,c0,T,c2,V,W,X,Y,Z,c8,c9))))
noncomputable def I4(L:Lo):List hM:=iL 721 zj zw (.tp []) [iy,.st [.s,.s,.s,.s,.l ij,.l ij,.j,.ref 2,.ref 8,.j,.ref 9,.l ij,.ref 10,.ref 11,.ref 12],.sq iH,.dd,.dd,.dd,.dd,.dd,.sq lN,.sq lO,.sq jj,.sq l8,.sq (cs [I])] (λ(y,z,A,B,C,D,E,F,G,H,X,d,g,h,k,p,q,w)=>xE L y z A B C D E F G H X d g h k p q w:jF (List Int)->Option (jF (List Int)))::I1 L
theorem S55:GY I4:=λ{L} h=>
 (S54 h).i (F:=DD) _ (.j (p:=⟨0,[(1000003,zz,zZ),(1000004,zz,zZ),(1000005,zz,zZ),(1000006,zz,zZ),(1000007,zz,zZ),(1,U 7,zj),(1,U 8,zj),(1,U 10,zj),(1,U 12,zj),(1,U 13,zj),(1,U 14,zj)],C4,[⟨.kM,oq⟩],I3 L⟩) (b:=jf DD 0) (.l (p:=⟨131069,[(1,U 7,zj),(1,U 8,zj),(1,U 10,zj),(1,U 12,zj),(1,U 13,zj),(1,U 14,zj)],oq,[⟨.exit 7,oq⟩],Mk L⟩) (b:=jf DD 131069) (.l (p:=⟨131061,[(1,U 7,zj),(1,U 8,zj),(1,U 10,zj),(1,U 12,zj),(1,U 13,zj),(1,U 14,zj)],oq,[⟨.exit 5,oq⟩],Mi L⟩) (b:=jf DD 131061) (.j (p:=⟨1,[(1,U 7,zj),(1,U 8,zj),(1,U 10,zj),(1,U 12,zj),(1,U 13,zj),(1,U 14,zj)],oq,[⟨.kM,oq⟩],I2 L⟩) (b:=jf DD 1) (.l (p:=⟨16357,[(1,U 7,zj),(1,U 8,zj),(1,U 10,zj),(1,U 12,zj),(1,U 13,zj),(1,U 14,zj)],oq,[⟨.exit 3,oq⟩],Mg L⟩) (b:=jf DD 16357) (.l (p:=⟨14,[(1000002,zz,zZ),(1,U 7,zj),(1,U 8,zj),(1,U 10,zj),(1,U 12,zj),(1,U 13,zj),(1,U 14,zj)],vt,[⟨.exit 1,vt⟩],Ypt L⟩) (b:=jf DD 14) .n (Yps L)) (Mf L))) (Mh L)) (Mj L))) tV
noncomputable abbrev Ml:kT:=V 16 [(1983,[.j 0]),(126927,[.j 1]),(31,[.j 2])]
def rP(u:Lo):(List iW)×xu (List Int)->Option ((Int×zD (List Int))):=λt=>match t with
 | (a,_,_,_,_,_,_,_,_,_,_,b,c,d,e,f,g,h,i,j,k,m,_,_,_,_,_,_,n,o,p,q,r,s)=>bif c then(U (2,(a_ #[]),(a_ #[]),(a_ #[]),(a_ #[]),[],[],0,[],[],0,[],[],[],[],[]))else(bif(!decide (b=(a.length:Int)))then(U (2,(a_ #[]),(a_ #[]),(a_ #[]),(a_ #[]),[],[],0,[],[],0,[],[],[],[],[]))else(U (0,d,e,f,g,h,i,j,n,o,k,p,m,q,r,s)))
def I5(a:Lo):(List iW)×ByteArray×Bool×xu (List Int)->Option (((List iW)×xu (List Int))):=λH=>match H with
 | (b,I,J,c,d,e,f,g,h,i,j,k,m,n,o,p,K,L,q,r,s,t,u,G,v,w,x,y,z,a0,A,B,C,D,E,F)=>bif J then(d' (mX a m n o) λ(M,N,O,P)=>U (b,c,d,e,f,g,h,i,j,k,N,O,P,p,K,M,q,r,s,t,u,G,v,w,x,y,z,a0,A,B,C,D,E,F))else(bif(decide (I=(a_ #[113,117,101,114,121])))then(d' (mX a m n o) λ(Q,R,S,c0)=>d' (DA a R S c0) λ(T,c2,V,W)=>U (b,c,d,e,f,g,h,i,j,k,c2,V,W,p,Q,L,q,r,s,t,u,T,v,w,x,y,z,a0,A,B,C,D,E,F))else(d' (mX a m n o) λ(X,Y,Z,c8)=>d' (mX a Y Z c8) λ(c9,d0,d1,d2)=>U (b,c,d,e,f,g,h,i,j,k,d0,d1,d2,p,X,c9,q,r,s,t,u,G,v,w,x,y,z,a0,A,B,C,D,E,F)))
end Go.Abs.iA
namespace Go.Abs.iA
open Go Go.Abs Go.Proofs
set_option maxRecDepth 100000
set_option maxHeartbeats 4000000
set_option synthInstance.maxSize 100000
set_option synthInstance.maxHeartbeats 1000000
def uA(a:Lo):(List iW)×Bool×xu (List Int)->Option (((List iW)×xu (List Int))⊕ (Int×zD (List Int))):=λs7=>match s7 with
 | (v,s6,w,x,y,z,a0,A,B,C,D,g7,g8,g9,b,E,j3,F,G,H,j4,g6,I,J,K,L,M,N,O,c,d,e,f,g,h)=>bif s6 then(bif(decide (b=(a_ #[114,111,119])))then(d' (mX a g7 g8 g9) λ(R,s8,s9,t0)=>d' (yg a s8 s9 t0) λ(S,j5,j6,j7)=>bif(decide (b=(a_ #[100,101,110,121])))then(d' (yg a j5 j6 j7) λ(h0,t1,t2,t3)=>d' (ov a (a_ #[58]) t1 t2 t3) λ(h1,h2,h3)=>nf (xE a h1 h2 h3 b E R F G H S h0 I c d e f g h) (λ(t4,t5,t6,t7,t8,t9,u0,u1,u2,u3,u4,u5,j8,u6,u7,u8,u9,v0)=>e_ (j8.length=c.length) (U (.inl (v,w,x,y,z,a0,A,B,C,D,t4,t5,t6,t7,t8,t9,u0,u1,u2,u3,u4,u5,J,K,L,M,N,O,j8,u6,u7,u8,u9,v0)))) (nf (xD a h1 h2 h3 b E R F G H S h0 I c d e f g h) (λ(v1,v2,v3,v4,v5,v6,v7,v8,v9,w0,w1,w2,j9,k0,k1,k2,k3,k4)=>e_ (j9.length=c.length) (e_ (k0.length=d.length) (e_ (k1.length=e.length) (e_ (k2.length=f.length) (e_ (k3.length=g.length) (e_ (k4.length=h.length) (U (.inl (v,w,x,y,z,a0,A,B,C,D,v1,v2,v3,v4,v5,v6,v7,v8,v9,w0,w1,w2,J,K,L,M,N,O,j9,k0,k1,k2,k3,k4))))))))) (d' (zN a h1 h2 h3 b E R F G H S h0 I c d e f g h) λ(w3,w4,w5,w6,w7,w8,w9,x0,x1,x2,x3,x4,k5,k6,k7,k8,k9,x5)=>e_ (k5.length=d.length) (e_ (k6.length=e.length) (e_ (k7.length=f.length) (e_ (k8.length=g.length) (e_ (k9.length=h.length) (U (.inl (v,w,x,y,z,a0,A,B,C,D,w3,w4,w5,w6,w7,w8,w9,x0,x1,x2,x3,x4,J,K,L,M,N,O,x5,k5,k6,k7,k8,k9))))))))))else(d' (ov a (a_ #[58]) j5 j6 j7) λ(h4,h5,h6)=>nf (xE a h4 h5 h6 b E R F G H S g6 I c d e f g h) (λ(x6,x7,x8,x9,y0,y1,y2,y3,y4,y5,y6,y7,m0,y8,y9,z0,z1,z2)=>e_ (m0.length=c.length) (U (.inl (v,w,x,y,z,a0,A,B,C,D,x6,x7,x8,x9,y0,y1,y2,y3,y4,y5,y6,y7,J,K,L,M,N,O,m0,y8,y9,z0,z1,z2)))) (nf (xD a h4 h5 h6 b E R F G H S g6 I c d e f g h) (λ(z3,z4,z5,z6,z7,z8,z9,aa,ab,ac,ad,ae,m1,m2,m3,m4,m5,m6)=>e_ (m1.length=c.length) (e_ (m2.length=d.length) (e_ (m3.length=e.length) (e_ (m4.length=f.length) (e_ (m5.length=g.length) (e_ (m6.length=h.length) (U (.inl (v,w,x,y,z,a0,A,B,C,D,z3,z4,z5,z6,z7,z8,z9,aa,ab,ac,ad,ae,J,K,L,M,N,O,m1,m2,m3,m4,m5,m6))))))))) (d' (zN a h4 h5 h6 b E R F G H S g6 I c d e f g h) λ(af,ag,ah,ai,aj,ak,al,am,an,ao,ap,aq,m7,m8,m9,n0,n1,ar)=>e_ (m7.length=d.length) (e_ (m8.length=e.length) (e_ (m9.length=f.length) (e_ (n0.length=g.length) (e_ (n1.length=h.length) (U (.inl (v,w,x,y,z,a0,A,B,C,D,af,ag,ah,ai,aj,ak,al,am,an,ao,ap,aq,J,K,L,M,N,O,ar,m7,m8,m9,n0,n1)))))))))))else(bif(decide (b=(a_ #[107,101,121])))then(d' (I5 a (v,b,zZ,w,x,y,z,a0,A,B,C,D,g7,g8,g9,b,E,j3,F,G,H,j4,g6,I,J,K,L,M,N,O,c,d,e,f,g,h)) λ(c0,T,c2,V,W,X,Y,Z,c8,c9,n2,n3,n4,P,d0,d1,d2,d3,d4,d5,h7,d6,d7,d8,d9,e0,e1,e2,i,j,k,m,n,o)=>bif(decide (P=(a_ #[100,101,110,121])))then(d' (yg a n2 n3 n4) λ(h8,au,av,aw)=>d' (ov a (a_ #[58]) au av aw) λ(h9,i0,i1)=>nf (xE a h9 i0 i1 P d0 d1 d2 d3 d4 d5 h8 d6 i j k m n o) (λ(ax,ay,az,aA,aB,aC,aD,aE,aF,aG,aH,aI,n5,aJ,aK,aL,aM,aN)=>e_ (n5.length=i.length) (U (.inl (c0,T,c2,V,W,X,Y,Z,c8,c9,ax,ay,az,aA,aB,aC,aD,aE,aF,aG,aH,aI,d7,d8,d9,e0,e1,e2,n5,aJ,aK,aL,aM,aN)))) (nf (xD a h9 i0 i1 P d0 d1 d2 d3 d4 d5 h8 d6 i j k m n o) (λ(aO,aP,aQ,aR,aS,aT,aU,aV,aW,aX,aY,aZ,n6,n7,n8,n9,o0,o1)=>e_ (n6.length=i.length) (e_ (n7.length=j.length) (e_ (n8.length=k.length) (e_ (n9.length=m.length) (e_ (o0.length=n.length) (e_ (o1.length=o.length) (U (.inl (c0,T,c2,V,W,X,Y,Z,c8,c9,aO,aP,aQ,aR,aS,aT,aU,aV,aW,aX,aY,aZ,d7,d8,d9,e0,e1,e2,n6,n7,n8,n9,o0,o1))))))))) (d' (zN a h9 i0 i1 P d0 d1 d2 d3 d4 d5 h8 d6 i j k m n o) λ(ba,bb,bc,bd,be,bf,bg,bh,bi,bj,bk,bl,o2,o3,o4,o5,o6,bm)=>e_ (o2.length=j.length) (e_ (o3.length=k.length) (e_ (o4.length=m.length) (e_ (o5.length=n.length) (e_ (o6.length=o.length) (U (.inl (c0,T,c2,V,W,X,Y,Z,c8,c9,ba,bb,bc,bd,be,bf,bg,bh,bi,bj,bk,bl,d7,d8,d9,e0,e1,e2,bm,o2,o3,o4,o5,o6))))))))))else(d' (ov a (a_ #[58]) n2 n3 n4) λ(i2,i3,i4)=>nf (xE a i2 i3 i4 P d0 d1 d2 d3 d4 d5 h7 d6 i j k m n o) (λ(bn,bo,bp,bq,br,bs,bt,bu,bv,bw,bx,bz,o7,bA,bB,bC,bD,bE)=>e_ (o7.length=i.length) (U (.inl (c0,T,c2,V,W,X,Y,Z,c8,c9,bn,bo,bp,bq,br,bs,bt,bu,bv,bw,bx,bz,d7,d8,d9,e0,e1,e2,o7,bA,bB,bC,bD,bE)))) (nf (xD a i2 i3 i4 P d0 d1 d2 d3 d4 d5 h7 d6 i j k m n o) (λ(bF,bG,bH,bI,bJ,bK,bL,bM,bN,bO,bP,bQ,o8,o9,p0,p1,p2,p3)=>e_ (o8.length=i.length) (e_ (o9.length=j.length) (e_ (p0.length=k.length) (e_ (p1.length=m.length) (e_ (p2.length=n.length) (e_ (p3.length=o.length) (U (.inl (c0,T,c2,V,W,X,Y,Z,c8,c9,bF,bG,bH,bI,bJ,bK,bL,bM,bN,bO,bP,bQ,d7,d8,d9,e0,e1,e2,o8,o9,p0,p1,p2,p3))))))))) (d' (zN a i2 i3 i4 P d0 d1 d2 d3 d4 d5 h7 d6 i j k m n o) λ(bR,bS,bT,bU,bV,bW,bX,bY,bZ,ca,cb,cc,p4,p5,p6,p7,p8,cd)=>e_ (p4.length=j.length) (e_ (p5.length=k.length) (e_ (p6.length=m.length) (e_ (p7.length=n.length) (e_ (p8.length=o.length) (U (.inl (c0,T,c2,V,W,X,Y,Z,c8,c9,bR,bS,bT,bU,bV,bW,bX,bY,bZ,ca,cb,cc,d7,d8,d9,e0,e1,e2,cd,p4,p5,p6,p7,p8)))))))))))else(d' (I5 a (v,b,(decide (b=(a_ #[108,105,110,107]))),w,x,y,z,a0,A,B,C,D,g7,g8,g9,b,E,j3,F,G,H,j4,g6,I,J,K,L,M,N,O,c,d,e,f,g,h)) λ(e3,e4,e5,e6,e7,e8,e9,f0,f1,f2,p9,q0,q1,Q,f3,f4,f5,f6,f7,f8,i5,f9,g0,g1,g2,g3,g4,g5,p,q,r,s,t,u)=>bif(decide (Q=(a_ #[100,101,110,121])))then(d' (yg a p9 q0 q1) λ(i6,ce,cf,cg)=>d' (ov a (a_ #[58]) ce cf cg) λ(i7,i8,i9)=>nf (xE a i7 i8 i9 Q f3 f4 f5 f6 f7 f8 i6 f9 p q r s t u) (λ(ch,ci,cj,ck,cl,cm,cn,co,cp,cq,cr,cs,q2,ct,cu,cv,cw,cx)=>e_ (q2.length=p.length) (U (.inl (e3,e4,e5,e6,e7,e8,e9,f0,f1,f2,ch,ci,cj,ck,cl,cm,cn,co,cp,cq,cr,cs,g0,g1,g2,g3,g4,g5,q2,ct,cu,cv,cw,cx)))) (nf (xD a i7 i8 i9 Q f3 f4 f5 f6 f7 f8 i6 f9 p q r s t u) (λ(cy,cz,cA,cB,cC,cD,cE,cF,cG,cH,cI,cJ,q3,q4,q5,q6,q7,q8)=>e_ (q3.length=p.length) (e_ (q4.length=q.length) (e_ (q5.length=r.length) (e_ (q6.length=s.length) (e_ (q7.length=t.length) (e_ (q8.length=u.length) (U (.inl (e3,e4,e5,e6,e7,e8,e9,f0,f1,f2,cy,cz,cA,cB,cC,cD,cE,cF,cG,cH,cI,cJ,g0,g1,g2,g3,g4,g5,q3,q4,q5,q6,q7,q8))))))))) (d' (zN a i7 i8 i9 Q f3 f4 f5 f6 f7 f8 i6 f9 p q r s t u) λ(cK,cL,cM,cN,cO,cP,cQ,cR,cS,cT,cU,cV,q9,r0,r1,r2,r3,cW)=>e_ (q9.length=q.length) (e_ (r0.length=r.length) (e_ (r1.length=s.length) (e_ (r2.length=t.length) (e_ (r3.length=u.length) (U (.inl (e3,e4,e5,e6,e7,e8,e9,f0,f1,f2,cK,cL,cM,cN,cO,cP,cQ,cR,cS,cT,cU,cV,g0,g1,g2,g3,g4,g5,cW,q9,r0,r1,r2,r3))))))))))else(d' (ov a (a_ #[58]) p9 q0 q1) λ(j0,j1,j2)=>nf (xE a j0 j1 j2 Q f3 f4 f5 f6 f7 f8 i5 f9 p q r s t u) (λ(cX,cY,cZ,da,db,dc,dd,de,df,dg,dh,di,r4,dj,dk,dl,dm,dn)=>e_ (r4.length=p.length) (U (.inl (e3,e4,e5,e6,e7,e8,e9,f0,f1,f2,cX,cY,cZ,da,db,dc,dd,de,df,dg,dh,di,g0,g1,g2,g3,g4,g5,r4,dj,dk,dl,dm,dn)))) (nf (xD a j0 j1 j2 Q f3 f4 f5 f6 f7 f8 i5 f9 p q r s t u) (λ(dp,dq,dr,ds,dt,du,dv,dw,dx,dy,dz,dA,r5,r6,r7,r8,r9,s0)=>e_ (r5.length=p.length) (e_ (r6.length=q.length) (e_ (r7.length=r.length) (e_ (r8.length=s.length) (e_ (r9.length=t.length) (e_ (s0.length=u.length) (U (.inl (e3,e4,e5,e6,e7,e8,e9,f0,f1,f2,dp,dq,dr,ds,dt,du,dv,dw,dx,dy,dz,dA,g0,g1,g2,g3,g4,g5,r5,r6,r7,r8,r9,s0))))))))) (d' (zN a j0 j1 j2 Q f3 f4 f5 f6 f7 f8 i5 f9 p q r s t u) λ(dB,dC,dD,dE,dF,dG,dH,dI,dJ,dK,dL,dM,s1,s2,s3,s4,s5,dN)=>e_ (s1.length=q.length) (e_ (s2.length=r.length) (e_ (s3.length=s.length) (e_ (s4.length=t.length) (e_ (s5.length=u.length) (U (.inl (e3,e4,e5,e6,e7,e8,e9,f0,f1,f2,dB,dC,dD,dE,dF,dG,dH,dI,dJ,dK,dL,dM,g0,g1,g2,g3,g4,g5,dN,s1,s2,s3,s4,s5)))))))))))))else(U (.inr (2,(a_ #[]),(a_ #[]),(a_ #[]),(a_ #[]),[],[],0,[],[],0,[],[],[],[],[])))
end Go.Abs.iA
namespace Go.Abs.iA
open Go Go.Abs Go.Proofs
set_option maxRecDepth 100000
set_option maxHeartbeats 4000000
set_option synthInstance.maxSize 100000
set_option synthInstance.maxHeartbeats 1000000
def zO(a:Lo)(c:List iW):Option (zD ((List Int)×Int)):=
 d' (mX a c 0 zj) λ(b,d,e,f)=>bif(decide (b=(a_ #[116,97,98,108,101])))then(d' (mX a d e f) λ(r,s,t,u)=>d' (DA a s t u) λ(v,w,x,y)=>d' (rP a (c,(a_ #[]),(a_ #[]),(a_ #[]),(a_ #[]),[],[],0,0,[],w,x,y,b,(a_ #[]),r,(a_ #[]),v,[],0,0,[],[],[],[],[],[],[],[],[],[],[],[],[])) λ(z,a0,a1,a2,a3,a4,a5,a6,a7,a8,a9,b0,b1,b2,b3,b4)=>U (a0,a1,a2,a3,a4,a5,a6,a7,a8,a9,b0,b1,b2,b3,b4,z))else(bif(decide (b=(a_ #[105,110,100])))then(d' (mX a d e f) λ(b5,b6,b7,b8)=>d' (mX a b6 b7 b8) λ(b9,c0,c1,c2)=>d' (DA a c0 c1 c2) λ(c3,c4,c5,c6)=>d' (ov a (a_ #[60,61]) c4 c5 c6) λg=>d' (mX a g.1 g.2.1 g.2.2) λ(c7,c8,c9,d0)=>d' (DA a c8 c9 d0) λ(d1,d2,d3,d4)=>d' (rP a (c,(a_ #[]),(a_ #[]),(a_ #[]),(a_ #[]),[],[],0,0,[],d2,d3,d4,b,b5,b9,c7,c3,d1,0,0,[],[],[],[],[],[],[],[],[],[],[],[],[])) λ(d5,d6,d7,d8,d9,e0,e1,e2,e3,e4,e5,e6,e7,e8,e9,f0)=>U (d6,d7,d8,d9,e0,e1,e2,e3,e4,e5,e6,e7,e8,e9,f0,d5))else(bif(decide (b=(a_ #[114,111,119])))then(d' (uA a (c,zZ,(a_ #[]),(a_ #[]),(a_ #[]),(a_ #[]),[],[],0,0,[],d,e,f,b,(a_ #[]),(a_ #[]),(a_ #[]),[],[],0,0,[],[],[],[],[],[],[],[],[],[],[],[],[])) λh=>iV h (λ(f1,f2,f3,f4,f5,f6,f7,f8,f9,g0,g1,g2,g3,g4,g5,g6,g7,g8,g9,h0,h1,h2,h3,h4,h5,h6,h7,h8,h9,i0,i1,i2,i3,i4)=>d' (rP a (f1,f2,f3,f4,f5,f6,f7,f8,f9,g0,g1,g2,g3,g4,g5,g6,g7,g8,g9,h0,h1,h2,h3,h4,h5,h6,h7,h8,h9,i0,i1,i2,i3,i4)) λ(i5,i6,i7,i8,i9,j0,j1,j2,j3,j4,j5,j6,j7,j8,j9,k0)=>U (i6,i7,i8,i9,j0,j1,j2,j3,j4,j5,j6,j7,j8,j9,k0,i5)) (λ(k1,k2,k3,k4,k5,k6,k7,k8,k9,m0,m1,m2,m3,m4,m5,m6)=>U (k2,k3,k4,k5,k6,k7,k8,k9,m0,m1,m2,m3,m4,m5,m6,k1)))else(bif(decide (b=(a_ #[107,101,121])))then(d' (uA a (c,zZ,(a_ #[]),(a_ #[]),(a_ #[]),(a_ #[]),[],[],0,0,[],d,e,f,b,(a_ #[]),(a_ #[]),(a_ #[]),[],[],0,0,[],[],[],[],[],[],[],[],[],[],[],[],[])) λi=>iV i (λ(m7,m8,m9,n0,n1,n2,n3,n4,n5,n6,n7,n8,n9,o0,o1,o2,o3,o4,o5,o6,o7,o8,o9,p0,p1,p2,p3,p4,p5,p6,p7,p8,p9,q0)=>d' (rP a (m7,m8,m9,n0,n1,n2,n3,n4,n5,n6,n7,n8,n9,o0,o1,o2,o3,o4,o5,o6,o7,o8,o9,p0,p1,p2,p3,p4,p5,p6,p7,p8,p9,q0)) λ(q1,q2,q3,q4,q5,q6,q7,q8,q9,r0,r1,r2,r3,r4,r5,r6)=>U (q2,q3,q4,q5,q6,q7,q8,q9,r0,r1,r2,r3,r4,r5,r6,q1)) (λ(r7,r8,r9,s0,s1,s2,s3,s4,s5,s6,s7,s8,s9,t0,t1,t2)=>U (r8,r9,s0,s1,s2,s3,s4,s5,s6,s7,s8,s9,t0,t1,t2,r7)))else(bif(decide (b=(a_ #[108,105,110,107])))then(d' (uA a (c,zZ,(a_ #[]),(a_ #[]),(a_ #[]),(a_ #[]),[],[],0,0,[],d,e,f,b,(a_ #[]),(a_ #[]),(a_ #[]),[],[],0,0,[],[],[],[],[],[],[],[],[],[],[],[],[])) λj=>iV j (λ(t3,t4,t5,t6,t7,t8,t9,u0,u1,u2,u3,u4,u5,u6,u7,u8,u9,v0,v1,v2,v3,v4,v5,v6,v7,v8,v9,w0,w1,w2,w3,w4,w5,w6)=>d' (rP a (t3,t4,t5,t6,t7,t8,t9,u0,u1,u2,u3,u4,u5,u6,u7,u8,u9,v0,v1,v2,v3,v4,v5,v6,v7,v8,v9,w0,w1,w2,w3,w4,w5,w6)) λ(w7,w8,w9,x0,x1,x2,x3,x4,x5,x6,x7,x8,x9,y0,y1,y2)=>U (w8,w9,x0,x1,x2,x3,x4,x5,x6,x7,x8,x9,y0,y1,y2,w7)) (λ(y3,y4,y5,y6,y7,y8,y9,z0,z1,z2,z3,z4,z5,z6,z7,z8)=>U (y4,y5,y6,y7,y8,y9,z0,z1,z2,z3,z4,z5,z6,z7,z8,y3)))else(bif(decide (b=(a_ #[102,100])))then(d' (uA a (c,zZ,(a_ #[]),(a_ #[]),(a_ #[]),(a_ #[]),[],[],0,0,[],d,e,f,b,(a_ #[]),(a_ #[]),(a_ #[]),[],[],0,0,[],[],[],[],[],[],[],[],[],[],[],[],[])) λk=>iV k (λ(z9,A,B,C,D,E,F,G,H,I,J,K,L,M,N,O,P,Q,R,S,T,V,W,X,Y,Z,aa,ab,ac,ad,ae,af,ag,ah)=>d' (rP a (z9,A,B,C,D,E,F,G,H,I,J,K,L,M,N,O,P,Q,R,S,T,V,W,X,Y,Z,aa,ab,ac,ad,ae,af,ag,ah)) λ(ai,aj,ak,al,am,an,ao,ap,aq,ar,au,av,aw,ax,ay,az)=>U (aj,ak,al,am,an,ao,ap,aq,ar,au,av,aw,ax,ay,az,ai)) (λ(aA,aB,aC,aD,aE,aF,aG,aH,aI,aJ,aK,aL,aM,aN,aO,aP)=>U (aB,aC,aD,aE,aF,aG,aH,aI,aJ,aK,aL,aM,aN,aO,aP,aA)))else(bif(decide (b=(a_ #[109,118,100])))then(d' (uA a (c,zZ,(a_ #[]),(a_ #[]),(a_ #[]),(a_ #[]),[],[],0,0,[],d,e,f,b,(a_ #[]),(a_ #[]),(a_ #[]),[],[],0,0,[],[],[],[],[],[],[],[],[],[],[],[],[])) λm=>iV m (λ(aQ,aR,aS,aT,aU,aV,aW,aX,aY,aZ,ba,bb,bc,bd,be,bf,bg,bh,bi,bj,bk,bl,bm,bn,bo,bp,bq,br,bs,bt,bu,bv,bw,bx)=>d' (rP a (aQ,aR,aS,aT,aU,aV,aW,aX,aY,aZ,ba,bb,bc,bd,be,bf,bg,bh,bi,bj,bk,bl,bm,bn,bo,bp,bq,br,bs,bt,bu,bv,bw,bx)) λ(bz,bA,bB,bC,bD,bE,bF,bG,bH,bI,bJ,bK,bL,bM,bN,bO)=>U (bA,bB,bC,bD,bE,bF,bG,bH,bI,bJ,bK,bL,bM,bN,bO,bz)) (λ(bP,bQ,bR,bS,bT,bU,bV,bW,bX,bY,bZ,ca,cb,cc,cd,ce)=>U (bQ,bR,bS,bT,bU,bV,bW,bX,bY,bZ,ca,cb,cc,cd,ce,bP)))else(bif(decide (b=(a_ #[99,102,100])))then(d' (uA a (c,zZ,(a_ #[]),(a_ #[]),(a_ #[]),(a_ #[]),[],[],0,0,[],d,e,f,b,(a_ #[]),(a_ #[]),(a_ #[]),[],[],0,0,[],[],[],[],[],[],[],[],[],[],[],[],[])) λn=>iV n (λ(cf,cg,ch,ci,cj,ck,cl,cm,cn,co,cp,cq,cr,cs,ct,cu,cv,cw,cx,cy,cz,cA,cB,cC,cD,cE,cF,cG,cH,cI,cJ,cK,cL,cM)=>d' (rP a (cf,cg,ch,ci,cj,ck,cl,cm,cn,co,cp,cq,cr,cs,ct,cu,cv,cw,cx,cy,cz,cA,cB,cC,cD,cE,cF,cG,cH,cI,cJ,cK,cL,cM)) λ(cN,cO,cP,cQ,cR,cS,cT,cU,cV,cW,cX,cY,cZ,da,db,dc)=>U (cO,cP,cQ,cR,cS,cT,cU,cV,cW,cX,cY,cZ,da,db,dc,cN)) (λ(dd,de,df,dg,dh,di,dj,dk,dl,dm,dn,dp,dq,dr,ds,dt)=>U (de,df,dg,dh,di,dj,dk,dl,dm,dn,dp,dq,dr,ds,dt,dd)))else(bif(decide (b=(a_ #[111,100])))then(d' (uA a (c,zZ,(a_ #[]),(a_ #[]),(a_ #[]),(a_ #[]),[],[],0,0,[],d,e,f,b,(a_ #[]),(a_ #[]),(a_ #[]),[],[],0,0,[],[],[],[],[],[],[],[],[],[],[],[],[])) λo=>iV o (λ(du,dv,dw,dx,dy,dz,dA,dB,dC,dD,dE,dF,dG,dH,dI,dJ,dK,dL,dM,dN,dO,dP,dQ,dR,dS,dT,dU,dV,dW,dX,dY,dZ,ea,eb)=>d' (rP a (du,dv,dw,dx,dy,dz,dA,dB,dC,dD,dE,dF,dG,dH,dI,dJ,dK,dL,dM,dN,dO,dP,dQ,dR,dS,dT,dU,dV,dW,dX,dY,dZ,ea,eb)) λ(ec,ed,ee,ef,eg,eh,ei,ej,ek,el,em,en,eo,ep,eq,er)=>U (ed,ee,ef,eg,eh,ei,ej,ek,el,em,en,eo,ep,eq,er,ec)) (λ(es,et,eu,ev,ew,ex,ey,ez,eA,eB,eC,eD,eE,eF,eG,eH)=>U (et,eu,ev,ew,ex,ey,ez,eA,eB,eC,eD,eE,eF,eG,eH,es)))else(bif(decide (b=(a_ #[100,101,110,121])))then(d' (uA a (c,zZ,(a_ #[]),(a_ #[]),(a_ #[]),(a_ #[]),[],[],0,0,[],d,e,f,b,(a_ #[]),(a_ #[]),(a_ #[]),[],[],0,0,[],[],[],[],[],[],[],[],[],[],[],[],[])) λp=>iV p (λ(eI,eJ,eK,eL,eM,eN,eO,eP,eQ,eR,eS,eT,eU,eV,eW,eX,eY,eZ,fa,fb,fc,fd,fe,ff,fg,fh,fi,fj,fk,fl,fn,fo,fp,fq)=>d' (rP a (eI,eJ,eK,eL,eM,eN,eO,eP,eQ,eR,eS,eT,eU,eV,eW,eX,eY,eZ,fa,fb,fc,fd,fe,ff,fg,fh,fi,fj,fk,fl,fn,fo,fp,fq)) λ(fr,ft,fu,fv,fw,fx,fy,fz,fA,fB,fC,fD,fE,fF,fG,fH)=>U (ft,fu,fv,fw,fx,fy,fz,fA,fB,fC,fD,fE,fF,fG,fH,fr)) (λ(fI,fJ,fK,fL,fM,fN,fO,fP,fQ,fR,fS,fT,fU,fV,fW,fX)=>U (fJ,fK,fL,fM,fN,fO,fP,fQ,fR,fS,fT,fU,fV,fW,fX,fI)))else(d' (uA a (c,(decide (b=(a_ #[113,117,101,114,121]))),(a_ #[]),(a_ #[]),(a_ #[]),(a_ #[]),[],[],0,0,[],d,e,f,b,(a_ #[]),(a_ #[]),(a_ #[]),[],[],0,0,[],[],[],[],[],[],[],[],[],[],[],[],[])) λq=>iV q (λ(fY,fZ,ga,gb,gc,gd,ge,gf,gg,gh,gi,gj,gk,gl,gm,gn,go,gp,gq,gr,gs,gt,gu,gv,gw,gx,gy,gz,gA,gB,gC,gD,gE,gF)=>d' (rP a (fY,fZ,ga,gb,gc,gd,ge,gf,gg,gh,gi,gj,gk,gl,gm,gn,go,gp,gq,gr,gs,gt,gu,gv,gw,gx,gy,gz,gA,gB,gC,gD,gE,gF)) λ(gG,gH,gI,gJ,gK,gL,gM,gN,gO,gP,gQ,gR,gS,gT,gU,gV)=>U (gH,gI,gJ,gK,gL,gM,gN,gO,gP,gQ,gR,gS,gT,gU,gV,gG)) (λ(gW,gX,gY,gZ,ha,hb,hc,hd,he,hf,hg,hh,hi,hj,hk,hl)=>U (gX,gY,gZ,ha,hb,hc,hd,he,hf,hg,hh,hi,hj,hk,hl,gW))))))))))))
noncomputable def DE(L:Lo):List hM:=iL 674 zZ (ik [0] [.l jY] []) (.tp [zu,.j]) [] (zO L)::I4 L
theorem S56:GY DE:=λ{L} h=>
 (S55 h).p (F:=Ml) _ (.j (p:=⟨0,[(2,U 7,zj),(2,U 8,zj),(2,U 10,zj),(2,U 12,zj),(2,U 13,zj),(2,U 14,zj),(5,U 7,zj),(5,U 8,zj),(5,U 10,zj),(5,U 12,zj),(5,U 13,zj),(5,U 14,zj)],(ik [0,2,4,5,42] [.l jY,.ptr 0 0 0,.ptr 1 0 0,.ptr 2 0 0,.b] [C5,iy,C6,.sq iH,.sq lN,.sq lO,.sq jj,.sq l8,.sq (cs [I]),.sq iH,.sq lN,.sq lO,.sq jj,.sq l8,.sq (cs [I])]),[⟨.kM,C7⟩,⟨.ret,(ik [2,3] [.ptr 0 0 0,.j] [wv])⟩],uA L⟩) (b:=jf Ml 0) (.j (p:=⟨1,[(2,U 7,zj),(2,U 8,zj),(2,U 10,zj),(2,U 12,zj),(2,U 13,zj),(2,U 14,zj),(5,U 7,zj),(5,U 8,zj),(5,U 10,zj),(5,U 12,zj),(5,U 13,zj),(5,U 14,zj)],(ik [0,2,4,5,53,68] [.l jY,.ptr 0 0 0,.ptr 1 0 0,.ptr 2 0 0,.s,.b] [C5,iy,C6,.sq iH,.sq lN,.sq lO,.sq jj,.sq l8,.sq (cs [I]),.sq iH,.sq lN,.sq lO,.sq jj,.sq l8,.sq (cs [I])]),[⟨.kM,C7⟩],I5 L⟩) (b:=jf Ml 1) (.j (p:=⟨2,[(2,U 7,zj),(2,U 8,zj),(2,U 10,zj),(2,U 12,zj),(2,U 13,zj),(2,U 14,zj),(5,U 7,zj),(5,U 8,zj),(5,U 10,zj),(5,U 12,zj),(5,U 13,zj),(5,U 14,zj)],C7,[⟨.ret,(ik [2,3] [.ptr 0 0 0,.j] [wv])⟩],rP L⟩) (b:=jf Ml 2) .n))) tV
def YvZ(L:Lo):hM:=vl 492 0 jM [.sq jM,.st [.ref 0,.ref 2,.ref 3,.ref 4,.ref 5],.sq jE,.sq mW,.sq jQ,.sq ni] (cs [.l jM,.l jE,.l mW,.l jQ,.l ni])
noncomputable def DF(L:Lo):List hM:=YvZ L::DE L
theorem Yv0{P:Program}{fm:FM}{L:Lo}(h:GZ P fm DE L)(H: ∀f,fm f=492->lk P fm pf f=U (8,[.t 2],vf 3 [(.string (⟨#[]⟩)),(.slice zz 0 0),(.slice zz 0 0)])):GZ P fm DF L:=
 ⟨h.1,h.2,YvB h.S h.mx 0 jM [.sq jM,.st [.ref 0,.ref 2,.ref 3,.ref 4,.ref 5],.sq jE,.sq mW,.sq jQ,.sq ni] (cs [.l jM,.l jE,.l mW,.l jQ,.l ni]) rfl [(.string (⟨#[]⟩)),(.slice zz 0 0),(.slice zz 0 0)] 8 (by decide) H⟩
theorem S57:GY DF:=λh=>Yv0 (S56 h) (Ly (i:=49) rfl)
def Ypu(e:Lo):jR Int->Option ((jR Int)⊕ (Bool⊕Unit)):=λd=>match d with
 | (b,c,a)=>bif(decide (a<c))then(e_ (0<=a/\a< (b.size:Int)) (bif(decide (97<=(ig b a)))then(bif(decide ((ig b a)<=122))then(bif(!zZ)then(bif(decide (a=0))then(U (.inr (.inl zj)))else(bif(decide ((ig b a)<48))then(U (.inr (.inl zj)))else(bif(decide (57< (ig b a)))then(U (.inr (.inl zj)))else(U (.inl (b,c,(g_ .i64 (a+1))))))))else(U (.inl (b,c,(g_ .i64 (a+1))))))else(bif(decide (65<=(ig b a)))then(bif(decide ((ig b a)<=90))then(bif(!zZ)then(bif(decide (a=0))then(U (.inr (.inl zj)))else(bif(decide ((ig b a)<48))then(U (.inr (.inl zj)))else(bif(decide (57< (ig b a)))then(U (.inr (.inl zj)))else(U (.inl (b,c,(g_ .i64 (a+1))))))))else(U (.inl (b,c,(g_ .i64 (a+1))))))else(bif(!(decide ((ig b a)=95)))then(bif(decide (a=0))then(U (.inr (.inl zj)))else(bif(decide ((ig b a)<48))then(U (.inr (.inl zj)))else(bif(decide (57< (ig b a)))then(U (.inr (.inl zj)))else(U (.inl (b,c,(g_ .i64 (a+1))))))))else(U (.inl (b,c,(g_ .i64 (a+1)))))))else(bif(!(decide ((ig b a)=95)))then(bif(decide (a=0))then(U (.inr (.inl zj)))else(bif(decide ((ig b a)<48))then(U (.inr (.inl zj)))else(bif(decide (57< (ig b a)))then(U (.inr (.inl zj)))else(U (.inl (b,c,(g_ .i64 (a+1))))))))else(U (.inl (b,c,(g_ .i64 (a+1))))))))else(bif(decide (65<=(ig b a)))then(bif(decide ((ig b a)<=90))then(bif(!zZ)then(bif(decide (a=0))then(U (.inr (.inl zj)))else(bif(decide ((ig b a)<48))then(U (.inr (.inl zj)))else(bif(decide (57< (ig b a)))then(U (.inr (.inl zj)))else(U (.inl (b,c,(g_ .i64 (a+1))))))))else(U (.inl (b,c,(g_ .i64 (a+1))))))else(bif(!(decide ((ig b a)=95)))then(bif(decide (a=0))then(U (.inr (.inl zj)))else(bif(decide ((ig b a)<48))then(U (.inr (.inl zj)))else(bif(decide (57< (ig b a)))then(U (.inr (.inl zj)))else(U (.inl (b,c,(g_ .i64 (a+1))))))))else(U (.inl (b,c,(g_ .i64 (a+1)))))))else(bif(!(decide ((ig b a)=95)))then(bif(decide (a=0))then(U (.inr (.inl zj)))else(bif(decide ((ig b a)<48))then(U (.inr (.inl zj)))else(bif(decide (57< (ig b a)))then(U (.inr (.inl zj)))else(U (.inl (b,c,(g_ .i64 (a+1))))))))else(U (.inl (b,c,(g_ .i64 (a+1)))))))))else(U (.inr (.inr ())))
def Ypv(a:Lo):jR Int->Option (Bool⊕Unit):=a.run (Ypu a)
def Yv1(b:Lo)(a:ByteArray):Option Bool:=
 bif(decide (a=(a_ #[])))then(U zj)else(bif(decide (24< (a.size:Int)))then(U zj)else(bif(decide (a=(a_ #[110,117,108,108])))then(U zj)else(d' (Ypv b (a,(a.size:Int),0)) λc=>iV c (λd=>U d) (λe=>U zZ))))
noncomputable def I6(L:Lo):List hM:=iL 255 zZ kj .b [] (Yv1 L)::DF L
theorem S58:GY I6:=λ{L} h=>
 (S57 h).p (F:=(V 190)) _ (.l (p:=⟨29,[],(ik [0,18,19] [.s,.j,.j] []),[vA,nC],Ypv L⟩) (b:=jf (V 190) 29) .n (Ypu L)) tV
def Ypw(a:Lo)(b c:Int)(d:ByteArray):Option Bool:=
 d' (ye a b c d) λe=>U (!e)
noncomputable def I7(L:Lo):List hM:=iL 294 zZ (ik [0] [nO] []) .b [] (u3 (Ypw L):)::I6 L
theorem S59:GY I7:=λ{L} h=>
 (S58 h).p (F:=(V 229)) _ .n tV
noncomputable abbrev Ypx:kT:=V 270 [] (U [])
def Ypy(d:Lo):(List kz)×Int×Int->Option (((List kz)×Int×Int)⊕ (Int⊕Unit)):=λe=>match e with
 | (b,c,a)=>bif(decide (a<c))then(e_ (0<=a/\a< (b.length:Int)) (d' (Ypw d ((b.getD a.toNat (0,0,(a_ #[]))).1) ((b.getD a.toNat (0,0,(a_ #[]))).2.1) ((b.getD a.toNat (0,0,(a_ #[]))).2.2)) λf=>bif f then(U (.inr (.inl a)))else(U (.inl (b,c,(g_ .i64 (a+1)))))))else(U (.inr (.inr ())))
def Ypz(a:Lo):(List kz)×Int×Int->Option (Int⊕Unit):=a.run (Ypy a)
def YpA(b:Lo)(a:List kz):Option Int:=
 d' (Ypz b (a,(a.length:Int),0)) λc=>iV c (λd=>U d) (λe=>U (-1))
noncomputable def I8(L:Lo):List hM:=iL 309 zj (ik [0,1] [.l iH,.clo 294 []] []) .j [] (YpA L)::I7 L
theorem S60:GY I8:=λ{L} h=>
 (S59 h).i (F:=Ypx) _ (.l (p:=⟨13,[],(ik [0,1,7,8] [.l iH,.clo 294 [],.j,.j] []),[vz,nC],Ypz L⟩) (b:=jf Ypx 13) .n (Ypy L)) tV
def YpB(a:Lo)(b:List kz):Option Bool:=
 d' (YpA a b) λc=>U (decide (0<=c))
noncomputable def I9(L:Lo):List hM:=iL 293 zj (ik [0,1] [.l iH,.clo 294 []] []) .b [] (YpB L)::I8 L
theorem S61:GY I9:=λ{L} h=>
 (S60 h).i (F:=(V 228 [] (U []))) _ .n tV
def Yv2(a:Lo)(b:List kz):Option Bool:=
 d' (YpB a b) λc=>U (!c)
noncomputable def DG(L:Lo):List hM:=iL 257 zZ (ik [0] [.l iH] []) .b [] (Yv2 L)::I9 L
theorem S62:GY DG:=λ{L} h=>
 (S61 h).p (F:=(V 180)) _ .n tV
noncomputable def I'(L:Lo):List hM:=nh L pf (V 123) 230 (ik [0] [nj] []) .j [⟨zZ,253,[],(ik [1,5,43,44,45] [.ptr 0 0 0,.j,.l ln,.j,.j] [oK]),[pF,⟨.exit 2,qn⟩]⟩,⟨zZ,61,[],(ik [1,23,24,25] [.ptr 0 0 0,.l ij,.j,.j] [oK]),[pF,⟨.exit 0,(ik [1] [.ptr 0 0 0] [oK])⟩]⟩] (DG L)::DG L
theorem S63:GY I':=λh=>(S62 h).aP tV ⟨by kernel_rfl,⟨by kernel_rfl,trivial⟩⟩
def YpC(c:Lo)(b:ByteArray)(d:List ByteArray)(e:List (Int× (List kz)))(a:ByteArray):Option (Bool×ByteArray):=
 U ((decide (b=a)),a)
noncomputable def I_(L:Lo):List hM:=iL 560 zj (ik [0,1] [nj,.ptr 0 0 0] [.st [.s]]) .b [.st [.s]] (u4 (YpC L):)::I' L
theorem S64:GY I_:=λ{L} h=>
 (S63 h).i (F:=(V 232 [] (U []))) _ .n tV
noncomputable abbrev YpD:kT:=V 79 [] (U [])
def YpE(f:Lo):vF ByteArray->Option ((vF ByteArray)⊕ ((Int×ByteArray)⊕ByteArray)):=λg=>match g with
 | (b,d,a,e)=>bif(decide (a<d))then(e_ (0<=a/\a< (b.length:Int)) (d' (YpC f ((b.getD a.toNat ((a_ #[]),[],[])).1) ((b.getD a.toNat ((a_ #[]),[],[])).2.1) ((b.getD a.toNat ((a_ #[]),[],[])).2.2) e) λc=>bif c.1 then(U (.inr (.inl (a,c.2))))else(U (.inl (b,d,(g_ .i64 (a+1)),c.2)))))else(U (.inr (.inr e)))
def YpF(a:Lo):vF ByteArray->Option ((Int×ByteArray)⊕ByteArray):=a.run (YpE a)
def Yv3(b:Lo)(S:List C9)(h0:ByteArray):Option (Int×ByteArray):=
 d' (YpF b (S,(S.length:Int),0,h0)) λc=>iV c (λa=>U (a.1,a.2)) (λd=>U ((-1),d))
noncomputable def DH(L:Lo):List hM:=iL 559 zj (ik [0,1] [.l jM,.clo 560 [.ptr 0 0 0]] [.st [.s]]) .j [.st [.s]] (u2 (Yv3 L):)::I_ L
theorem S65:GY DH:=λ{L} h=>
 (S64 h).i (F:=YpD) _ (.l (p:=⟨13,[],(ik [0,1,7,8] [.l jM,.clo 560 [.ptr 0 0 0],.j,.j] [.st [.s]]),[⟨.ret,(ik [4] [.j] [.st [.s]])⟩,⟨.exit 0,(ik [] [] [.st [.s]])⟩],YpF L⟩) (b:=jf YpD 13) .n (YpE L)) tV
noncomputable def DI(L:Lo):List hM:=nh L pf (V 187) 552 (ik [0,1] [.l jM,.s] []) .j [] (DH L)::DH L
theorem S66:GY DI:=λh=>(S65 h).aP tV trivial
noncomputable def Ja(L:Lo):List hM:=nh L pf (V 121) 535 (ik [0] [.ag [.l jM]] []) .j [⟨zZ,29,[],(ik [1,11,12,13] [.ptr 0 0 0,.l jM,.j,.j] [.st [.l jM]]),[pF,nC]⟩] (DI L)::DI L
theorem S67:GY Ja:=λh=>(S66 h).aP tV ⟨by kernel_rfl,trivial⟩
noncomputable def DJ(L:Lo):List hM:=Ja L
theorem S68:GY DJ:=S67
noncomputable def DK(L:Lo):List hM:=nW L pf (V 205 [] (U [])) 442 (ik [0,1] [.l (cs [I]),.clo 561 [.ptr 0 0 0]] [.st [.j]]) .j [.st [.j]] [⟨zZ,13,[],(ik [0,1,7,8] [.l (cs [I]),.clo 561 [.ptr 0 0 0],.j,.j] [.st [.j]]),[⟨.ret,(ik [4] [.j] [.st [.j]])⟩,⟨.exit 0,(ik [] [] [.st [.j]])⟩]⟩] (DJ L)::DJ L
theorem S69:GY DK:=λh=>(S68 h).aI tV ⟨by kernel_rfl,trivial⟩
noncomputable def DL(L:Lo):List hM:=nW L pf (V 139 [] (U [])) 426 (ik [0,1] [.l (cs [I]),.clo 561 [.ptr 0 0 0]] [.st [.j]]) .b [.st [.j]] [] (DK L)::DK L
theorem S70:GY DL:=λh=>(S69 h).aI tV trivial
noncomputable def Jb(L:Lo):List hM:=nh L pf (V 188) 553 (ik [0,1] [.l (cs [I]),.j] []) .b [] (DL L)::DL L
theorem S71:GY Jb:=λh=>(S70 h).aP tV trivial
noncomputable def Jc(L:Lo):List hM:=Jb L
theorem S72:GY Jc:=S71
noncomputable def DM(L:Lo):List hM:=Jc L
theorem S73:GY DM:=S72
noncomputable def DN(L:Lo):List hM:=nh L pf (V 189) 554 (ik [0] [.l (cs [I])] []) .b [⟨zZ,13,[],(ik [0,5,6,7] [.l (cs [I]),.l (cs [I]),.j,.j] []),[vA,nC]⟩] (DM L)::DM L
theorem S74:GY DN:=λh=>(S73 h).aP tV ⟨by kernel_rfl,trivial⟩
noncomputable def DO(L:Lo):List hM:=nh L pf (V 122) 536 (ik [0,1] [.ag [.l jM],.ag [.s,.l (cs [I]),.s,.l (cs [I])]] []) .j [] (DN L)::DN L
theorem S75:GY DO:=λh=>(S74 h).aP tV trivial
noncomputable def DP(L:Lo):List hM:=nh L pf (V 55) 500 (ik [0,1] [.ag [.l jM],.ag [.s,.l (cs [I]),.s,.l (cs [I])]] []) .j [] (DO L)::DO L
theorem S76:GY DP:=λh=>(S75 h).aP tV trivial
noncomputable def Jd(L:Lo):List hM:=nh L pf (V 18) 680 (ik [0] [.ag [.l jM]] []) .j [] (DP L)::DP L
theorem S77:GY Jd:=λh=>(S76 h).aP tV trivial
def YpG(c:Lo)(b:ByteArray)(d:List ByteArray)(e:List (Int× (List kz)))(a:ByteArray):Option (Bool×ByteArray):=
 U ((decide (b=a)),a)
noncomputable def Je(L:Lo):List hM:=iL 706 zj (ik [0,1] [nj,.ptr 0 0 0] [.st [.s]]) .b [.st [.s]] (u4 (YpG L):)::Jd L
theorem S78:GY Je:=λ{L} h=>
 (S77 h).i (F:=(V 80 [] (U []))) _ .n tV
noncomputable abbrev YpH:kT:=V 79 [] (U [])
def YpI(f:Lo):vF ByteArray->Option ((vF ByteArray)⊕ ((Int×ByteArray)⊕ByteArray)):=λg=>match g with
 | (b,d,a,e)=>bif(decide (a<d))then(e_ (0<=a/\a< (b.length:Int)) (d' (YpG f ((b.getD a.toNat ((a_ #[]),[],[])).1) ((b.getD a.toNat ((a_ #[]),[],[])).2.1) ((b.getD a.toNat ((a_ #[]),[],[])).2.2) e) λc=>bif c.1 then(U (.inr (.inl (a,c.2))))else(U (.inl (b,d,(g_ .i64 (a+1)),c.2)))))else(U (.inr (.inr e)))
def YpJ(a:Lo):vF ByteArray->Option ((Int×ByteArray)⊕ByteArray):=a.run (YpI a)
def Yv4(b:Lo)(S:List C9)(h0:ByteArray):Option (Int×ByteArray):=
 d' (YpJ b (S,(S.length:Int),0,h0)) λc=>iV c (λa=>U (a.1,a.2)) (λd=>U ((-1),d))
noncomputable def DQ(L:Lo):List hM:=iL 559 zj (ik [0,1] [.l jM,.clo 706 [.ptr 0 0 0]] [.st [.s]]) .j [.st [.s]] (u2 (Yv4 L):)::Je L
theorem S79:GY DQ:=λ{L} h=>
 (S78 h).i (F:=YpH) _ (.l (p:=⟨13,[],(ik [0,1,7,8] [.l jM,.clo 706 [.ptr 0 0 0],.j,.j] [.st [.s]]),[⟨.ret,(ik [4] [.j] [.st [.s]])⟩,⟨.exit 0,(ik [] [] [.st [.s]])⟩],YpJ L⟩) (b:=jf YpH 13) .n (YpI L)) tV
noncomputable def DR(L:Lo):List hM:=nh L pf (V 31) 661 (ik [0,1] [.l jM,.s] []) .j [] (DQ L)::DQ L
theorem S80:GY DR:=λh=>(S79 h).aP tV trivial
noncomputable def DS(L:Lo):List hM:=nW L pf (V 227 [] (U [])) 278 (ik [0,1] [qo,.ptr 0 0 0] [.st [.j]]) .b [.st [.j]] [] (DR L)::DR L
theorem S81:GY DS:=λh=>(S80 h).aI tV trivial
noncomputable def DT(L:Lo):List hM:=nW L pf (V 226 [] (U [])) 277 (ik [0,1] [.l ln,.clo 278 [.ptr 0 0 0]] [.st [.j]]) .j [.st [.j]] [⟨zZ,13,[],(ik [0,1,7,8] [.l ln,.clo 278 [.ptr 0 0 0],.j,.j] [.st [.j]]),[⟨.ret,(ik [4] [.j] [.st [.j]])⟩,⟨.exit 0,(ik [] [] [.st [.j]])⟩]⟩] (DS L)::DS L
theorem S82:GY DT:=λh=>(S81 h).aI tV ⟨by kernel_rfl,trivial⟩
noncomputable def DV(L:Lo):List hM:=nh L pf (V 179) 242 (ik [0,1] [nj,.j] []) (.tp [.j,.b]) [] (DT L)::DT L
theorem S83:GY DV:=λh=>(S82 h).aP tV trivial
def Yv5(L:Lo):hM:=mi 269 ij
noncomputable def zP(L:Lo):List hM:=Yv5 L::DV L
theorem Yv6{P:Program}{fm:FM}{L:Lo}(h:GZ P fm DV L)(H: ∀f,fm f=269->lk P fm pf f=U (8,[.t 2],vf 1 [(.string (⟨#[]⟩))])):GZ P fm zP L:=
 ⟨h.1,h.2,YuO h.S h.mx ij rfl [(.string (⟨#[]⟩))] 8 (by decide) H⟩
theorem S84:GY zP:=λh=>Yv6 (S83 h) (Ly (i:=22) rfl)
def Yv7(L:Lo):hM:=mO 308 iH
noncomputable def zQ(L:Lo):List hM:=Yv7 L::zP L
theorem Yv8{P:Program}{fm:FM}{L:Lo}(h:GZ P fm zP L)(H: ∀f,fm f=308->lk P fm pf f=U (8,[.t 2],vf 3 [(.int .i64 0),(.int .i64 0),(.string (⟨#[]⟩))])):GZ P fm zQ L:=
 ⟨h.1,h.2,YuN h.S h.mx iH rfl [(.int .i64 0),(.int .i64 0),(.string (⟨#[]⟩))] 8 (by decide) H⟩
theorem S85:GY zQ:=λh=>Yv8 (S84 h) (Ly (i:=23) rfl)
noncomputable def DW(L:Lo):List hM:=nh L pf (V 185) 289 (ik [0] [qo] []) (qo) [] (zQ L)::zQ L
theorem S86:GY DW:=λh=>(S85 h).aP tV trivial
noncomputable def DX(L:Lo):List hM:=nW L pf (V 181 [] (U [])) 280 (ik [0,1] [nj,.l ln] []) (.ag [.s,.ref 0,.ref 1]) [.sq ij,.sq ln] [⟨zZ,29,[(4,U 2,zj),(5,U 2,zj)],(ik [4,5,14,15,16] [.ptr 0 0 0,.ptr 1 0 0,.l ln,.j,.j] [.st [.s,.l ij,.ref 2],.st [.s,.ref 3,.ref 4],.sq ln,.sq ij,.sq ln]),[⟨.exit 0,(ik [4,5] [.ptr 0 0 0,.ptr 1 0 0] [.st [.s,.l ij,.ref 2],.st [.s,.ref 3,.ref 4],.sq ln,.sq ij,.sq ln])⟩]⟩] (DW L)::DW L
theorem S87:GY DX:=λh=>(S86 h).aI tV ⟨by kernel_rfl,trivial⟩
noncomputable def DY(L:Lo):List hM:=nh L pf (V 183) 287 (ik [0,1] [qo,.j] []) .j [] (DX L)::DX L
theorem S88:GY DY:=λh=>(S87 h).aP tV trivial
noncomputable def DZ(L:Lo):List hM:=nW L pf (V 182 [] (U [])) 286 (ik [0,1,2] [.ref 0,.j,.clo 287 []] [.sq ln,.st [.s,.ref 2,.ref 0],.sq ij]) (.tp [.j,.b]) [.sq ln,.st [.s,.ref 2,.ref 0],.sq ij] [⟨zZ,30,[],(ik [0,1,2,8,9,10] [.ref 0,.j,.clo 287 [],.j,.j,.j] [.sq ln,.st [.s,.ref 2,.ref 0],.sq ij]),[⟨.exit 0,(ik [0,1,2,8,9] [.ref 0,.j,.clo 287 [],.j,.j] [.sq ln,.st [.s,.ref 2,.ref 0],.sq ij])⟩]⟩] (DY L)::DY L
theorem S89:GY DZ:=λh=>(S88 h).aI tV ⟨by kernel_rfl,trivial⟩
def Yv9(L:Lo):hM:=om 288 ln ij
noncomputable def zR(L:Lo):List hM:=Yv9 L::DZ L
end Go.Abs.iA
namespace Go.Abs.iA
open Go Go.Abs Go.Proofs
set_option maxRecDepth 100000
set_option maxHeartbeats 4000000
set_option synthInstance.maxSize 100000
set_option synthInstance.maxHeartbeats 1000000
theorem Ywa{P:Program}{fm:FM}{L:Lo}(h:GZ P fm DZ L)(G: ∀f,fm f=288->kB P f=zZ/\ ∃(ρ:Go.Shelf.Ren) (z:List Value),ry P ρ z/\z.length=2/\ρ.f 22=f):GZ P fm zR L:=
 ⟨h.1,h.2,Yvp h.S ln ij rfl G⟩
theorem S90:GY zR:=λh=>Ywa (S89 h) (H7)
noncomputable def D0(L:Lo):List hM:=nh L pf (V 115) 252 (ik [0,1] [nj,qo] []) (.tp [nj,.j]) [] (zR L)::zR L
theorem S91:GY D0:=λh=>(S90 h).aP tV trivial
noncomputable def D1(L:Lo):List hM:=nW L pf (V 50 [] (U [.o [(0,U 4,zj),(0,U 3,zj),(0,U 1,zj),(0,U 0,zj),(0,U 2,zj)]])) 722 De .j [.st [.ref 1,.ref 2,.ref 3,.ref 4,.ref 5],.sq jM,.sq jE,.sq mW,.sq jQ,.sq ni] [] (D0 L)::D0 L
theorem S92:GY D1:=λh=>(S91 h).aI tV trivial
noncomputable def D2(L:Lo):List hM:=nW L pf (V 57 [] (U [])) 758 (ik [0,1] [.ptr 0 0 0,.s] [sH,.sq jM,sF,.sq jE,.sq mW,.sq jQ,.sq ni]) (nj) [sH,.sq jM,sF,.sq jE,.sq mW,.sq jQ,.sq ni] [] (D1 L)::D1 L
theorem S93:GY D2:=λh=>(S92 h).aI tV trivial
noncomputable def D3(L:Lo):List hM:=nW L pf (V 60 [] (U [])) 761 (ik [0,1,2] [.ptr 0 0 0,nj,.s] [sH,.sq jM,sF,.sq jE,.sq mW,.sq jQ,.sq ni]) .j [sH,.sq jM,sF,.sq jE,.sq mW,.sq jQ,.sq ni] [] (D2 L)::D2 L
theorem S94:GY D3:=λh=>(S93 h).aI tV trivial
noncomputable def D4(L:Lo):List hM:=nW L pf (V 59 [] (U [.f [6]])) 760 (ik [0,1,2] [.ptr 0 0 0,nj,.l ij] [sH,.sq jM,sF,.sq jE,.sq mW,.sq jQ,.sq ni]) (.l (cs [I])) [sH,.sq jM,sF,.sq jE,.sq mW,.sq jQ,.sq ni] [⟨zZ,29,[(7,zz,zj)],(ik [0,4,7,10,11,12] [.ptr 0 0 0,.ptr 7 0 0,.ref 8,.l ij,.j,.j] [sH,.sq jM,sF,.sq jE,.sq mW,.sq jQ,.sq ni,oK,.sq (cs [I])]),[⟨.exit 0,(ik [0,7] [.ptr 0 0 0,.ref 7] [sH,.sq jM,sF,.sq jE,.sq mW,.sq jQ,.sq ni,.sq (cs [I])])⟩]⟩] (D3 L)::D3 L
theorem S95:GY D4:=λh=>(S94 h).aI tV ⟨by kernel_rfl,trivial⟩
noncomputable def Jf(L:Lo):List hM:=nh L pf (V 62) 763 (ik [0] [.l ij] []) .b [⟨zZ,13,[],(ik [0,5,6,7] [.l ij,.l ij,.j,.j] []),[vA,nC]⟩] (D4 L)::D4 L
theorem S96:GY Jf:=λh=>(S95 h).aP tV ⟨by kernel_rfl,trivial⟩
noncomputable def D5(L:Lo):List hM:=Jf L
theorem S97:GY D5:=S96
noncomputable def D6(L:Lo):List hM:=nW L pf (V 186 [] (U [])) 797 HV .j [.sq jE,wv,vv,.sq jM,.sq mW,.sq jQ,.sq ni,.st [.ref 3,.b]] [⟨zZ,13,[],(ik [0,1,7,8] [.ref 0,.clo 784 [.ptr 1 0 0],.j,.j] [.sq jE,wv,vv,.sq jM,.sq mW,.sq jQ,.sq ni,.st [.ref 3,.b]]),[⟨.ret,(ik [4] [.j] [.sq jE,wv,vv,.sq jM,.sq mW,.sq jQ,.sq ni,.st [.ref 3,.b]])⟩,⟨.exit 0,(ik [] [] [.sq jE,wv,vv,.sq jM,.sq mW,.sq jQ,.sq ni,.st [.ref 3,.b]])⟩]⟩] (D5 L)::D5 L
theorem S98:GY D6:=λh=>(S97 h).aI tV ⟨by kernel_rfl,trivial⟩
noncomputable def D7(L:Lo):List hM:=nW L pf (V 116 [] (U [])) 742 HV .b [.sq jE,wv,vv,.sq jM,.sq mW,.sq jQ,.sq ni,.st [.ref 3,.b]] [] (D6 L)::D6 L
theorem S99:GY D7:=λh=>(S98 h).aI tV trivial
noncomputable def Qy(L:Lo):List hM:=nh L pf (V 58) 759 (ik [0] [.l (cs [I])] []) (.i .u32) [⟨zZ,29,[],(ik [3,6,7,8] [.i .u32,.l (cs [I]),.j,.j] []),[⟨.exit 0,(ik [3] [.i .u32] [])⟩]⟩] (D7 L)::D7 L
theorem Qz:GY Qy:=λh=>(S99 h).aP tV ⟨by kernel_rfl,trivial⟩
noncomputable def YCF(L:Lo):List hM:=nW L pf (V 51 [] (U [.o [(1000002,zz,zZ),(0,U 4,zj),(0,U 3,zj),(0,U 1,zj),(0,U 0,zj),(0,U 2,zj)]])) 723 De .j [.st [.ref 1,.ref 6,.ref 3,.ref 4,.ref 5],.sq jM,.dd,.sq mW,.sq jQ,.sq ni,.sq jE] [] (Qy L)::Qy L
theorem QA:GY YCF:=λh=>(Qz h).aI tV trivial
noncomputable def YCG(L:Lo):List hM:=YCF L
theorem QB:GY YCG:=QA
noncomputable def YCH(L:Lo):List hM:=YCG L
theorem QC:GY YCH:=QB
noncomputable def YCI(L:Lo):List hM:=YCH L
theorem QD:GY YCI:=QC
noncomputable def YCJ(L:Lo):List hM:=YCI L
theorem QE:GY YCJ:=QD
noncomputable def YCK(L:Lo):List hM:=YCJ L
theorem QG:GY YCK:=QE
noncomputable def YCL(L:Lo):List hM:=YCK L
theorem QH:GY YCL:=QG
noncomputable def YCM(L:Lo):List hM:=YCL L
theorem QI:GY YCM:=QH
noncomputable def YCN(L:Lo):List hM:=YCM L
theorem QJ:GY YCN:=QI
noncomputable def YCO(L:Lo):List hM:=YCN L
theorem QK:GY YCO:=QJ
noncomputable def YCP(L:Lo):List hM:=YCO L
theorem QL:GY YCP:=QK
noncomputable def YCQ(L:Lo):List hM:=YCP L
theorem QM:GY YCQ:=QL
noncomputable def YCR(L:Lo):List hM:=YCQ L
theorem QN:GY YCR:=QM
noncomputable def YCS(L:Lo):List hM:=YCR L
theorem QO:GY YCS:=QN
noncomputable def YCT(L:Lo):List hM:=YCS L
theorem QP:GY YCT:=QO
noncomputable def YCU(L:Lo):List hM:=YCT L
theorem QQ:GY YCU:=QP
noncomputable def YCV(L:Lo):List hM:=YCU L
theorem QR:GY YCV:=QQ
noncomputable def YCW(L:Lo):List hM:=YCV L
theorem QS:GY YCW:=QR
noncomputable def YCX(L:Lo):List hM:=YCW L
theorem QU:GY YCX:=QS
noncomputable def YCY(L:Lo):List hM:=YCX L
theorem QV:GY YCY:=QU
noncomputable def YCZ(L:Lo):List hM:=YCY L
theorem QW:GY YCZ:=QV
noncomputable def YC0(L:Lo):List hM:=YCZ L
theorem QX:GY YC0:=QW
noncomputable def YC1(L:Lo):List hM:=YC0 L
theorem QY:GY YC1:=QX
noncomputable def YC2(L:Lo):List hM:=YC1 L
theorem QZ:GY YC2:=QY
noncomputable def YC3(L:Lo):List hM:=YC2 L
theorem Q0:GY YC3:=QZ
noncomputable def YC4(L:Lo):List hM:=YC3 L
theorem Q1:GY YC4:=Q0
noncomputable def YC5(L:Lo):List hM:=YC4 L
theorem Q2:GY YC5:=Q1
noncomputable def YC6(L:Lo):List hM:=YC5 L
theorem Q3:GY YC6:=Q2
noncomputable def YC7(L:Lo):List hM:=YC6 L
theorem Q4:GY YC7:=Q3
noncomputable def YC8(L:Lo):List hM:=YC7 L
theorem Q5:GY YC8:=Q4
noncomputable def YC9(L:Lo):List hM:=YC8 L
theorem Q6:GY YC9:=Q5
noncomputable def YDa(L:Lo):List hM:=YC9 L
theorem Q7:GY YDa:=Q6
noncomputable def YDb(L:Lo):List hM:=YDa L
theorem Q8:GY YDb:=Q7
noncomputable def YDc(L:Lo):List hM:=YDb L
theorem Q9:GY YDc:=Q8
noncomputable def YDd(L:Lo):List hM:=YDc L
theorem Q_:GY YDd:=Q9
noncomputable def YDe(L:Lo):List hM:=YDd L
theorem Ra:GY YDe:=Q_
noncomputable def YDf(L:Lo):List hM:=YDe L
theorem Rb:GY YDf:=Ra
noncomputable def YDg(L:Lo):List hM:=YDf L
theorem Rc:GY YDg:=Rb
noncomputable def YDh(L:Lo):List hM:=YDg L
theorem Re:GY YDh:=Rc
noncomputable def YDi(L:Lo):List hM:=YDh L
theorem Rf:GY YDi:=Re
noncomputable def YDj(L:Lo):List hM:=YDi L
theorem Rg:GY YDj:=Rf
noncomputable def YDk(L:Lo):List hM:=YDj L
theorem Rh:GY YDk:=Rg
noncomputable def YDl(L:Lo):List hM:=YDk L
theorem Ri:GY YDl:=Rh
noncomputable def YDm(L:Lo):List hM:=YDl L
theorem Rj:GY YDm:=Ri
noncomputable def YDn(L:Lo):List hM:=YDm L
theorem Rk:GY YDn:=Rj
noncomputable def YDo(L:Lo):List hM:=YDn L
theorem Rl:GY YDo:=Rk
noncomputable def YDp(L:Lo):List hM:=YDo L
theorem Rm:GY YDp:=Rl
noncomputable def YDq(L:Lo):List hM:=YDp L
theorem Rn:GY YDq:=Rm
noncomputable def YDr(L:Lo):List hM:=YDq L
theorem Ro:GY YDr:=Rn
noncomputable def YDs(L:Lo):List hM:=YDr L
theorem Rp:GY YDs:=Ro
noncomputable def YDt(L:Lo):List hM:=YDs L
theorem Rq:GY YDt:=Rp
noncomputable def YDu(L:Lo):List hM:=YDt L
theorem Rr:GY YDu:=Rq
noncomputable def YDv(L:Lo):List hM:=YDu L
theorem Rs:GY YDv:=Rr
noncomputable def YDw(L:Lo):List hM:=YDv L
theorem Rt:GY YDw:=Rs
noncomputable def YDx(L:Lo):List hM:=YDw L
theorem Ru:GY YDx:=Rt
noncomputable def YDy(L:Lo):List hM:=YDx L
theorem Rv:GY YDy:=Ru
noncomputable def YDz(L:Lo):List hM:=YDy L
theorem Rw:GY YDz:=Rv
noncomputable def YDA(L:Lo):List hM:=YDz L
theorem Rx:GY YDA:=Rw
noncomputable def YDB(L:Lo):List hM:=YDA L
theorem Ry:GY YDB:=Rx
noncomputable def YDC(L:Lo):List hM:=YDB L
theorem Rz:GY YDC:=Ry
noncomputable def YDD(L:Lo):List hM:=YDC L
theorem RA:GY YDD:=Rz
noncomputable def YDE(L:Lo):List hM:=YDD L
theorem RB:GY YDE:=RA
noncomputable def YDF(L:Lo):List hM:=YDE L
theorem RC:GY YDF:=RB
noncomputable def YDG(L:Lo):List hM:=YDF L
theorem RD:GY YDG:=RC
noncomputable def YDH(L:Lo):List hM:=YDG L
theorem RE:GY YDH:=RD
noncomputable def YDI(L:Lo):List hM:=YDH L
theorem RF:GY YDI:=RE
noncomputable def YDJ(L:Lo):List hM:=YDI L
theorem RG:GY YDJ:=RF
noncomputable def YDK(L:Lo):List hM:=YDJ L
theorem RH:GY YDK:=RG
noncomputable def YDL(L:Lo):List hM:=YDK L
theorem RJ:GY YDL:=RH
noncomputable def YDM(L:Lo):List hM:=YDL L
theorem RL:GY YDM:=RJ
noncomputable def YDN(L:Lo):List hM:=YDM L
theorem RM:GY YDN:=RL
noncomputable def YDO(L:Lo):List hM:=YDN L
theorem RN:GY YDO:=RM
noncomputable def YDP(L:Lo):List hM:=YDO L
theorem RO:GY YDP:=RN
noncomputable def YDQ(L:Lo):List hM:=YDP L
theorem RP:GY YDQ:=RO
noncomputable def YDR(L:Lo):List hM:=YDQ L
theorem RQ:GY YDR:=RP
noncomputable def YDS(L:Lo):List hM:=YDR L
theorem RT:GY YDS:=RQ
noncomputable def YDT(L:Lo):List hM:=YDS L
theorem RU:GY YDT:=RT
noncomputable def YDU(L:Lo):List hM:=YDT L
theorem RW:GY YDU:=RU
noncomputable def YDV(L:Lo):List hM:=YDU L
theorem RX:GY YDV:=RW
noncomputable def YDW(L:Lo):List hM:=YDV L
theorem RY:GY YDW:=RX
noncomputable def YDX(L:Lo):List hM:=YDW L
theorem RZ:GY YDX:=RY
noncomputable def YDY(L:Lo):List hM:=YDX L
theorem R0:GY YDY:=RZ
noncomputable def R3(L:Lo):List hM:=YDY L
theorem R4:GY R3:=R0
noncomputable def R5(L:Lo):List hM:=nW L pf (V 79 [] (U [])) 559 (ik [0,1] [.l jM,.clo 798 [.ptr 0 0 0]] [.st [.s]]) .j [.st [.s]] [⟨zZ,13,[],(ik [0,1,7,8] [.l jM,.clo 798 [.ptr 0 0 0],.j,.j] [.st [.s]]),[⟨.ret,(ik [4] [.j] [.st [.s]])⟩,⟨.exit 0,(ik [] [] [.st [.s]])⟩]⟩] (R3 L)::R3 L
theorem R6:GY R5:=λh=>(R4 h).aI tV ⟨by kernel_rfl,trivial⟩
noncomputable def R7(L:Lo):List hM:=nh L pf (V 65) 745 (ik [0,1] [.ag [.l jM],.s] []) (.tp [nj,.b]) [] (R5 L)::R5 L
theorem R8:GY R7:=λh=>(R6 h).aP tV trivial
noncomputable def YDZ(L:Lo):List hM:=nh L pf (V 63) 744 (ik [0] [.ag [.l jM]] []) .j [⟨zZ,29,[],(ik [1,13,14,15] [.ptr 0 0 0,.l jM,.j,.j] [.st [.l jM]]),[pF,nC]⟩] (R7 L)::R7 L
theorem R9:GY YDZ:=λh=>(R8 h).aP tV ⟨by kernel_rfl,trivial⟩
noncomputable def YD0(L:Lo):List hM:=YDZ L
theorem R_:GY YD0:=R9
noncomputable def YD1(L:Lo):List hM:=YD0 L
theorem Sa:GY YD1:=R_
noncomputable def YD2(L:Lo):List hM:=YD1 L
theorem Sb:GY YD2:=Sa
noncomputable def YD3(L:Lo):List hM:=YD2 L
theorem Sc:GY YD3:=Sb
noncomputable def YD4(L:Lo):List hM:=YD3 L
theorem Sd:GY YD4:=Sc
noncomputable def YD5(L:Lo):List hM:=YD4 L
theorem Se:GY YD5:=Sd
noncomputable def YD6(L:Lo):List hM:=YD5 L
theorem Sf:GY YD6:=Se
noncomputable def YD7(L:Lo):List hM:=YD6 L
theorem Si:GY YD7:=Sf
noncomputable def YD8(L:Lo):List hM:=YD7 L
theorem Sj:GY YD8:=Si
noncomputable def YD9(L:Lo):List hM:=YD8 L
theorem Sk:GY YD9:=Sj
noncomputable def YEa(L:Lo):List hM:=YD9 L
theorem Sl:GY YEa:=Sk
noncomputable def YEb(L:Lo):List hM:=YEa L
theorem Sm:GY YEb:=Sl
noncomputable def YEc(L:Lo):List hM:=YEb L
theorem Sn:GY YEc:=Sm
noncomputable def YEd(L:Lo):List hM:=YEc L
theorem Sp:GY YEd:=Sn
noncomputable def Sq(L:Lo):List hM:=YEd L
theorem Sr:GY Sq:=Sp
noncomputable def Ss(L:Lo):List hM:=nh L pf (V 21) 682 (ik [0,1] [.ag [.l jM],.l mW] []) (.tp [.j,.j]) [⟨zZ,61,[],(ik [2,7,19,20,21] [.ptr 0 0 0,.np 1,.l mW,.j,.j] [.st [.l jM],.st [.j,.l (cs [I,.s,.b]),.b]]),[⟨.ret,(ik [4,5] [.j,.j] [])⟩,nC]⟩] (Sq L)::Sq L
theorem St:GY Ss:=λh=>(Sr h).aP tV ⟨by kernel_rfl,trivial⟩
noncomputable def Su(L:Lo):List hM:=nW L pf (V 17 [(15,[.j 0])] (U [.o [(1000001,zz,zZ),(1000002,zz,zZ),(1000004,zz,zZ),(1000005,zz,zZ),(1000003,zz,zZ),(0,U 4,zj),(0,U 3,zj),(0,U 1,zj),(0,U 0,zj),(0,U 2,zj)]])) 675 De .j [.st [.ref 6,.ref 7,.ref 8,.ref 9,.ref 10],.dd,.dd,.dd,.dd,.dd,.sq jM,.sq jE,.sq mW,.sq jQ,.sq ni] [⟨zj,0,[(1000003,zz,zZ),(0,U 0,zj),(0,U 1,zj),(0,U 2,zj),(0,U 3,zj),(0,U 4,zj)],(ik [0,7,8] [.ptr 0 0 0,.ptr 6 0 0,.j] [.st [.ref 1,.ref 2,.ref 7,.ref 4,.ref 5],.sq jM,.sq jE,.dd,.sq jQ,.sq ni,HS,.sq mW]),[⟨.ret,(ik [4,0] [.j,.ptr 0 0 0] [.st [.ref 6,.ref 7,.ref 8,.ref 9,.ref 10],.dd,.dd,.dd,.dd,.dd,.sq jM,.sq jE,.sq mW,.sq jQ,.sq ni])⟩]⟩] (Ss L)::Ss L
theorem Sv:GY Su:=λh=>(St h).aI tV ⟨by kernel_rfl,trivial⟩
noncomputable def Sw(L:Lo):List hM:=nh L pf (V 8) 635 kj (.tp [.ag [.l jM,.l jE,.l mW,.l jQ,.l ni],.j,.j]) [⟨zZ,125,[(2,U 0,zj),(2,U 1,zj),(2,U 2,zj),(2,U 3,zj),(2,U 4,zj),(8,U 0,zj),(8,U 1,zj),(8,U 2,zj),(8,U 3,zj),(8,U 4,zj)],(ik [2,8,24,25,26] [.ptr 0 0 0,.ptr 1 0 0,.l ot,.j,.j] [.st [.ref 2,.ref 3,.ref 4,.ref 5,.ref 6],.st [.ref 7,.ref 8,.ref 9,.ref 10,.ref 11],.sq jM,.sq jE,.sq mW,.sq jQ,.sq ni,.sq jM,.sq jE,.sq mW,.sq jQ,.sq ni]),[⟨.ret,(ik [2,3,4] [.ptr 0 0 0,.j,.j] [oJ])⟩,⟨.exit 0,(ik [2,8] [.ptr 0 0 0,.ptr 1 0 0] [.st [.ref 2,.ref 3,.ref 4,.ref 5,.ref 6],.st [.ref 7,.ref 8,.ref 9,.ref 10,.ref 11],.sq jM,.sq jE,.sq mW,.sq jQ,.sq ni,.sq jM,.sq jE,.sq mW,.sq jQ,.sq ni])⟩]⟩] (Su L)::Su L
theorem Sx:GY Sw:=λh=>(Sv h).aP tV ⟨by kernel_rfl,trivial⟩
noncomputable def YEe(L:Lo):List hM:=nW L pf (V 10 [(3767,[.f [6,2000006]])] (U [.f [2]])) 642 zA (.ag [.l jM]) [] [⟨zZ,29,[(2,U 0,zj),(3,U 0,zj)],(ik [2,3,10,11,12] [.ptr 0 0 0,.ptr 1 0 0,.l jM,.j,.j] [.st [.ref 2],.st [.ref 3],.sq jM,.sq jM]),[⟨.exit 0,(ik [2,3] [.ptr 0 0 0,.ptr 1 0 0] [.st [.ref 2],.st [.ref 3],.sq jM,.sq jM])⟩]⟩,⟨zZ,7533,[(2,U 0,zj),(3,U 0,zj),(6,U 2,zj)],(ik [2,3,6,10,11,12,23,24,25] [.ptr 0 0 0,.ptr 1 0 0,.ptr 2 0 0,.l jM,.j,.j,.l ln,.j,.j] [.st [.ref 3],.st [.ref 4],.st [.s,.ref 5,.ref 6],.sq jM,.sq jM,.sq ij,.sq ln]),[⟨.exit 2,(ik [2,3,6,10,11,12] [.ptr 0 0 0,.ptr 1 0 0,.ptr 2 0 0,.l jM,.j,.j] [.st [.ref 3],.st [.ref 4],.st [.s,.ref 5,.ref 6],.sq jM,.sq jM,.sq ij,.sq ln])⟩]⟩] (Sw L)::Sw L
theorem Sy:GY YEe:=λh=>(Sx h).aI tV ⟨by kernel_rfl,⟨by kernel_rfl,trivial⟩⟩
def Sz(b:Lo)(d:ByteArray):Option (zD ((List Int)×Int)):=
 d' (L7 b d) λ(a,_,c)=>bif(!decide (c=0))then(U ((a_ #[]),(a_ #[]),(a_ #[]),(a_ #[]),[],[],0,[],[],0,[],[],[],[],[],c))else(bif(!decide ((a.length:Int)=1))then(U ((a_ #[]),(a_ #[]),(a_ #[]),(a_ #[]),[],[],0,[],[],0,[],[],[],[],[],2))else(e_ (0<=(0:Int)/\0< (a.length:Int)) (d' (zO b (a.getD 0 [])) λ(e,f,g,h,i,j,k,m,n,o,p,q,r,s,t,u)=>U (e,f,g,h,i,j,k,m,n,o,p,q,r,s,t,u))))
noncomputable def SA(L:Lo):List hM:=iL 696 zZ kj (.tp [zu,.j]) [] (Sz L)::YEe L
theorem SB:GY SA:=λ{L} h=>
 (Sy h).p (F:=(V 12)) _ .n tV
noncomputable def SC(L:Lo):List hM:=nW L pf (V 57 [] (U [])) 758 (ik [0,1] [.ptr 0 0 0,.s] [oI]) (nj) [oI] [] (SA L)::SA L
theorem SD:GY SC:=λh=>(SB h).aI tV trivial
noncomputable def SE(L:Lo):List hM:=nW L pf (V 60 [] (U [])) 761 (ik [0,1,2] [.ptr 0 0 0,nj,.s] [oI]) .j [oI] [] (SC L)::SC L
theorem SF:GY SE:=λh=>(SD h).aI tV trivial
noncomputable def YEf(L:Lo):List hM:=nW L pf (V 59 [] (U [.f [6]])) 760 (ik [0,1,2] [.ptr 0 0 0,nj,.l ij] [oI]) (.l (cs [I])) [oI] [⟨zZ,29,[(7,zz,zj)],(ik [0,4,7,10,11,12] [.ptr 0 0 0,.ptr 1 0 0,.ref 2,.l ij,.j,.j] [oI,oK,.sq (cs [I])]),[⟨.exit 0,(ik [0,7] [.ptr 0 0 0,.ref 1] [oI,.sq (cs [I])])⟩]⟩] (SE L)::SE L
theorem SG:GY YEf:=λh=>(SF h).aI tV ⟨by kernel_rfl,trivial⟩
noncomputable def SH(L:Lo):List hM:=YEf L
theorem SI:GY SH:=SG
noncomputable def SJ(L:Lo):List hM:=nW L pf (V 20 [(507,[.j 0]),(127,[.j 1])] (U [.f [4,5]])) 697 (ik [0,1] [.l jM,zu] []) (HQ) [] [⟨zj,1,[(4,U 11,zj),(4,U 13,zj),(4,U 17,zj),(8,U 11,zj),(8,U 13,zj),(8,U 17,zj)],zr,[⟨.ret,(ik [4,5] [.ptr 0 0 0,.j] [HS])⟩]⟩,⟨zj,0,[(4,U 11,zj),(4,U 13,zj),(4,U 17,zj),(8,U 11,zj),(8,U 13,zj),(8,U 17,zj)],(ik [3,4,6,7,8,34,35] [.ptr 0 0 0,.ptr 1 0 0,.ptr 2 0 0,.ptr 3 0 0,.ptr 4 0 0,.s,.b] [wv,Dd,oI,oK,Dc,.sq (cs [I]),.sq jP,.sq pE,.sq (cs [I]),.sq jP,.sq pE]),[⟨.kM,zr⟩]⟩,⟨zZ,1040379,[(4,U 11,zj),(4,U 13,zj),(4,U 17,zj),(8,U 11,zj),(8,U 13,zj),(8,U 17,zj)],(ik [3,4,6,7,8,151,152,153] [.ptr 0 0 0,.ptr 1 0 0,.ptr 2 0 0,.ptr 3 0 0,.ptr 4 0 0,.l lO,.j,.j] [wv,Dd,oI,oK,Dc,.sq (cs [I]),.sq jP,.sq pE,.sq (cs [I]),.sq jP,.sq pE]),[⟨.exit 3,zr⟩]⟩,⟨zZ,65019,[(4,U 11,zj),(4,U 13,zj),(4,U 17,zj),(8,U 11,zj),(8,U 13,zj),(8,U 17,zj)],(ik [3,4,6,7,8,89,90,91] [.ptr 0 0 0,.ptr 1 0 0,.ptr 2 0 0,.ptr 3 0 0,.ptr 4 0 0,.l lN,.j,.j] [wv,Dd,oI,oK,Dc,.sq (cs [I]),.sq jP,.sq pE,.sq (cs [I]),.sq jP,.sq pE]),[⟨.exit 1,zr⟩]⟩] (SH L)::SH L
theorem SK:GY SJ:=λh=>(SI h).aI tV ⟨by kernel_rfl,⟨by kernel_rfl,⟨by kernel_rfl,⟨by kernel_rfl,trivial⟩⟩⟩⟩
noncomputable def YEg(L:Lo):List hM:=nh L pf (V 9) 647 (ik [0,1] [.ag [.l jM],.s] []) (HQ) [] (SJ L)::SJ L
theorem SL:GY YEg:=λh=>(SK h).aP tV trivial
noncomputable def SM(L:Lo):List hM:=YEg L
theorem SN:GY SM:=SL
noncomputable def SP(L:Lo):List hM:=nW L pf (V 186 [] (U [])) 797 (ik [0,1] [.l jE,.clo 743 [.ptr 0 0 0]] [.st [.s,.i .u32]]) .j [.st [.s,.i .u32]] [⟨zZ,13,[],(ik [0,1,7,8] [.l jE,.clo 743 [.ptr 0 0 0],.j,.j] [.st [.s,.i .u32]]),[⟨.ret,(ik [4] [.j] [.st [.s,.i .u32]])⟩,⟨.exit 0,(ik [] [] [.st [.s,.i .u32]])⟩]⟩] (SM L)::SM L
theorem SQ:GY SP:=λh=>(SN h).aI tV ⟨by kernel_rfl,trivial⟩
noncomputable def SS(L:Lo):List hM:=nW L pf (V 116 [] (U [])) 742 (ik [0,1] [.l jE,.clo 743 [.ptr 0 0 0]] [.st [.s,.i .u32]]) .b [.st [.s,.i .u32]] [] (SP L)::SP L
theorem SU:GY SS:=λh=>(SQ h).aI tV trivial
noncomputable def YEh(L:Lo):List hM:=nh L pf (V 67) 681 zA .j [⟨zZ,13,[],(ik [1,7,8,9] [.ptr 0 0 0,.l jE,.j,.j] [oJ]),[pF,nC]⟩] (SS L)::SS L
theorem SW:GY YEh:=λh=>(SU h).aP tV ⟨by kernel_rfl,trivial⟩
noncomputable def YEi(L:Lo):List hM:=YEh L
theorem SX:GY YEi:=SW
noncomputable def YEj(L:Lo):List hM:=YEi L
theorem SY:GY YEj:=SX
noncomputable def YEk(L:Lo):List hM:=YEj L
theorem SZ:GY YEk:=SY
noncomputable def YEl(L:Lo):List hM:=YEk L
theorem S_:GY YEl:=SZ
noncomputable def YEm(L:Lo):List hM:=YEl L
theorem Ta:GY YEm:=S_
noncomputable def Tb(L:Lo):List hM:=YEm L
theorem Tc:GY Tb:=Ta
noncomputable def Td(L:Lo):List hM:=nh L pf (V 24) 638 zA .j [⟨zZ,509,[],(ik [1,65,66,67] [.ptr 0 0 0,.l ni,.j,.j] [oJ]),[pF,⟨.exit 2,qn⟩]⟩,⟨zZ,253,[],(ik [1,3,39,40,41] [.ptr 0 0 0,.ptr 1 0 0,.l jQ,.j,.j] [oJ,.st [.l jM]]),[pF,⟨.exit 0,(ik [1] [.ptr 0 0 0] [oJ])⟩]⟩] (Tb L)::Tb L
theorem Te:GY Td:=λh=>(Tc h).aP tV ⟨by kernel_rfl,⟨by kernel_rfl,trivial⟩⟩
def strings_Join(c:Lo)(a:List ByteArray)(b:ByteArray):Option ByteArray:=PF a b
def Ywb(L:Lo):hM:=ru 169
noncomputable def Mm(L:Lo):List hM:=Ywb L::Td L
theorem Ywc{P:Program}{fm:FM}{L:Lo}(h:GZ P fm Td L)(G: ∀f,fm f=169->kB P f=zZ/\ ∃ρ:Go.Shelf.Ren,Go.Proofs.Lays.n156 P ρ/\Go.Proofs.Builder.Extra P ρ/\ρ.f 156=f):GZ P fm Mm L:=
 ⟨h.1,h.2,Yva h.S rfl G⟩
theorem Tf:GY Mm:=λh=>Ywc (Te h) (H8)
def Ywd(L:Lo):hM:=mj 164
noncomputable def Mn(L:Lo):List hM:=Ywd L::Mm L
theorem Ywe{P:Program}{fm:FM}{L:Lo}(h:GZ P fm Mm L)(G: ∀f,fm f=164->kB P f=zZ/\ ∃ρ:Go.Shelf.Ren,Go.Proofs.Lays.n240 P ρ/\l5 P fm ρ/\ρ.f 240=f):GZ P fm Mn L:=
 ⟨h.1,h.2,YuS h.S rfl G⟩
theorem Tg:GY Mn:=λh=>Ywe (Tf h) (H9)
noncomputable def Th(L:Lo):List hM:=nW L pf (V 26 [] (U [])) 149 (ik [0,1] [.ptr 0 0 0,.s] [.st [.np 0,.ref 1],.sb]) (.tp [.j,.u]) [.st [.np 0,.ref 2],.dd,.sb] [] (Mn L)::Mn L
theorem Ti:GY Th:=λh=>(Tg h).aI tV trivial
noncomputable def Tj(L:Lo):List hM:=nW L pf (V 25 [] (U [])) 657 (ik [0,1] [.s,.ptr 0 0 0] [.st [.np 0,.ref 1],.sb]) (.tp []) [.st [.np 0,.ref 2],.dd,.sb] [] (Th L)::Th L
theorem Tk:GY Tj:=λh=>(Ti h).aI tV trivial
noncomputable def Tl(L:Lo):List hM:=nh L pf (V 76) 704 (ik [0] [nO] []) .s [] (Tj L)::Tj L
theorem Tm:GY Tl:=λh=>(Tk h).aP tV trivial
noncomputable def Tn(L:Lo):List hM:=nh L pf (V 29) 659 kj .s [] (Tl L)::Tl L
theorem To:GY Tn:=λh=>(Tm h).aP tV trivial
noncomputable def Tp(L:Lo):List hM:=nh L pf (V 28) 658 (ik [0,1] [.s,qo] []) .s [⟨zZ,29,[(5,zz,zj)],(ik [0,3,5,9,10,11] [.s,.ptr 0 0 0,.ref 1,.l iH,.j,.j] [.st [.j,.l iH],.sq ij]),[⟨.exit 0,(ik [0,3,5] [.s,.ptr 0 0 0,.ref 1] [.st [.j,.l iH],.sq ij])⟩]⟩] (Tn L)::Tn L
theorem Tq:GY Tp:=λh=>(To h).aP tV ⟨by kernel_rfl,trivial⟩
noncomputable def Tr(L:Lo):List hM:=nh L pf (V 78) 705 (ik [0,1,2] [nj,.l (cs [I]),.s] []) .s [⟨zZ,29,[(7,zz,zj)],(ik [2,3,7,10,11,12] [.s,.ptr 0 0 0,.ref 1,.l (cs [I]),.j,.j] [oK,.sq ij]),[⟨.exit 0,(ik [2,7] [.s,.ref 0] [.sq ij])⟩]⟩] (Tp L)::Tp L
theorem Ts:GY Tr:=λh=>(Tq h).aP tV ⟨by kernel_rfl,trivial⟩
noncomputable def YEn(L:Lo):List hM:=nh L pf (V 30) 660 (ik [0,1,2] [nj,.i .u32,.s] []) .s [⟨zZ,29,[(7,zz,zj)],(ik [1,2,3,7,11,12] [.i .u32,.s,.ptr 0 0 0,.ref 1,.j,.j] [oK,.sq (cs [I])]),[⟨.exit 0,(ik [2,3,7] [.s,.ptr 0 0 0,.ref 1] [oK,.sq (cs [I])])⟩]⟩] (Tr L)::Tr L
theorem Tt:GY YEn:=λh=>(Ts h).aP tV ⟨by kernel_rfl,trivial⟩
noncomputable def Tu(L:Lo):List hM:=YEn L
theorem Tv:GY Tu:=Tt
def strconv_Itoa(b:Lo)(a:Int):Option ByteArray:=P4 a
def Ywf(L:Lo):hM:=rz 165
noncomputable def Tw(L:Lo):List hM:=Ywf L::Tu L
theorem Ywg{P:Program}{fm:FM}{L:Lo}(h:GZ P fm Tu L)(G: ∀f,fm f=165->kB P f=zZ/\ ∃ρ:Go.Shelf.Ren,Go.Proofs.LaysM.n171 P ρ/\ (∃q,(ρ.g 17,q)∈fm.tb/\ ∀c,q c->c=wu)/\ρ.f 171=f):GZ P fm Tw L:=
 ⟨h.1,h.2,YvK h.S rfl G⟩
theorem Tx:GY Tw:=λh=>Ywg (Tv h) (H_)
noncomputable def YEo(L:Lo):List hM:=Tw L
theorem Tz:GY YEo:=Tx
noncomputable def YEp(L:Lo):List hM:=YEo L
theorem TA:GY YEp:=Tz
noncomputable def YEq(L:Lo):List hM:=YEp L
theorem TC:GY YEq:=TA
noncomputable def TD(L:Lo):List hM:=YEq L
theorem TE:GY TD:=TC
noncomputable def TF(L:Lo):List hM:=nW L pf (V 35 [] (U [])) 605 (ik [0] [.ptr 0 0 0] [.st [.np 0,.ref 1],.sb]) .j [.st [.np 0,.ref 1],.sb] [] (TD L)::TD L
theorem TG:GY TF:=λh=>(TE h).aI tV trivial
def Ywh(L:Lo):hM:=nN 151
noncomputable def Mo(L:Lo):List hM:=Ywh L::TF L
theorem Ywi{P:Program}{fm:FM}{L:Lo}(h:GZ P fm TF L)(G: ∀f,fm f=151->kB P f=zZ/\ ∃ρ:Go.Shelf.Ren,Go.Proofs.Lays.n169 P ρ/\l5 P fm ρ/\fm.bu=ρ.t 5/\ρ.f 169=f):GZ P fm Mo L:=
 ⟨h.1,h.2,YuZ h.S rfl G⟩
theorem TH:GY Mo:=λh=>Ywi (TG h) (Ia)
end Go.Abs.iA
namespace Go.Abs.iA
open Go Go.Abs Go.Proofs
set_option maxRecDepth 100000
set_option maxHeartbeats 4000000
set_option synthInstance.maxSize 100000
set_option synthInstance.maxHeartbeats 1000000
noncomputable def Mp(L:Lo):List hM:=nh L pf (V 11 [(15,[.o [(5,U 1,zj)]])]) 633 zA (.tp [.s,.j]) [⟨zZ,2045,[],(ik [1,5,6,114,115,116] [.ptr 0 0 0,.ptr 1 0 0,.clo 657 [.ptr 1 0 0],.l ni,.j,.j] [oJ,.st [.np 1,.ref 2],.sb]),[⟨.exit 10,(ik [5] [.ptr 0 0 0] [.st [.np 0,.ref 1],.sb])⟩]⟩,⟨zZ,1021,[],(ik [1,5,6,102,103,104] [.ptr 0 0 0,.ptr 1 0 0,.clo 657 [.ptr 1 0 0],.l jQ,.j,.j] [oJ,.st [.np 1,.ref 2],.sb]),[⟨.exit 8,zy⟩]⟩,⟨zZ,509,[],(ik [1,5,6,88,89,90] [.ptr 0 0 0,.ptr 1 0 0,.clo 657 [.ptr 1 0 0],.l mW,.j,.j] [oJ,.st [.np 1,.ref 2],.sb]),[⟨.exit 6,zy⟩]⟩,⟨zZ,253,[],(ik [1,5,6,59,60,61] [.ptr 0 0 0,.ptr 1 0 0,.clo 657 [.ptr 1 0 0],.l jE,.j,.j] [oJ,.st [.np 1,.ref 2],.sb]),[⟨.exit 4,zy⟩]⟩,⟨zZ,125,[],HT,[⟨.exit 0,zy⟩]⟩,⟨zZ,16055,[],(ik [1,5,6,8,26,27,28,44,45,46] [.ptr 0 0 0,.ptr 1 0 0,.clo 657 [.ptr 1 0 0],.ptr 2 0 0,.l jM,.j,.j,.l ln,.j,.j] [oJ,.st [.np 1,.ref 3],oK,.sb]),[⟨.exit 2,HT⟩]⟩] (Mo L)::Mo L
theorem TI:GY Mp:=λh=>(TH h).aP tV ⟨by kernel_rfl,⟨by kernel_rfl,⟨by kernel_rfl,⟨by kernel_rfl,⟨by kernel_rfl,⟨by kernel_rfl,trivial⟩⟩⟩⟩⟩⟩
noncomputable def D8(a:Lo):Option Bool:=(nh a pf (V 4) 632 qn .b [] (Mp a)).F ()
noncomputable def YEr(L:Lo):List hM:=nh L pf (V 4) 632 qn .b [] (Mp L)::Mp L
theorem TJ:GY YEr:=λh=>(TI h).aP tV trivial
def Mq(b:Lo)(c:ByteArray):Option (jR ((List kz)×Int)):=
 d' (Sz b c) λ(d,_,e,_,_,_,f,g,_,_,_,_,_,_,_,a)=>bif(!decide (a=0))then(U ((a_ #[]),0,[],a))else(bif(!decide (d=(a_ #[114,111,119])))then(U ((a_ #[]),0,[],2))else(U (e,f,g,0)))
noncomputable def YEs(L:Lo):List hM:=iL 649 zZ kj (.tp [.s,qo,.j]) [] (Mq L)::YEr L
theorem TK:GY YEs:=λ{L} h=>
 (TJ h).p (F:=(V 5)) _ .n tV
def Mr(g:Lo):kq (Int×Int)->Option ((kq (Int×Int))⊕ ((Int×Int))):=λf=>match f with
 | (b,c,d,e,a)=>bif(decide (a<c))then(e_ (0<=a/\a< (b.size:Int)) (bif(decide ((ig b a)=10))then(U (.inl (b,c,(g_ .i64 (d+1)),1,(g_ .i64 (a+1)))))else(U (.inl (b,c,d,(g_ .i64 (e+1)),(g_ .i64 (a+1)))))))else(U (.inr (d,e)))
def TL(a:Lo):kq (Int×Int)->Option ((Int×Int)):=a.run (Mr a)
def Ms(d:Lo)(b:ByteArray)(a:Int):Option (Int×Int×Int):=
 bif(decide (a<0))then(U (0,0,7))else(bif(decide ((b.size:Int)<a))then(U (0,0,7))else(d' (TL d (b,a,1,1,0)) λc=>U (c.1,c.2,0)))
noncomputable def YEt(L:Lo):List hM:=iL 693 zZ (ik [0,1] [.s,.j] []) (.tp [.j,.j,.j]) [] (u2 (Ms L):)::YEs L
theorem TM:GY YEt:=λ{L} h=>
 (TK h).p (F:=(V 150)) _ (.l (p:=⟨61,[],(ik [0,1,7,8,9] [.s,.j,.j,.j,.j] []),[⟨.exit 0,(ik [7,8] [.j,.j] [])⟩],TL L⟩) (b:=jf (V 150) 61) .n (Mr L)) tV
def Jg(b:Lo)(a:Int):Option Bool:=
 bif(decide (97<=a))then(bif(decide (a<=122))then(U zZ)else(bif(decide (65<=a))then(bif(decide (a<=90))then(U zZ)else(U (decide (a=95))))else(U (decide (a=95)))))else(bif(decide (65<=a))then(bif(decide (a<=90))then(U zZ)else(U (decide (a=95))))else(U (decide (a=95))))
noncomputable def YEu(L:Lo):List hM:=iL 753 zZ vD .b [] (Jg L)::YEt L
theorem TN:GY YEu:=λ{L} h=>
 (TM h).p (F:=(V 214)) _ .n tV
def zS(b:Lo)(a:Int):Option Bool:=
 bif(decide (48<=a))then(U (decide (a<=57)))else(U zj)
noncomputable def YEv(L:Lo):List hM:=iL 752 zZ vD .b [] (zS L)::YEu L
theorem TO:GY YEv:=λ{L} h=>
 (TN h).p (F:=(V 215)) _ .n tV
abbrev YpK(F:Int->Option ByteArray):hM:=iL 153 zZ (ik [0] [.j] []) .s [] F
def FO(f:Lo)(b:Int->Option ByteArray)(a:Int):Option ByteArray:=
 bif(decide (a=(-9223372036854775808)))then(U (a_ #[45,57,50,50,51,51,55,50,48,51,54,56,53,52,55,55,53,56,48,56]))else(bif(decide (a<0))then(d' (b (g_ .i64 (0-a))) λc=>e_ (iS ((a_ #[45]).size+c.size) 9223372036854775807=zZ) (U ((a_ #[45])++c)))else(bif(decide (a<10))then(e_ (0<=a/\a<=(g_ .i64 (a+1))/\ (g_ .i64 (a+1))<=((a_ #[48,49,50,51,52,53,54,55,56,57]).size:Int)) (U ((a_ #[48,49,50,51,52,53,54,55,56,57]).extract a.toNat (g_ .i64 (a+1)).toNat)))else(e_ (10≠0) (d' (b (g_ .i64 (a.tdiv 10))) λd=>e_ (10≠0) (d' (b (a.tmod 10)) λe=>e_ (iS (d.size+e.size) 9223372036854775807=zZ) (U (d++e)))))))
def zU(a:Lo):Nat->Int->Option ByteArray
 |0,_=>zz
 |n+1,x=>FO a (zU a n) x
def D9(a:Lo)(b:Int):Option ByteArray:=a.run (sy (zU a)) (0,b)
noncomputable def YEw(L:Lo):List hM:=YpK (D9 L)::YEv L
theorem TP:GY YEw:=λ{L} h=>
 (TO h).pr (F:=(V 290)) (YpK (D9 L)) (zU _) (ls:=λ_=>_) (λ_=>.n) tV (by kernel_rfl) (λ_=>rfl) rfl (λ_=>by kernel_rfl) λn x=>by kernel_rfl
noncomputable abbrev TQ:kT:=V 259 [(31,[.j 0])]
def yh(f:Lo):kq Int->Option ((kq Int)⊕ ((Int×Bool)⊕ (jR Int))):=λe=>match e with
 | (b,c,d,a)=>bif(decide (a< (b.size:Int)))then(e_ (0<=a/\a< (b.size:Int)) (bif(decide ((ig b a)<48))then(U (.inr (.inl (0,zj))))else(e_ (0<=a/\a< (b.size:Int)) (bif(decide (57< (ig b a)))then(U (.inr (.inl (0,zj))))else(e_ (0<=a/\a< (b.size:Int)) (U (.inl (b,(g_ .i64 ((g_ .i64 (10*c))-(g_ .i64 (g_ .u8 ((ig b a)-48))))),d,(g_ .i64 (a+1))))))))))else(U (.inr (.inr (b,c,d))))
def A3(a:Lo):kq Int->Option ((Int×Bool)⊕ (jR Int)):=a.run (yh a)
def A4(c:Lo):jR Int->Option ((Int×Bool)):=λh=>match h with
 | (d,g,a)=>bif(decide ((d.size:Int)=a))then(U (0,zj))else(bif(decide ((g_ .i64 (a+19))< (d.size:Int)))then(U (0,zj))else(d' (A3 c (d,g,a,a)) λi=>iV i (λe=>U (e.1,e.2)) (λ(f,b,m)=>bif(decide (m=0))then(d' (D9 c (g_ .i64 (0-b))) λj=>U ((g_ .i64 (0-b)),(decide (j=f))))else(d' (D9 c b) λk=>U (b,(decide (k=f)))))))
def D'(b:Lo)(a:ByteArray):Option (Int×Bool):=
 bif(decide (0< (a.size:Int)))then(e_ (0<=(0:Int)/\0< (a.size:Int)) (bif(decide ((ig a 0)=45))then(d' (A4 b (a,0,1)) λc=>U (c.1,c.2))else(d' (A4 b (a,0,0)) λd=>U (d.1,d.2))))else(d' (A4 b (a,0,0)) λe=>U (e.1,e.2))
noncomputable def YEx(L:Lo):List hM:=iL 807 zZ kj (.tp [.j,.b]) [] (D' L)::YEw L
theorem TS:GY YEx:=λ{L} h=>
 (TP h).p (F:=TQ) _ (.j (p:=⟨0,[],(ik [0,4,5] [.s,.j,.j] []),[⟨.ret,(ik [2,3] [.j,.b] [])⟩],A4 L⟩) (b:=jf TQ 0) (.l (p:=⟨253,[],(ik [0,4,5,6] [.s,.j,.j,.j] []),[⟨.ret,(ik [2,3] [.j,.b] [])⟩,⟨.exit 0,(ik [0,4,5] [.s,.j,.j] [])⟩],A3 L⟩) (b:=jf TQ 253) .n (yh L))) tV
def Jh(b:Lo)(a:Int):Option Int:=
 bif(decide (48<=a))then(bif(decide (a<=57))then(U (g_ .i64 (g_ .u8 (a-48))))else(bif(decide (97<=a))then(bif(decide (a<=102))then(U (g_ .i64 ((g_ .i64 (g_ .u8 (a-97)))+10)))else(U (-1)))else(U (-1))))else(bif(decide (97<=a))then(bif(decide (a<=102))then(U (g_ .i64 ((g_ .i64 (g_ .u8 (a-97)))+10)))else(U (-1)))else(U (-1)))
noncomputable def YEy(L:Lo):List hM:=iL 834 zZ vD .j [] (Jh L)::YEx L
theorem TU:GY YEy:=λ{L} h=>
 (TS h).p (F:=(V 291)) _ .n tV
def xG(d:Lo):jR (List Int)->Option ((jR (List Int))⊕ ((List Int))):=λg=>match g with
 | (b,a,c)=>bif(decide (a< (g_ .i64 ((b.size:Int)-1))))then(e_ (0<=a/\a< (b.size:Int)) (bif(!decide ((ig b a)=92))then(e_ (0<=a/\a< (b.size:Int)) (e_ (c.length+([(ig b a)]).length<=c_) (U (.inl (b,(g_ .i64 (a+1)),(c++([(ig b a)])))))))else(bif(decide ((g_ .i64 ((b.size:Int)-1))<=(g_ .i64 (a+1))))then(e_ (0<=a/\a< (b.size:Int)) (e_ (c.length+([(ig b a)]).length<=c_) (U (.inl (b,(g_ .i64 (a+1)),(c++([(ig b a)])))))))else(e_ (0<=(g_ .i64 (a+1))/\ (g_ .i64 (a+1))< (b.size:Int)) (bif(decide ((ig b (g_ .i64 (a+1)))=110))then(e_ (c.length+([10]).length<=c_) (U (.inl (b,(g_ .i64 ((g_ .i64 (a+1))+1)),(c++([10]))))))else(e_ (0<=(g_ .i64 (a+1))/\ (g_ .i64 (a+1))< (b.size:Int)) (bif(decide ((ig b (g_ .i64 (a+1)))=120))then(bif(decide ((g_ .i64 ((g_ .i64 (a+1))+2))< (g_ .i64 ((b.size:Int)-1))))then(e_ (0<=(g_ .i64 ((g_ .i64 (a+1))+1))/\ (g_ .i64 ((g_ .i64 (a+1))+1))< (b.size:Int)) (d' (Jh d (ig b (g_ .i64 ((g_ .i64 (a+1))+1)))) λe=>e_ (0<=(g_ .i64 ((g_ .i64 (a+1))+2))/\ (g_ .i64 ((g_ .i64 (a+1))+2))< (b.size:Int)) (d' (Jh d (ig b (g_ .i64 ((g_ .i64 (a+1))+2)))) λf=>e_ (c.length+([(g_ .u8 (g_ .i64 ((g_ .i64 (16*e))+f)))]).length<=c_) (U (.inl (b,(g_ .i64 ((g_ .i64 ((g_ .i64 (a+1))+2))+1)),(c++([(g_ .u8 (g_ .i64 ((g_ .i64 (16*e))+f)))]))))))))else(e_ (0<=(g_ .i64 (a+1))/\ (g_ .i64 (a+1))< (b.size:Int)) (e_ (c.length+([(ig b (g_ .i64 (a+1)))]).length<=c_) (U (.inl (b,(g_ .i64 ((g_ .i64 (a+1))+1)),(c++([(ig b (g_ .i64 (a+1)))]))))))))else(e_ (0<=(g_ .i64 (a+1))/\ (g_ .i64 (a+1))< (b.size:Int)) (e_ (c.length+([(ig b (g_ .i64 (a+1)))]).length<=c_) (U (.inl (b,(g_ .i64 ((g_ .i64 (a+1))+1)),(c++([(ig b (g_ .i64 (a+1)))]))))))))))))))else(U (.inr c))
def FP(a:Lo):jR (List Int)->Option ((List Int)):=a.run (xG a)
def D_(a:Lo)(b:ByteArray):Option ByteArray:=
 d' (FP a (b,1,[])) λc=>U (nT c)
noncomputable def YEz(L:Lo):List hM:=iL 808 zZ kj .s [] (D_ L)::YEy L
theorem TW:GY YEz:=λ{L} h=>
 (TU h).p (F:=(V 260)) _ (.l (p:=⟨29,[(3,zz,zj)],(ik [0,3,4] [.s,.ref 0,.j] [.sq (cs [.i .u8])]),[⟨.exit 0,(ik [3] [.ref 0] [.sq (cs [.i .u8])])⟩],FP L⟩) (b:=jf (V 260) 29) .n (xG L)) tV
def TX(d:Lo)(a c:Int)(b:ByteArray):Option Bool:=
 bif(decide (a=0))then(bif(decide (c=0))then(U (decide (b=(a_ #[]))))else(U zj))else(bif(decide (a=1))then(U (decide (b=(a_ #[]))))else(bif(decide (a=2))then(bif(decide (c=0))then(U (decide ((b.size:Int)<=200)))else(U zj))else(bif(decide (a=3))then(bif(decide (1<=c))then(U (decide (b=(a_ #[]))))else(U zj))else(U zj))))
noncomputable def YEA(L:Lo):List hM:=iL 284 zZ (ik [0] [nO] []) .b [] (u3 (TX L):)::YEz L
theorem TY:GY YEA:=λ{L} h=>
 (TW h).p (F:=(V 292)) _ .n tV
def TZ(e:Lo):nD Int->Option ((nD Int)⊕ByteArray):=λd=>match d with
 | (b,c,a)=>bif(decide (a< (b.size:Int)))then(e_ (0<=a/\a< (b.size:Int)) (bif(decide ((ig b a)=34))then(e_ (iS (c.size+(a_ #[92,34]).size) 9223372036854775807=zZ) (U (.inl (b,(c++(a_ #[92,34])),(g_ .i64 (a+1))))))else(bif(decide ((ig b a)=92))then(e_ (iS (c.size+(a_ #[92,92]).size) 9223372036854775807=zZ) (U (.inl (b,(c++(a_ #[92,92])),(g_ .i64 (a+1))))))else(bif(decide ((ig b a)=10))then(e_ (iS (c.size+(a_ #[92,110]).size) 9223372036854775807=zZ) (U (.inl (b,(c++(a_ #[92,110])),(g_ .i64 (a+1))))))else(bif(decide ((ig b a)<32))then(e_ (16≠0) (e_ (16≠0) (e_ (0<=(g_ .u8 ((ig b a).tdiv 16))/\ (g_ .u8 ((ig b a).tdiv 16))<=(g_ .u8 ((g_ .u8 ((ig b a).tdiv 16))+1))/\ (g_ .u8 ((g_ .u8 ((ig b a).tdiv 16))+1))<=((a_ #[48,49,50,51,52,53,54,55,56,57,97,98,99,100,101,102]).size:Int)) (e_ (iS ((a_ #[92,120]).size+((a_ #[48,49,50,51,52,53,54,55,56,57,97,98,99,100,101,102]).extract (g_ .u8 ((ig b a).tdiv 16)).toNat (g_ .u8 ((g_ .u8 ((ig b a).tdiv 16))+1)).toNat).size) 9223372036854775807=zZ) (e_ (16≠0) (e_ (16≠0) (e_ (0<=((ig b a).tmod 16)/\ ((ig b a).tmod 16)<=(g_ .u8 (((ig b a).tmod 16)+1))/\ (g_ .u8 (((ig b a).tmod 16)+1))<=((a_ #[48,49,50,51,52,53,54,55,56,57,97,98,99,100,101,102]).size:Int)) (e_ (iS (((a_ #[92,120])++((a_ #[48,49,50,51,52,53,54,55,56,57,97,98,99,100,101,102]).extract (g_ .u8 ((ig b a).tdiv 16)).toNat (g_ .u8 ((g_ .u8 ((ig b a).tdiv 16))+1)).toNat)).size+((a_ #[48,49,50,51,52,53,54,55,56,57,97,98,99,100,101,102]).extract ((ig b a).tmod 16).toNat (g_ .u8 (((ig b a).tmod 16)+1)).toNat).size) 9223372036854775807=zZ) (e_ (iS (c.size+(((a_ #[92,120])++((a_ #[48,49,50,51,52,53,54,55,56,57,97,98,99,100,101,102]).extract (g_ .u8 ((ig b a).tdiv 16)).toNat (g_ .u8 ((g_ .u8 ((ig b a).tdiv 16))+1)).toNat))++((a_ #[48,49,50,51,52,53,54,55,56,57,97,98,99,100,101,102]).extract ((ig b a).tmod 16).toNat (g_ .u8 (((ig b a).tmod 16)+1)).toNat)).size) 9223372036854775807=zZ) (U (.inl (b,(c++(((a_ #[92,120])++((a_ #[48,49,50,51,52,53,54,55,56,57,97,98,99,100,101,102]).extract (g_ .u8 ((ig b a).tdiv 16)).toNat (g_ .u8 ((g_ .u8 ((ig b a).tdiv 16))+1)).toNat))++((a_ #[48,49,50,51,52,53,54,55,56,57,97,98,99,100,101,102]).extract ((ig b a).tmod 16).toNat (g_ .u8 (((ig b a).tmod 16)+1)).toNat))),(g_ .i64 (a+1))))))))))))))else(bif(decide (126< (ig b a)))then(e_ (16≠0) (e_ (16≠0) (e_ (0<=(g_ .u8 ((ig b a).tdiv 16))/\ (g_ .u8 ((ig b a).tdiv 16))<=(g_ .u8 ((g_ .u8 ((ig b a).tdiv 16))+1))/\ (g_ .u8 ((g_ .u8 ((ig b a).tdiv 16))+1))<=((a_ #[48,49,50,51,52,53,54,55,56,57,97,98,99,100,101,102]).size:Int)) (e_ (iS ((a_ #[92,120]).size+((a_ #[48,49,50,51,52,53,54,55,56,57,97,98,99,100,101,102]).extract (g_ .u8 ((ig b a).tdiv 16)).toNat (g_ .u8 ((g_ .u8 ((ig b a).tdiv 16))+1)).toNat).size) 9223372036854775807=zZ) (e_ (16≠0) (e_ (16≠0) (e_ (0<=((ig b a).tmod 16)/\ ((ig b a).tmod 16)<=(g_ .u8 (((ig b a).tmod 16)+1))/\ (g_ .u8 (((ig b a).tmod 16)+1))<=((a_ #[48,49,50,51,52,53,54,55,56,57,97,98,99,100,101,102]).size:Int)) (e_ (iS (((a_ #[92,120])++((a_ #[48,49,50,51,52,53,54,55,56,57,97,98,99,100,101,102]).extract (g_ .u8 ((ig b a).tdiv 16)).toNat (g_ .u8 ((g_ .u8 ((ig b a).tdiv 16))+1)).toNat)).size+((a_ #[48,49,50,51,52,53,54,55,56,57,97,98,99,100,101,102]).extract ((ig b a).tmod 16).toNat (g_ .u8 (((ig b a).tmod 16)+1)).toNat).size) 9223372036854775807=zZ) (e_ (iS (c.size+(((a_ #[92,120])++((a_ #[48,49,50,51,52,53,54,55,56,57,97,98,99,100,101,102]).extract (g_ .u8 ((ig b a).tdiv 16)).toNat (g_ .u8 ((g_ .u8 ((ig b a).tdiv 16))+1)).toNat))++((a_ #[48,49,50,51,52,53,54,55,56,57,97,98,99,100,101,102]).extract ((ig b a).tmod 16).toNat (g_ .u8 (((ig b a).tmod 16)+1)).toNat)).size) 9223372036854775807=zZ) (U (.inl (b,(c++(((a_ #[92,120])++((a_ #[48,49,50,51,52,53,54,55,56,57,97,98,99,100,101,102]).extract (g_ .u8 ((ig b a).tdiv 16)).toNat (g_ .u8 ((g_ .u8 ((ig b a).tdiv 16))+1)).toNat))++((a_ #[48,49,50,51,52,53,54,55,56,57,97,98,99,100,101,102]).extract ((ig b a).tmod 16).toNat (g_ .u8 (((ig b a).tmod 16)+1)).toNat))),(g_ .i64 (a+1))))))))))))))else(e_ (0<=a/\a<=(g_ .i64 (a+1))/\ (g_ .i64 (a+1))<=(b.size:Int)) (e_ (iS (c.size+(b.extract a.toNat (g_ .i64 (a+1)).toNat).size) 9223372036854775807=zZ) (U (.inl (b,(c++(b.extract a.toNat (g_ .i64 (a+1)).toNat)),(g_ .i64 (a+1)))))))))))))else(U (.inr c))
def T0(a:Lo):nD Int->Option ByteArray:=a.run (TZ a)
def Mt(b:Lo)(c:ByteArray):Option ByteArray:=
 d' (T0 b (c,(a_ #[34]),0)) λa=>e_ (iS (a.size+(a_ #[34]).size) 9223372036854775807=zZ) (U (a++(a_ #[34])))
noncomputable def YEB(L:Lo):List hM:=iL 558 zZ kj .s [] (Mt L)::YEA L
theorem T1:GY YEB:=λ{L} h=>
 (TY h).p (F:=(V 293)) _ (.l (p:=⟨29,[],(ik [0,3,4] [.s,.s,.j] []),[⟨.exit 0,(ik [3] [.s] [])⟩],T0 L⟩) (b:=jf (V 293) 29) .n (TZ L)) tV
def Mu(a:Lo)(b c:Int)(d:ByteArray):Option (ByteArray×Int):=
 d' (TX a b c d) λf=>bif(!f)then(U ((a_ #[]),1))else(bif(decide (b=0))then(U ((a_ #[110,117,108,108]),0))else(bif(decide (b=1))then(d' (D9 a c) λg=>U (g,0))else(bif(decide (b=2))then(d' (Mt a d) λh=>U (h,0))else(d' (D9 a c) λe=>e_ (iS ((a_ #[63]).size+e.size) 9223372036854775807=zZ) (U (((a_ #[63])++e),0))))))
noncomputable def YEC(L:Lo):List hM:=iL 551 zZ (ik [0] [nO] []) (.tp [.s,.j]) [] (u3 (Mu L):)::YEB L
theorem T2:GY YEC:=λ{L} h=>
 (T1 h).p (F:=(V 261)) _ .n tV
noncomputable abbrev YpL:kT:=V 216 [(31,[.j 0])]
def zV(b:Lo):lP->Option (tP):=λe=>match e with
 | (a,_,_,_)=>bif(decide (1< (a.size:Int)))then(e_ (0<=(0:Int)/\0< (a.size:Int)) (bif(decide ((ig a 0)=34))then(d' (D_ b a) λc=>d' (Mu b 2 0 c) λd=>bif(decide (d.2=0))then(bif(decide (d.1=a))then(U (0,2,0,c))else(U (2,0,0,(a_ #[]))))else(U (2,0,0,(a_ #[]))))else(U (2,0,0,(a_ #[])))))else(U (2,0,0,(a_ #[])))
def Ea(b:Lo)(a:ByteArray):Option (Int×Int×ByteArray×Int):=
 bif(decide (a=(a_ #[110,117,108,108])))then(U (0,0,(a_ #[]),0))else(d' (D' b a) λd=>bif d.2 then(U (1,d.1,(a_ #[]),0))else(bif(decide (1< (a.size:Int)))then(e_ (0<=(0:Int)/\0< (a.size:Int)) (bif(decide ((ig a 0)=63))then(e_ (0<=(1:Int)/\1<=(a.size:Int)/\ (a.size:Int)<=(a.size:Int)) (d' (D' b (a.extract 1 (a.size:Int).toNat)) λc=>bif c.2 then(bif(decide (1<=c.1))then(U (3,c.1,(a_ #[]),0))else(d' (zV b (a,0,0,(a_ #[]))) λ(e,f,g,h)=>U (f,g,h,e)))else(d' (zV b (a,0,0,(a_ #[]))) λ(i,j,k,m)=>U (j,k,m,i))))else(d' (zV b (a,0,0,(a_ #[]))) λ(n,o,p,q)=>U (o,p,q,n))))else(d' (zV b (a,0,0,(a_ #[]))) λ(r,s,t,u)=>U (s,t,u,r))))
noncomputable def YED(L:Lo):List hM:=iL 756 zZ kj (.tp [nO,.j]) [] (Ea L)::YEC L
theorem T3:GY YED:=λ{L} h=>
 (T2 h).p (F:=YpL) _ (.j (p:=⟨0,[],(ik [0,2] [.s,.ptr 0 0 0] [.st [.j,.j,.s]]),[⟨.ret,(ik [2,3] [.ptr 0 0 0,.j] [.st [.j,.j,.s]])⟩],zV L⟩) (b:=jf YpL 0) .n) tV
def T4(a:Lo):Option (List ByteArray):=
 U ([(a_ #[45,62]),(a_ #[45,62,62]),(a_ #[126,62]),(a_ #[60,61]),(a_ #[33,61]),(a_ #[40]),(a_ #[41]),(a_ #[123]),(a_ #[125]),(a_ #[91]),(a_ #[93]),(a_ #[44]),(a_ #[58]),(a_ #[59]),(a_ #[46]),(a_ #[61]),(a_ #[60]),(a_ #[42]),(a_ #[47]),(a_ #[124])])
noncomputable def YEE(L:Lo):List hM:=iL 809 zZ qn (.l ij) [] (λ_=>T4 L)::YED L
theorem T5:GY YEE:=λ{L} h=>
 (T3 h).p (F:=(V 262)) _ .n tV
def T6(e:Lo):Dk Int->Option ((Dk Int)⊕ (Bool⊕Unit)):=λd=>match d with
 | (c,b,a)=>bif(decide (a< (b.length:Int)))then(e_ (0<=a/\a< (b.length:Int)) (bif(decide ((b.getD a.toNat (a_ #[]))=c))then(U (.inr (.inl zZ)))else(U (.inl (c,b,(g_ .i64 (a+1)))))))else(U (.inr (.inr ())))
def T7(a:Lo):Dk Int->Option (Bool⊕Unit):=a.run (T6 a)
def Ji(a:Lo)(b:ByteArray):Option Bool:=
 d' (T4 a) λc=>d' (T7 a (b,c,0)) λd=>iV d (λe=>U e) (λf=>U zj)
noncomputable def YEF(L:Lo):List hM:=iL 757 zZ kj .b [] (Ji L)::YEE L
theorem T8:GY YEF:=λ{L} h=>
 (T5 h).p (F:=(V 217)) _ (.l (p:=⟨29,[],(ik [0,3,4] [.s,.l ij,.j] []),[vA,nC],T7 L⟩) (b:=jf (V 217) 29) .n (T6 L)) tV
def Jj(c:Lo):ByteArray×Int->Option ((ByteArray×Int)⊕Int):=λd=>match d with
 | (b,a)=>bif(decide (a< (b.size:Int)))then(e_ (0<=a/\a< (b.size:Int)) (d' (Jg c (ig b a)) λe=>bif e then(U (.inl (b,(g_ .i64 (a+1)))))else(e_ (0<=a/\a< (b.size:Int)) (d' (zS c (ig b a)) λf=>bif f then(U (.inl (b,(g_ .i64 (a+1)))))else(U (.inr a))))))else(U (.inr a))
def T9(a:Lo):ByteArray×Int->Option Int:=a.run (Jj a)
def Jk(c:Lo):ByteArray×Int->Option ((ByteArray×Int)⊕Int):=λd=>match d with
 | (b,a)=>bif(decide (a< (b.size:Int)))then(e_ (0<=a/\a< (b.size:Int)) (d' (zS c (ig b a)) λe=>bif e then(U (.inl (b,(g_ .i64 (a+1)))))else(U (.inr a))))else(U (.inr a))
def Jl(a:Lo):ByteArray×Int->Option Int:=a.run (Jk a)
def Mv(c:Lo):ByteArray×Int->Option ((ByteArray×Int)⊕ (Int⊕Unit)):=λd=>match d with
 | (b,a)=>bif(decide (a<=(b.size:Int)))then(bif(decide (a<=802))then(e_ (0<=(g_ .i64 (a-1))/\ (g_ .i64 (a-1))< (b.size:Int)) (bif(decide ((ig b (g_ .i64 (a-1)))=34))then(e_ (0<=(0:Int)/\0<=a/\a<=(b.size:Int)) (d' (Ea c (b.extract 0 a.toNat)) λe=>bif(decide (e.2.2.2=0))then(U (.inr (.inl a)))else(U (.inl (b,(g_ .i64 (a+1)))))))else(U (.inl (b,(g_ .i64 (a+1)))))))else(U (.inr (.inr ()))))else(U (.inr (.inr ())))
def A5(a:Lo):ByteArray×Int->Option (Int⊕Unit):=a.run (Mv a)
def Jm(c:Lo):ByteArray×Int->Option ((ByteArray×Int)⊕Int):=λd=>match d with
 | (b,a)=>bif(decide (0<a))then(e_ (0<=(0:Int)/\0<=a/\a<=(b.size:Int)) (d' (Ji c (b.extract 0 a.toNat)) λe=>bif(!e)then(U (.inl (b,(g_ .i64 (a-1)))))else(U (.inr a))))else(U (.inr a))
def zW(a:Lo):ByteArray×Int->Option Int:=a.run (Jm a)
def FQ(b:Lo)(a:ByteArray):Option Int:=
 e_ (0<=(0:Int)/\0< (a.size:Int)) (d' (Jg b (ig a 0)) λc=>bif c then(d' (T9 b (a,0)) λd=>U d)else(d' (zS b (ig a 0)) λe=>bif e then(d' (Jl b (a,1)) λf=>U f)else(bif(decide ((ig a 0)=45))then(bif(decide (1< (a.size:Int)))then(e_ (0<=(1:Int)/\1< (a.size:Int)) (d' (zS b (ig a 1)) λg=>bif g then(d' (Jl b (a,1)) λh=>U h)else(bif(decide ((ig a 0)=34))then(d' (A5 b (a,2)) λi=>iV i (λj=>U j) (λa0=>U 0))else(d' (zW b (a,(min 3 (a.size:Int)))) λk=>U k))))else(bif(decide ((ig a 0)=34))then(d' (A5 b (a,2)) λm=>iV m (λn=>U n) (λA=>U 0))else(d' (zW b (a,(min 3 (a.size:Int)))) λo=>U o)))else(bif(decide ((ig a 0)=63))then(bif(decide (1< (a.size:Int)))then(e_ (0<=(1:Int)/\1< (a.size:Int)) (d' (zS b (ig a 1)) λp=>bif p then(d' (Jl b (a,1)) λq=>U q)else(bif(decide ((ig a 0)=34))then(d' (A5 b (a,2)) λr=>iV r (λs=>U s) (λB=>U 0))else(d' (zW b (a,(min 3 (a.size:Int)))) λt=>U t))))else(bif(decide ((ig a 0)=34))then(d' (A5 b (a,2)) λu=>iV u (λv=>U v) (λC=>U 0))else(d' (zW b (a,(min 3 (a.size:Int)))) λw=>U w)))else(bif(decide ((ig a 0)=34))then(d' (A5 b (a,2)) λx=>iV x (λy=>U y) (λD=>U 0))else(d' (zW b (a,(min 3 (a.size:Int)))) λz=>U z))))))
noncomputable def YEG(L:Lo):List hM:=iL 694 zZ kj .j [] (FQ L)::YEF L
theorem T':GY YEG:=λ{L} h=>
 (T8 h).p (F:=(V 151)) _ (.l (p:=⟨509,[],(ik [0,4] [.s,.j] []),[⟨.exit 6,(ik [4] [.j] [])⟩],zW L⟩) (b:=jf (V 151) 509) (.l (p:=⟨2025,[],(ik [0,4] [.s,.j] []),[pF,⟨.exit 4,qn⟩],A5 L⟩) (b:=jf (V 151) 2025) (.l (p:=⟨1002,[],(ik [0,4] [.s,.j] []),[⟨.exit 2,(ik [4] [.j] [])⟩],Jl L⟩) (b:=jf (V 151) 1002) (.l (p:=⟨244,[],(ik [0,4] [.s,.j] []),[⟨.exit 0,(ik [4] [.j] [])⟩],T9 L⟩) (b:=jf (V 151) 244) .n (Jj L)) (Jk L)) (Mv L)) (Jm L)) tV
def Mw(c:Lo):ByteArray×Int->Option ((ByteArray×Int)⊕ (Bool⊕Unit)):=λd=>match d with
 | (b,a)=>bif(decide (a< (b.size:Int)))then(e_ (0<=a/\a< (b.size:Int)) (d' (Jg c (ig b a)) λe=>bif(!e)then(e_ (0<=a/\a< (b.size:Int)) (d' (zS c (ig b a)) λf=>bif(!f)then(U (.inr (.inl zj)))else(U (.inl (b,(g_ .i64 (a+1)))))))else(U (.inl (b,(g_ .i64 (a+1)))))))else(U (.inr (.inr ())))
def T_(a:Lo):ByteArray×Int->Option (Bool⊕Unit):=a.run (Mw a)
def Mx(b:Lo)(a:ByteArray):Option Bool:=
 bif(decide (a=(a_ #[])))then(U zj)else(bif(decide (24< (a.size:Int)))then(U zj)else(e_ (0<=(0:Int)/\0< (a.size:Int)) (d' (zS b (ig a 0)) λc=>bif c then(U zj)else(bif(decide (a=(a_ #[110,117,108,108])))then(U zj)else(d' (T_ b (a,0)) λd=>iV d (λe=>U e) (λf=>U zZ))))))
noncomputable def YEH(L:Lo):List hM:=iL 690 zZ kj .b [] (Mx L)::YEG L
theorem Ua:GY YEH:=λ{L} h=>
 (T' h).p (F:=(V 218)) _ (.l (p:=⟨29,[],(ik [0,3] [.s,.j] []),[vA,nC],T_ L⟩) (b:=jf (V 218) 29) .n (Mw L)) tV
def My(b:Lo)(a:ByteArray):Option (Int×kq (kq Bool)):=
 d' (Mx b a) λc=>bif c then(U (1,a,0,0,(a_ #[]),0,0,zZ))else(d' (Ji b a) λd=>bif d then(U (3,a,0,0,(a_ #[]),0,0,zZ))else(d' (Ea b a) λ(e,f,g,h)=>bif(decide (h=0))then(U (2,a,e,f,g,0,0,zZ))else(U (0,(a_ #[]),0,0,(a_ #[]),0,0,zj))))
noncomputable def YEI(L:Lo):List hM:=iL 695 zZ kj (.tp [zB,.b]) [] (My L)::YEH L
theorem Ub:GY YEI:=λ{L} h=>
 (Ua h).p (F:=(V 152)) _ .n tV
def FR(e:Lo):jR (List iW)->Option ((jR (List iW))⊕ ((jR (List iW)))):=λd=>match d with
 | (b,a,c)=>bif(decide (a< (b.size:Int)))then(e_ (0<=a/\a< (b.size:Int)) (bif(!decide ((ig b a)=10))then(U (.inl (b,(g_ .i64 (a+1)),c)))else(U (.inr (b,a,c)))))else(U (.inr (b,a,c)))
def Mz(a:Lo):jR (List iW)->Option ((jR (List iW))):=a.run (FR a)
def A6(d:Lo):jR (List iW)->Option ((jR (List iW))⊕ ((lr (Int×Int))⊕ (List iW))):=λo=>match o with
 | (b,a,c)=>bif(decide (a< (b.size:Int)))then(e_ (0<=a/\a< (b.size:Int)) (bif(decide ((ig b a)=32))then(U (.inl (b,(g_ .i64 (a+1)),c)))else(e_ (0<=a/\a< (b.size:Int)) (bif(decide ((ig b a)=9))then(U (.inl (b,(g_ .i64 (a+1)),c)))else(e_ (0<=a/\a< (b.size:Int)) (bif(decide ((ig b a)=10))then(U (.inl (b,(g_ .i64 (a+1)),c)))else(e_ (0<=a/\a< (b.size:Int)) (bif(decide ((ig b a)=35))then(d' (Mz d (b,a,c)) λf=>U (.inl (f.1,f.2.1,f.2.2)))else(d' (Ms d b a) λ(g,h,_)=>e_ (0<=a/\a<=(b.size:Int)/\ (b.size:Int)<=(b.size:Int)) (d' (FQ d (b.extract a.toNat (b.size:Int).toNat)) λe=>e_ (0<=a/\a<=(g_ .i64 (a+e))/\ (g_ .i64 (a+e))<=(b.size:Int)) (d' (My d (b.extract a.toNat (g_ .i64 (a+e)).toNat)) λ(i,j,k,m,n,_,_,p)=>bif(!p)then(U (.inr (.inl ([],g,h,2))))else(e_ (c.length+([(i,j,k,m,n,g,h)]).length<=c_) (U (.inl (b,(g_ .i64 (a+e)),(c++([(i,j,k,m,n,g,h)])))))))))))))))))else(U (.inr (.inr c)))
def rQ(a:Lo):jR (List iW)->Option ((lr (Int×Int))⊕ (List iW)):=a.run (A6 a)
def MA(b:Lo)(a:ByteArray):Option (lr (Int×Int)):=
 bif(decide (65536< (a.size:Int)))then(U ([],0,0,3))else(d' (rQ b (a,0,[])) λc=>iV c (λ(e,f,g,h)=>U (e,f,g,h)) (λd=>U (d,0,0,0)))
noncomputable def YEJ(L:Lo):List hM:=iL 640 zZ kj (.tp [.l jY,.j,.j,.j]) [] (MA L)::YEI L
theorem Uc:GY YEJ:=λ{L} h=>
 (Ub h).p (F:=(V 84)) _ (.l (p:=⟨61,[(6,zz,zj)],(ik [0,6,7] [.s,.ref 0,.j] [.sq jY]),[Dg,⟨.exit 0,(ik [6] [.ref 0] [.sq jY])⟩],rQ L⟩) (b:=jf (V 84) 61) (.l (p:=⟨7860,[],(ik [0,6,7] [.s,.ref 0,.j] [.sq jY]),[⟨.exit 2,(ik [0,6,7] [.s,.ref 0,.j] [.sq jY])⟩],Mz L⟩) (b:=jf (V 84) 7860) .n (FR L)) (A6 L)) tV
def yj(f:Lo):lr (Int× (List (List iW)))->Option ((lr (Int× (List (List iW))))⊕ ((lr ((List (List iW)))))):=λe=>match e with
 | (b,c,a,d)=>bif(decide (a< (b.length:Int)))then(e_ (0<=a/\a< (b.length:Int)) (bif(decide ((b.getD a.toNat (0,(a_ #[]),0,0,(a_ #[]),0,0)).1=3))then(e_ (0<=a/\a< (b.length:Int)) (bif(decide ((b.getD a.toNat (0,(a_ #[]),0,0,(a_ #[]),0,0)).2.1=(a_ #[59])))then(e_ (0<=c/\c<=a/\a<=a/\a<=(b.length:Int)) (e_ (d.length+([((b.take a.toNat).drop c.toNat)]).length<=c_) (U (.inl (b,(g_ .i64 (a+1)),(g_ .i64 (a+1)),(d++([((b.take a.toNat).drop c.toNat)])))))))else(U (.inl (b,c,(g_ .i64 (a+1)),d)))))else(U (.inl (b,c,(g_ .i64 (a+1)),d)))))else(U (.inr (b,c,d)))
def A7(a:Lo):lr (Int× (List (List iW)))->Option ((lr ((List (List iW))))):=a.run (yj a)
def FT(b:Lo)(c:List iW):Option (vH Int):=
 d' (A7 b (c,0,0,[])) λ(a,d,e)=>bif(decide (d< (a.length:Int)))then(e_ (0<=(g_ .i64 ((a.length:Int)-1))/\ (g_ .i64 ((a.length:Int)-1))< (a.length:Int)) (U ([],(a.getD ((g_ .i64 ((a.length:Int)-1)).toNat) (0,(a_ #[]),0,0,(a_ #[]),0,0)).2.2.2.2.2.1,2)))else(U (e,0,0))
noncomputable def YEK(L:Lo):List hM:=iL 727 zZ (ik [0] [.l jY] []) (.tp [.l ot,.j,.j]) [] (FT L)::YEJ L
theorem Ud:GY YEK:=λ{L} h=>
 (Uc h).p (F:=(V 85)) _ (.l (p:=⟨61,[(5,zz,zj)],(ik [0,5,6,7] [.l jY,.ref 0,.j,.j] [.sq ot]),[⟨.exit 0,(ik [0,5,6] [.l jY,.ref 0,.j] [.sq ot])⟩],A7 L⟩) (b:=jf (V 85) 61) .n (yj L)) tV
def MB(e:Lo):vH ((List (List iW)))->Option ((vH ((List (List iW))))⊕ (((List (List iW))))):=λd=>match d with
 | (b,a,c)=>bif(decide (a< (b.length:Int)))then(e_ (0<=a/\a< (b.length:Int)) (bif(decide (0< ((b.getD a.toNat []).length:Int)))then(e_ (0<=a/\a< (b.length:Int)) (e_ (c.length+([(b.getD a.toNat [])]).length<=c_) (U (.inl (b,(g_ .i64 (a+1)),(c++([(b.getD a.toNat [])])))))))else(U (.inl (b,(g_ .i64 (a+1)),c)))))else(U (.inr c))
def Ue(a:Lo):vH ((List (List iW)))->Option (((List (List iW)))):=a.run (MB a)
def MC(a:Lo)(d:ByteArray):Option (vH Int):=
 d' (MA a d) λ(f,g,_,b)=>bif(!decide (b=0))then(U ([],g,b))else(d' (FT a f) λ(h,i,c)=>bif(!decide (c=0))then(U ([],i,c))else(d' (Ue a (h,0,[])) λe=>U (e,0,0)))
noncomputable def YEL(L:Lo):List hM:=iL 677 zZ kj (.tp [.l ot,.j,.j]) [] (MC L)::YEK L
theorem Uf:GY YEL:=λ{L} h=>
 (Ud h).p (F:=(V 37)) _ (.l (p:=⟨509,[(10,zz,zj)],(ik [9,10,11] [.l ot,.ref 0,.j] [.sq ot]),[⟨.exit 0,(ik [10] [.ref 0] [.sq ot])⟩],Ue L⟩) (b:=jf (V 37) 509) .n (MB L)) tV
def yk(d:Lo)(b:List iW)(a:Int)(c:Bool):Option (Bool×lr Bool):=
 bif(decide (a< (b.length:Int)))then(e_ (0<=a/\a< (b.length:Int)) (U ((decide ((b.getD a.toNat (0,(a_ #[]),0,0,(a_ #[]),0,0)).1=1)),b,a,c)))else(U (zj,b,a,c))
noncomputable def YEM(L:Lo):List hM:=iL 788 zj kP .b [iy] (u3 (yk L):)::YEL L
theorem Ug:GY YEM:=λ{L} h=>
 (Uf h).i (F:=(V 153 [] (U []))) _ .n tV
def nE(c:Lo)(d:List iW)(e:Int)(f:Bool):Option (qs Bool):=
 d' (yk c d e f) λ(g,b,a,h)=>bif(!g)then(U ((a_ #[]),b,a,zZ))else(e_ (0<=(g_ .i64 ((g_ .i64 (a+1))-1))/\ (g_ .i64 ((g_ .i64 (a+1))-1))< (b.length:Int)) (U ((b.getD ((g_ .i64 ((g_ .i64 (a+1))-1)).toNat) (0,(a_ #[]),0,0,(a_ #[]),0,0)).2.1,b,(g_ .i64 (a+1)),h)))
noncomputable def YEN(L:Lo):List hM:=iL 728 zj kP .s [iy] (u3 (nE L):)::YEM L
theorem Uh:GY YEN:=λ{L} h=>
 (Ug h).i (F:=(V 86 [] (U []))) _ .n tV
def vI(e:Lo)(d:ByteArray)(b:List iW)(a:Int)(c:Bool):Option (Bool×lr Bool):=
 bif(decide (a< (b.length:Int)))then(e_ (0<=a/\a< (b.length:Int)) (bif(decide ((b.getD a.toNat (0,(a_ #[]),0,0,(a_ #[]),0,0)).1=3))then(e_ (0<=a/\a< (b.length:Int)) (U ((decide ((b.getD a.toNat (0,(a_ #[]),0,0,(a_ #[]),0,0)).2.1=d)),b,a,c)))else(U (zj,b,a,c))))else(U (zj,b,a,c))
noncomputable def YEO(L:Lo):List hM:=iL 789 zj vw .b [iy] (u4 (vI L):)::YEN L
theorem Ui:GY YEO:=λ{L} h=>
 (Uh h).i (F:=(V 154 [] (U []))) _ .n tV
def mF(c:Lo)(d:ByteArray)(e:List iW)(f:Int)(g:Bool):Option (lr Bool):=
 d' (vI c d e f g) λ(h,a,b,i)=>bif h then(U (a,(g_ .i64 (b+1)),i))else(U (a,b,zZ))
noncomputable def A8(L:Lo):List hM:=iL 729 zj vw (.tp []) [iy] (u4 (mF L):)::YEO L
theorem Uj:GY A8:=λ{L} h=>
 (Ui h).i (F:=(V 87 [] (U []))) _ .n tV
noncomputable abbrev YpM:kT:=V 88 [] (U [.f [2]])
def MD(b:Lo):kL (List ByteArray)->Option ((kL (List ByteArray))⊕ ((kL (List ByteArray)))):=λj=>match j with
 | (g,h,i,a)=>d' (vI b (a_ #[44]) g h i) λ(k,c,d,e)=>bif k then(d' (nE b c (g_ .i64 (d+1)) e) λ(f,m,n,o)=>e_ (a.length+[f].length<=c_) (U (.inl (m,n,o,(a++[f])))))else(U (.inr (c,d,e,a)))
def ME(a:Lo):kL (List ByteArray)->Option ((kL (List ByteArray))):=a.run (MD a)
def wA(a:Lo)(f:List iW)(g:Int)(h:Bool):Option ((List ByteArray)×lr Bool):=
 d' (yk a f g h) λ(i,b,c,d)=>bif(!i)then(U ([],b,c,d))else(d' (nE a b c d) λ(e,j,k,m)=>e_ ([e].length<=c_) (d' (ME a (j,k,m,[e])) λ(n,o,p,q)=>U (q,n,o,p)))
end Go.Abs.iA
namespace Go.Abs.iA
open Go Go.Abs Go.Proofs
set_option maxRecDepth 100000
set_option maxHeartbeats 4000000
set_option synthInstance.maxSize 100000
set_option synthInstance.maxHeartbeats 1000000
noncomputable def A9(L:Lo):List hM:=iL 730 zj kP (.l ij) [iy] (u3 (wA L):)::A8 L
theorem Uk:GY A9:=λ{L} h=>
 (Uj h).i (F:=YpM) _ (.l (p:=⟨62,[],sE,[⟨.exit 0,sE⟩],ME L⟩) (b:=jf YpM 62) .n (MD L)) tV
def yl(d:Lo)(b:List iW)(a:Int)(c:Bool):Option (Int×Int×qs Bool):=
 bif(decide ((b.length:Int)<=a))then(U (0,0,(a_ #[]),b,a,zZ))else(e_ (0<=a/\a< (b.length:Int)) (bif(!decide ((b.getD a.toNat (0,(a_ #[]),0,0,(a_ #[]),0,0)).1=2))then(U (0,0,(a_ #[]),b,a,zZ))else(e_ (0<=(g_ .i64 ((g_ .i64 (a+1))-1))/\ (g_ .i64 ((g_ .i64 (a+1))-1))< (b.length:Int)) (U ((b.getD ((g_ .i64 ((g_ .i64 (a+1))-1)).toNat) (0,(a_ #[]),0,0,(a_ #[]),0,0)).2.2.1,(b.getD ((g_ .i64 ((g_ .i64 (a+1))-1)).toNat) (0,(a_ #[]),0,0,(a_ #[]),0,0)).2.2.2.1,(b.getD ((g_ .i64 ((g_ .i64 (a+1))-1)).toNat) (0,(a_ #[]),0,0,(a_ #[]),0,0)).2.2.2.2.1,b,(g_ .i64 (a+1)),c)))))
noncomputable def A'(L:Lo):List hM:=iL 732 zj kP (nO) [iy] (u3 (yl L):)::A9 L
theorem Ul:GY A':=λ{L} h=>
 (Uk h).i (F:=(V 90 [] (U []))) _ .n tV
def A_(d:Lo)(e:List iW)(f:Int)(g:Bool):Option (Int×lr Bool):=
 d' (yl d e f g) λ(h,a,_,b,c,i)=>bif(!decide (h=1))then(U (a,b,c,zZ))else(U (a,b,c,i))
noncomputable def Ba(L:Lo):List hM:=iL 731 zj kP .j [iy] (u3 (A_ L):)::A' L
theorem Um:GY Ba:=λ{L} h=>
 (Ul h).i (F:=(V 89 [] (U []))) _ .n tV
def FU(a:Lo)(e:List iW)(f:Int)(g:Bool):Option (kq (qs Bool)):=
 d' (yk a e f g) λ(h,b,c,d)=>bif h then(d' (nE a b c d) λ(i,j,k,m)=>U (i,0,0,(a_ #[]),j,k,m))else(d' (yl a b c d) λ(n,o,p,q,r,s)=>U ((a_ #[]),n,o,p,q,r,s))
noncomputable def Bb(L:Lo):List hM:=iL 823 zj kP (.ag [.s,.j,.j,.s]) [iy] (u3 (FU L):)::Ba L
theorem Un:GY Bb:=λ{L} h=>
 (Um h).i (F:=(V 219 [] (U []))) _ .n tV
noncomputable abbrev YpN:kT:=V 155 [] (U [.f [2]])
def MF(c:Lo):ou (List lP)->Option ((ou (List lP))⊕ ((ou (List lP)))):=λv=>match v with
 | (s,t,u,d,e,f,a)=>d' (vI c (a_ #[41]) s t u) λ(w,g,h,b)=>bif(!w)then(bif(!b)then(bif(decide (0< (a.length:Int)))then(d' (mF c (a_ #[44]) g h b) λi=>d' (FU c i.1 i.2.1 i.2.2) λ(j,k,m,n,x,y,z)=>e_ (a.length+([(j,k,m,n)]).length<=c_) (U (.inl (x,y,z,d,e,f,(a++([(j,k,m,n)]))))))else(d' (FU c g h b) λ(o,p,q,r,a0,A,B)=>e_ (a.length+([(o,p,q,r)]).length<=c_) (U (.inl (a0,A,B,d,e,f,(a++([(o,p,q,r)])))))))else(U (.inr (g,h,b,d,e,f,a))))else(U (.inr (g,h,b,d,e,f,a)))
def Eb(a:Lo):ou (List lP)->Option ((ou (List lP))):=a.run (MF a)
def Jn(a:Lo)(d:List iW)(e:Int)(f:Bool):Option (ByteArray× (List lP)×lr Bool):=
 d' (nE a d e f) λ(g,h,i,j)=>d' (mF a (a_ #[40]) h i j) λb=>d' (Eb a (b.1,b.2.1,b.2.2,(a_ #[]),g,[],[])) λ(k,m,n,_,o,_,p)=>d' (mF a (a_ #[41]) k m n) λc=>U (o,p,c.1,c.2.1,c.2.2)
noncomputable def Bc(L:Lo):List hM:=iL 790 zj kP (.ag [.s,.l (cs [.s,I,I,.s])]) [iy] (u3 (Jn L):)::Bb L
theorem Uo:GY Bc:=λ{L} h=>
 (Un h).i (F:=YpN) _ (.l (p:=⟨30,[(2,U 1,zj),(3,U 1,zj)],tQ,[⟨.exit 0,tQ⟩],Eb L⟩) (b:=jf YpN 30) .n (MF L)) tV
noncomputable abbrev YpO:kT:=V 91 [] (U [.o [(1,U 6,zj),(1,U 4,zj),(1,U 9,zj),(1,U 10,zj),(1,U 13,zj),(1,U 14,zj),(1,U 12,zj),(1,U 8,zj)]])
def MG(t:Lo):oY (rE (List Int))->Option ((oY (rE (List Int)))⊕ ((oY (rE (List Int))))):=λz=>match z with
 | (w,x,y,c,d,e,f,g,h,i,j,k,m,n,o,a,p,q)=>d' (vI t (a_ #[44]) w x y) λ(a0,r,s,b)=>bif a0 then(bif(!b)then(d' (Jn t r (g_ .i64 (s+1)) b) λ(u,v,A,B,C)=>e_ (a.length+([(u,v)]).length<=c_) (U (.inl (A,B,C,c,d,e,f,g,h,i,j,k,m,n,o,(a++([(u,v)])),p,q))))else(U (.inr (r,s,b,c,d,e,f,g,h,i,j,k,m,n,o,a,p,q))))else(U (.inr (r,s,b,c,d,e,f,g,h,i,j,k,m,n,o,a,p,q)))
def MH(a:Lo):oY (rE (List Int))->Option ((oY (rE (List Int)))):=a.run (MG a)
def MI(a:Lo)(g:List iW)(h:Int)(i:Bool)(j k:ByteArray)(m n:ByteArray)(o:Int):Option (oY (rE (List Int))):=
 d' (mF a (a_ #[40]) g h i) λb=>d' (wA a b.1 b.2.1 b.2.2) λ(p,q,r,s)=>d' (mF a (a_ #[41]) q r s) λc=>d' (mF a (a_ #[58]) c.1 c.2.1 c.2.2) λd=>d' (Jn a d.1 d.2.1 d.2.2) λ(e,f,t,u,v)=>e_ (([(e,f)]).length<=c_) (d' (MH a (t,u,v,j,k,m,n,[],o,p,[],[],[],[],[],[(e,f)],[],[])) λ(w,x,y,z,a0,A,B,C,D,E,F,G,H,I,J,K,L,M)=>U (w,x,y,z,a0,A,B,C,D,E,F,G,H,I,J,K,L,M))
noncomputable def Bd(L:Lo):List hM:=iL 733 zj Db (.tp []) [iy,C3,.sq ij,.sq jP,.sq iH,.sq lB,.sq (cs [I]),.sq jj,.sq lC,.sq (cs [I])] (u8 (MI L):)::Bc L
theorem Up:GY Bd:=λ{L} h=>
 (Uo h).i (F:=YpO) _ (.l (p:=⟨63,[(1,U 4,zj),(1,U 6,zj),(1,U 8,zj),(1,U 9,zj),(1,U 10,zj),(1,U 12,zj),(1,U 13,zj),(1,U 14,zj)],rD,[⟨.exit 0,rD⟩],MH L⟩) (b:=jf YpO 63) .n (MG L)) tV
def Jo(c:Lo)(d:ByteArray)(e:List iW)(f:Int)(g:Bool):Option (lr Bool):=
 d' (nE c e f g) λ(h,a,b,i)=>bif(!decide (h=d))then(U (a,b,zZ))else(U (a,b,i))
noncomputable def Be(L:Lo):List hM:=iL 791 zj vw (.tp []) [iy] (u4 (Jo L):)::Bd L
theorem Uq:GY Be:=λ{L} h=>
 (Up h).i (F:=(V 156 [] (U []))) _ .n tV
def Ur(a:Lo):Option (List ByteArray):=
 U ([(a_ #[101,113,117,97,108]),(a_ #[101,100,105,116,115]),(a_ #[103,114,97,109,115]),(a_ #[108,101,97,100,105,110,103])])
noncomputable def Bf(L:Lo):List hM:=iL 711 zZ qn (.l ij) [] (λ_=>Ur L)::Be L
theorem Us:GY Bf:=λ{L} h=>
 (Uq h).p (F:=(V 220)) _ .n tV
def MJ(e:Lo):(List ByteArray)×ByteArray×Int->Option (((List ByteArray)×ByteArray×Int)⊕ (Int⊕Unit)):=λd=>match d with
 | (b,c,a)=>bif(decide (a< (b.length:Int)))then(e_ (0<=a/\a< (b.length:Int)) (bif(decide ((b.getD a.toNat (a_ #[]))=c))then(U (.inr (.inl a)))else(U (.inl (b,c,(g_ .i64 (a+1)))))))else(U (.inr (.inr ())))
def Ut(a:Lo):(List ByteArray)×ByteArray×Int->Option (Int⊕Unit):=a.run (MJ a)
def Uu(a:Lo)(b:List ByteArray)(c:ByteArray):Option Int:=
 d' (Ut a (b,c,0)) λd=>iV d (λe=>U e) (λf=>U (-1))
noncomputable def Bg(L:Lo):List hM:=iL 272 zZ (ik [0,1] [.l ij,.s] []) .j [] (u2 (Uu L):)::Bf L
theorem Uv:GY Bg:=λ{L} h=>
 (Us h).p (F:=(V 221)) _ (.l (p:=⟨13,[],(ik [0,1,5] [.l ij,.s,.j] []),[vz,nC],Ut L⟩) (b:=jf (V 221) 13) .n (MJ L)) tV
def Jp(a:Lo)(b:List ByteArray)(c:ByteArray):Option Int:=
 d' (Uu a b c) λd=>U d
noncomputable def Bh(L:Lo):List hM:=iL 700 zZ (ik [0,1] [.l ij,.s] []) .j [] (u2 (Jp L):)::Bg L
theorem Uw:GY Bh:=λ{L} h=>
 (Uv h).p (F:=(V 158)) _ .n tV
noncomputable abbrev YpP:kT:=V 157 [(15,[.j 0])] (U [])
def Jq(b:Lo):kL (Int×Int×Int×kq (Int×ByteArray))->Option ((kL (Int×Int×Int×ByteArray))):=λm=>match m with
 | (h,i,j,_,_,_,_,c,a,k,_)=>d' (nE b h i j) λ(d,e,f,g)=>bif(decide (1<a))then(d' (A_ b e f g) λ(n,o,p,q)=>U (o,p,q,c,a,n,d))else(U (e,f,g,c,a,k,d))
def Jr(a:Lo)(e:List iW)(f:Int)(g:Bool):Option (Int×Int×Int×qs Bool):=
 d' (Ur a) λh=>d' (nE a e f g) λ(i,c,d,j)=>d' (Jp a h i) λb=>bif(decide ((g_ .i64 (1+b))=0))then(d' (Jq a (c,d,zZ,0,0,0,(a_ #[]),0,(g_ .i64 (1+b)),0,(a_ #[]))) λ(k,m,n,o,p,q,r)=>U (o,p,q,r,k,m,n))else(d' (Jq a (c,d,j,0,0,0,(a_ #[]),0,(g_ .i64 (1+b)),0,(a_ #[]))) λ(s,t,u,v,w,x,y)=>U (v,w,x,y,s,t,u))
noncomputable def Bi(L:Lo):List hM:=iL 792 zj kP (.ag [.j,.j,.j,.s]) [iy] (u3 (Jr L):)::Bh L
theorem Ux:GY Bi:=λ{L} h=>
 (Uw h).i (F:=YpP) _ (.j (p:=⟨0,[],(ik [0,2,3] [.ptr 0 0 0,.ptr 1 0 0,.ptr 2 0 0] [iy,.st [.j,.j,.j,.s],.st [.j,.j,.j,.s]]),[⟨.ret,(ik [2,0] [.ptr 1 0 0,.ptr 0 0 0] [iy,.st [.j,.j,.j,.s]])⟩],Jq L⟩) (b:=jf YpP 0) .n) tV
def Uy(a:Lo):Option (List ByteArray):=
 U ([(a_ #[102,105,114,115,116]),(a_ #[102,114,101,113,117,101,110,116]),(a_ #[108,111,110,103,101,115,116]),(a_ #[108,101,97,115,116]),(a_ #[103,114,101,97,116,101,115,116])])
noncomputable def Bj(L:Lo):List hM:=iL 712 zZ qn (.l ij) [] (λ_=>Uy L)::Bi L
theorem Uz:GY Bj:=λ{L} h=>
 (Ux h).p (F:=(V 159)) _ .n tV
noncomputable abbrev ML:kT:=V 92 [(1951,[.f [4]])] (U [.o [(1,U 6,zj),(1,U 4,zj),(1,U 9,zj),(1,U 10,zj),(1,U 13,zj),(1,U 14,zj),(1,U 12,zj),(1,U 8,zj)]])
def MM(u:Lo):xw (List Int)->Option ((xw (List Int))⊕ ((xw (List Int)))):=λA=>match A with
 | (z,a0,B,c,d,e,f,g,h,i,j,a,k,m,n,o,p,q,r)=>d' (vI u (a_ #[44]) z a0 B) λ(C,s,t,b)=>bif C then(bif(!b)then(d' (Jr u s (g_ .i64 (t+1)) b) λ(v,w,x,y,D,E,F)=>e_ (a.length+([(v,w,x,y)]).length<=c_) (U (.inl (D,E,F,c,d,e,f,g,h,i,j,(a++([(v,w,x,y)])),k,m,n,o,p,q,r))))else(U (.inr (s,t,b,c,d,e,f,g,h,i,j,a,k,m,n,o,p,q,r))))else(U (.inr (s,t,b,c,d,e,f,g,h,i,j,a,k,m,n,o,p,q,r)))
def MN(a:Lo):xw (List Int)->Option ((xw (List Int))):=a.run (MM a)
def MO(d:Lo):pH (List Int)->Option ((pH (List Int))⊕ ((pH (List Int)))):=λa0=>match a0 with
 | (x,y,z,e,f,g,h,i,j,k,m,n,o,p,q,r,s,t)=>d' (yk d x y z) λ(A,b,a,c)=>bif A then(e_ (0<=a/\a< (b.length:Int)) (bif(decide ((b.getD a.toNat (0,(a_ #[]),0,0,(a_ #[]),0,0)).2.1=(a_ #[109,97,116,99,104])))then(bif(!c)then(d' (Jr d b (g_ .i64 (a+1)) c) λ(B,C,D,E,F,G,H)=>d' (MN d (F,G,H,e,f,g,h,i,j,k,m,[(B,C,D,E)],n,o,p,q,r,s,t)) λ(I,J,K,L,M,N,O,P,Q,R,S,v,c0,T,c2,V,W,w,X)=>d' (mF d (a_ #[124]) I J K) λu=>e_ (w.length+[v].length<=c_) (U (.inl (u.1,u.2.1,u.2.2,L,M,N,O,P,Q,R,S,c0,T,c2,V,W,(w++[v]),X))))else(U (.inr (b,a,c,e,f,g,h,i,j,k,m,n,o,p,q,r,s,t))))else(U (.inr (b,a,c,e,f,g,h,i,j,k,m,n,o,p,q,r,s,t)))))else(U (.inr (b,a,c,e,f,g,h,i,j,k,m,n,o,p,q,r,s,t)))
def MP(a:Lo):pH (List Int)->Option ((pH (List Int))):=a.run (MO a)
def MQ(v:Lo):pG (pH (List Int))->Option ((pG (pH (List Int)))⊕ ((pH (List Int)))):=λx=>match x with
 | (b,a,e,f,w,g,h,i,j,k,m,n,o,p,q,r,s,t,u,c)=>bif(decide (a< (b.length:Int)))then(d' (Uy v) λy=>e_ (0<=a/\a< (b.length:Int)) (d' (Jp v y (b.getD a.toNat (a_ #[]))) λd=>bif(decide (d<0))then(e_ (c.length+([(g_ .i64 (d+1))]).length<=c_) (U (.inl (b,(g_ .i64 (a+1)),e,f,zZ,g,h,i,j,k,m,n,o,p,q,r,s,t,u,(c++([(g_ .i64 (d+1))]))))))else(e_ (c.length+([(g_ .i64 (d+1))]).length<=c_) (U (.inl (b,(g_ .i64 (a+1)),e,f,w,g,h,i,j,k,m,n,o,p,q,r,s,t,u,(c++([(g_ .i64 (d+1))]))))))))else(U (.inr (e,f,w,g,h,i,j,k,m,n,o,p,q,r,s,t,u,c)))
def MS(a:Lo):pG (pH (List Int))->Option ((pH (List Int))):=a.run (MQ a)
def MT(a:Lo)(e:List iW)(f:Int)(g:Bool)(h i:ByteArray)(j k:ByteArray)(m:Int):Option (pH (List Int)):=
 d' (Jo a (a_ #[98,108,111,99,107]) e f g) λb=>d' (wA a b.1 b.2.1 b.2.2) λ(n,o,p,q)=>d' (mF a (a_ #[124]) o p q) λc=>d' (MP a (c.1,c.2.1,c.2.2,h,i,j,k,n,[],m,[],[],[],[],[],[],[],[])) λ(r,s,t,u,v,w,x,y,z,a0,A,B,C,D,E,F,G,H)=>d' (Jo a (a_ #[115,117,114,118,105,118,101]) r s t) λd=>d' (wA a d.1 d.2.1 d.2.2) λ(I,J,K,L)=>d' (MS a (I,0,J,K,L,u,v,w,x,y,z,a0,A,B,C,D,E,F,G,H)) λ(M,N,O,P,Q,R,S,c0,T,c2,V,W,X,Y,Z,c8,c9,d0)=>U (M,N,O,P,Q,R,S,c0,T,c2,V,W,X,Y,Z,c8,c9,d0)
noncomputable def Bk(L:Lo):List hM:=iL 734 zj Db (.tp []) [iy,C',.sq jP,.sq iH,.sq lB,.sq (cs [I]),.sq jj,.sq lC,.sq (cs [I])] (u8 (MT L):)::Bj L
theorem UA:GY Bk:=λ{L} h=>
 (Uz h).i (F:=ML) _ (.l (p:=⟨255,[(1,U 6,zj),(1,U 8,zj),(1,U 9,zj),(1,U 10,zj),(1,U 12,zj),(1,U 13,zj),(1,U 14,zj)],(ik [0,1,5,6] [.ptr 0 0 0,.ptr 1 0 0,.l ij,.j] [iy,C',.sq jP,.sq iH,.sq lB,.sq (cs [I]),.sq jj,.sq lC,.sq (cs [I])]),[⟨.exit 4,C_⟩],MS L⟩) (b:=jf ML 255) (.l (p:=⟨30,[(1,U 6,zj),(1,U 8,zj),(1,U 9,zj),(1,U 10,zj),(1,U 12,zj),(1,U 13,zj),(1,U 14,zj)],C_,[⟨.exit 0,C_⟩],MP L⟩) (b:=jf ML 30) (.l (p:=⟨974,[(1,U 6,zj),(1,U 8,zj),(1,U 9,zj),(1,U 10,zj),(1,U 12,zj),(1,U 13,zj),(1,U 14,zj)],HL,[⟨.exit 2,HL⟩],MN L⟩) (b:=jf ML 974) .n (MM L)) (MO L)) (MQ L)) tV
def Js(d:Lo)(g:List iW)(h:Int)(i:Bool):Option (Int×kq (qs Bool)):=
 d' (yl d g h i) λ(e,c,j,k,m,n)=>d' (vI d (a_ #[46]) k m n) λ(o,a,b,f)=>bif(!o)then(U (0,(a_ #[]),e,c,j,a,b,f))else(bif(!decide (e=1))then(U (0,(a_ #[]),0,0,(a_ #[]),a,(g_ .i64 (b+1)),zZ))else(bif(decide (c<1))then(U (0,(a_ #[]),0,0,(a_ #[]),a,(g_ .i64 (b+1)),zZ))else(bif(decide (3<c))then(U (0,(a_ #[]),0,0,(a_ #[]),a,(g_ .i64 (b+1)),zZ))else(d' (nE d a (g_ .i64 (b+1)) f) λ(p,q,r,s)=>U (c,p,0,0,(a_ #[]),q,r,s)))))
noncomputable def Bl(L:Lo):List hM:=iL 793 zj kP (.ag [.j,.s,.j,.j,.s]) [iy] (u3 (Js L):)::Bk L
theorem UB:GY Bl:=λ{L} h=>
 (UA h).i (F:=(V 160 [] (U []))) _ .n tV
noncomputable abbrev YpQ:kT:=V 161 [] (U [])
def MU(i:Lo):pG (lr Bool)->Option ((pG (lr Bool))⊕ ((Int×lr Bool)⊕ (lr Bool))):=λj=>match j with
 | (b,a,c,d,e)=>bif(decide (a< (b.length:Int)))then(e_ (0<=a/\a< (b.length:Int)) (d' (vI i (b.getD a.toNat (a_ #[])) c d e) λ(k,f,g,h)=>bif k then(U (.inr (.inl ((g_ .i64 (a+1)),f,(g_ .i64 (g+1)),h))))else(U (.inl (b,(g_ .i64 (a+1)),f,g,h)))))else(U (.inr (.inr (c,d,e))))
def Ec(a:Lo):pG (lr Bool)->Option ((Int×lr Bool)⊕ (lr Bool)):=a.run (MU a)
def MW(b:Lo)(c:List iW)(d:Int)(e:Bool):Option (Int×lr Bool):=
 d' (Ec b ([(a_ #[61]),(a_ #[33,61]),(a_ #[60]),(a_ #[60,61])],0,c,d,e)) λf=>iV f (λ(g,h,i,j)=>U (g,h,i,j)) (λa=>U (0,a.1,a.2.1,zZ))
noncomputable def Bm(L:Lo):List hM:=iL 794 zj kP .j [iy] (u3 (MW L):)::Bl L
theorem UC:GY Bm:=λ{L} h=>
 (UB h).i (F:=YpQ) _ (.l (p:=⟨29,[],(ik [0,3,4] [.ptr 0 0 0,.l ij,.j] [iy]),[⟨.ret,(ik [2,0] [.j,.ptr 0 0 0] [iy])⟩,⟨.exit 0,kP⟩],Ec L⟩) (b:=jf YpQ 29) .n (MU L)) tV
noncomputable abbrev UD:kT:=V 93 [(11,[.j 0])] (U [.o [(1,U 6,zj),(1,U 4,zj),(1,U 9,zj),(1,U 10,zj),(1,U 13,zj),(1,U 14,zj),(1,U 12,zj),(1,U 8,zj)]])
def Jt(a:Lo):oY (rE (List Int))->Option ((oY (rE (List Int)))):=λA=>match A with
 | (p,q,r,s,t,u,v,w,x,y,z,a0,B,b,h,C,D,E)=>d' (Js a p q r) λ(c,d,e,f,g,F,G,H)=>e_ (b.length+([(c,d,e,f,g)]).length<=c_) (d' (MW a F G H) λ(i,I,J,K)=>e_ (h.length+[i].length<=c_) (d' (Js a I J K) λ(j,k,m,n,o,L,M,N)=>e_ ((b++([(c,d,e,f,g)])).length+([(j,k,m,n,o)]).length<=c_) (U (L,M,N,s,t,u,v,w,x,y,z,a0,B,((b++([(c,d,e,f,g)]))++([(j,k,m,n,o)])),(h++[i]),C,D,E))))
def MX(t:Lo):oY (rE (List Int))->Option ((oY (rE (List Int)))⊕ ((oY (rE (List Int))))):=λv=>match v with
 | (a,b,c,e,f,g,h,i,j,k,m,n,o,p,d,q,r,s)=>bif(decide (b< (a.length:Int)))then(bif(!c)then(bif(decide (0< (d.length:Int)))then(d' (mF t (a_ #[44]) a b c) λu=>d' (Jt t (u.1,u.2.1,u.2.2,e,f,g,h,i,j,k,m,n,o,p,d,q,r,s)) λ(w,x,y,z,a0,A,B,C,D,E,F,G,H,I,J,K,L,M)=>U (.inl (w,x,y,z,a0,A,B,C,D,E,F,G,H,I,J,K,L,M)))else(d' (Jt t (a,b,c,e,f,g,h,i,j,k,m,n,o,p,d,q,r,s)) λ(N,O,P,Q,R,S,c0,T,c2,V,W,X,Y,Z,c8,c9,d0,d1)=>U (.inl (N,O,P,Q,R,S,c0,T,c2,V,W,X,Y,Z,c8,c9,d0,d1))))else(U (.inr (a,b,c,e,f,g,h,i,j,k,m,n,o,p,d,q,r,s))))else(U (.inr (a,b,c,e,f,g,h,i,j,k,m,n,o,p,d,q,r,s)))
def Ed(a:Lo):oY (rE (List Int))->Option ((oY (rE (List Int)))):=a.run (MX a)
def MY(a:Lo)(b:List iW)(c:Int)(d:Bool)(e f:ByteArray)(g h:ByteArray)(i:Int):Option (oY (rE (List Int))):=
 d' (Ed a (b,c,d,e,f,g,h,[],i,[],[],[],[],[],[],[],[],[])) λ(j,k,m,n,o,p,q,r,s,t,u,v,w,x,y,z,a0,A)=>U (j,k,m,n,o,p,q,r,s,t,u,v,w,x,y,z,a0,A)
noncomputable def Bn(L:Lo):List hM:=iL 735 zj Db (.tp []) [iy,C3,.sq ij,.sq jP,.sq iH,.sq lB,.sq (cs [I]),.sq jj,.sq lC,.sq (cs [I])] (u8 (MY L):)::Bm L
theorem UE:GY Bn:=λ{L} h=>
 (UC h).i (F:=UD) _ (.l (p:=⟨1,[(1,U 4,zj),(1,U 6,zj),(1,U 8,zj),(1,U 9,zj),(1,U 10,zj),(1,U 12,zj),(1,U 13,zj),(1,U 14,zj)],rD,[⟨.exit 0,rD⟩],Ed L⟩) (b:=jf UD 1) (.j (p:=⟨0,[(1,U 4,zj),(1,U 6,zj),(1,U 8,zj),(1,U 9,zj),(1,U 10,zj),(1,U 12,zj),(1,U 13,zj),(1,U 14,zj)],rD,[⟨.kM,rD⟩],Jt L⟩) (b:=jf UD 0) .n) (MX L)) tV
noncomputable abbrev YpR:kT:=V 94 [] (U [.f [2]])
def MZ(b:Lo):kL (List ByteArray)->Option ((kL (List ByteArray))⊕ ((kL (List ByteArray)))):=λj=>match j with
 | (g,h,i,a)=>d' (yk b g h i) λ(k,c,d,e)=>bif k then(d' (nE b c d e) λ(f,m,n,o)=>e_ (a.length+[f].length<=c_) (U (.inl (m,n,o,(a++[f])))))else(U (.inr (c,d,e,a)))
def M0(a:Lo):kL (List ByteArray)->Option ((kL (List ByteArray))):=a.run (MZ a)
def FV(a:Lo)(b:List iW)(c:Int)(d:Bool):Option ((List ByteArray)×lr Bool):=
 d' (M0 a (b,c,d,[])) λ(e,f,g,h)=>U (h,e,f,g)
noncomputable def Bo(L:Lo):List hM:=iL 736 zj kP (.l ij) [iy] (u3 (FV L):)::Bn L
theorem UF:GY Bo:=λ{L} h=>
 (UE h).i (F:=YpR) _ (.l (p:=⟨14,[(3,zz,zj)],sE,[⟨.exit 0,sE⟩],M0 L⟩) (b:=jf YpR 14) .n (MZ L)) tV
def sK(b:Lo)(y:List iW)(z:Int)(a0:Bool)(c d:ByteArray)(e f:ByteArray)(g:List ByteArray)(h:Int)(i j:List ByteArray)(a:List kO)(k:List kz)(m:List xt)(n:List Int)(o:List vq)(p:List (List tP))(q:List Int):Option (ByteArray×zE (List kO)):=
 d' (nE b y z a0) λ(r,A,B,C)=>d' (vI b (a_ #[61]) A B C) λ(D,s,t,u)=>bif(!D)then(e_ (a.length+([(zZ,0,0,(a_ #[]))]).length<=c_) (U (r,s,t,u,c,d,e,f,g,h,i,j,k,m,n,o,p,q,(a++([(zZ,0,0,(a_ #[]))])))))else(d' (yl b s (g_ .i64 (t+1)) u) λ(v,w,x,E,F,G)=>e_ (a.length+([(zj,v,w,x)]).length<=c_) (U (r,E,F,G,c,d,e,f,g,h,i,j,k,m,n,o,p,q,(a++([(zj,v,w,x)])))))
end Go.Abs.iA
namespace Go.Abs.iA
open Go Go.Abs Go.Proofs
set_option maxRecDepth 100000
set_option maxHeartbeats 4000000
set_option synthInstance.maxSize 100000
set_option synthInstance.maxHeartbeats 1000000
noncomputable def Bp(L:Lo):List hM:=iL 795 zj rD .s [iy,HW,.sq ij,.dd,.sq iH,.sq lB,.sq (cs [I]),.sq jj,.sq lC,.sq (cs [I]),.sq jP] (λ(y,z,A,B,C,D,E,F,G,H,X,d,g,h,k,p,q,w)=>sK L y z A B C D E F G H X d g h k p q w:oY (rE (List Int))->Option (ByteArray×zE (List kO)))::Bo L
theorem UG:GY Bp:=λ{L} h=>
 (UF h).i (F:=(V 162 [] (U [.o [(1,U 6,zj),(1,U 4,zj),(1,U 9,zj),(1,U 10,zj),(1,U 13,zj),(1,U 14,zj),(1,U 12,zj),(1,U 8,zj)]]))) _ .n tV
noncomputable abbrev YpS:kT:=V 95 [] (U [.f [1],.o [(1000002,zz,zZ),(1,U 6,zj),(1,U 4,zj),(1,U 9,zj),(1,U 10,zj),(1,U 13,zj),(1,U 14,zj),(1,U 12,zj),(1,U 8,zj)]])
def M1(h:Lo):wx (List kO)->Option ((wx (List kO))⊕ ((wx (List kO)))):=λJ=>match J with
 | (K,L,M,i,j,k,m,n,o,p,a,b,c,d,e,f,g,q)=>d' (vI h (a_ #[44]) K L M) λ(N,r,s,t)=>bif N then(xU (d' (sK h r (g_ .i64 (s+1)) t i j k m n o p g q a b c d e f) λ(w,O,P,Q,R,S,c0,T,c2,V,W,u,x,y,z,a0,A,B,X)=>e_ (u.length=g.length) (e_ (x.length=a.length) (e_ (y.length=b.length) (e_ (z.length=c.length) (e_ (a0.length=d.length) (e_ (A.length=e.length) (e_ (B.length=f.length) (e_ (u.length+[w].length<=c_) (U (.inl (O,P,Q,R,S,c0,T,c2,V,W,x,y,z,a0,A,B,(u++[w]),X))))))))))) (d' (sK h r (g_ .i64 (s+1)) t i j k m n o p g q a b c d e f) λ(C,Y,Z,c8,c9,d0,d1,d2,d3,d4,d5,v,D,E,F,G,H,I,d6)=>e_ (v.length=g.length) (e_ (D.length=a.length) (e_ (E.length=b.length) (e_ (F.length=c.length) (e_ (G.length=d.length) (e_ (H.length=e.length) (e_ (I.length=f.length) (e_ (v.length+[C].length<=c_) (U (.inl (Y,Z,c8,c9,d0,d1,d2,d3,d4,d5,D,E,F,G,H,I,(v++[C]),d6))))))))))))else(U (.inr (r,s,t,i,j,k,m,n,o,p,a,b,c,d,e,f,g,q)))
def Ju(a:Lo):wx (List kO)->Option ((wx (List kO))):=a.run (M1 a)
def M2(a:Lo)(e1:List iW)(e2:Int)(e3:Bool)(i j:ByteArray)(k m:ByteArray)(n:List ByteArray)(o:Int)(p b:List ByteArray)(q:List kO)(c:List kz)(d:List xt)(e:List Int)(f:List vq)(g:List (List tP))(h:List Int):Option (wx (List kO)):=
 d' (yk a e1 e2 e3) λ(e4,u,v,w)=>bif e4 then(xU (d' (sK a u v w i j k m n o p b q c d e f g h) λ(z,e5,e6,e7,e8,e9,f0,f1,f2,f3,f4,x,a0,A,B,C,D,E,f5)=>e_ (x.length=b.length) (e_ (a0.length=c.length) (e_ (A.length=d.length) (e_ (B.length=e.length) (e_ (C.length=f.length) (e_ (D.length=g.length) (e_ (E.length=h.length) (e_ (x.length+[z].length<=c_) (d' (Ju a (e5,e6,e7,e8,e9,f0,f1,f2,f3,f4,a0,A,B,C,D,E,(x++[z]),f5)) λ(f6,f7,f8,f9,g0,g1,g2,g3,g4,g5,F,G,H,I,J,K,L,g6)=>d' (mF a (a_ #[45,62]) f6 f7 f8) λr=>d' (sK a r.1 r.2.1 r.2.2 f9 g0 g1 g2 g3 g4 g5 L g6 F G H I J K) λ(g7,g8,g9,h0,h1,h2,h3,h4,_,h5,h6,M,N,O,P,Q,R,S,h7)=>e_ (M.length=L.length) (e_ (N.length=F.length) (e_ (O.length=G.length) (e_ (P.length=H.length) (e_ (Q.length=I.length) (e_ (R.length=J.length) (e_ (S.length=K.length) (U (g8,g9,h0,h1,h2,h3,h4,[g7],h5,h6,N,O,P,Q,R,S,M,h7))))))))))))))))) (d' (sK a u v w i j k m n o p b q c d e f g h) λ(c0,h8,h9,i0,i1,i2,i3,i4,i5,i6,i7,y,T,c2,V,W,X,Y,i8)=>e_ (y.length=b.length) (e_ (T.length=c.length) (e_ (c2.length=d.length) (e_ (V.length=e.length) (e_ (W.length=f.length) (e_ (X.length=g.length) (e_ (Y.length=h.length) (e_ (y.length+[c0].length<=c_) (d' (Ju a (h8,h9,i0,i1,i2,i3,i4,i5,i6,i7,T,c2,V,W,X,Y,(y++[c0]),i8)) λ(i9,j0,j1,j2,j3,j4,j5,j6,j7,j8,Z,c8,c9,d0,d1,d2,d3,j9)=>d' (mF a (a_ #[45,62]) i9 j0 j1) λs=>d' (sK a s.1 s.2.1 s.2.2 j2 j3 j4 j5 j6 j7 j8 d3 j9 Z c8 c9 d0 d1 d2) λ(k0,k1,k2,k3,k4,k5,k6,k7,_,k8,k9,d4,d5,d6,d7,d8,d9,e0,m0)=>e_ (d4.length=d3.length) (e_ (d5.length=Z.length) (e_ (d6.length=c8.length) (e_ (d7.length=c9.length) (e_ (d8.length=d0.length) (e_ (d9.length=d1.length) (e_ (e0.length=d2.length) (U (k1,k2,k3,k4,k5,k6,k7,[k0],k8,k9,d5,d6,d7,d8,d9,e0,d4,m0))))))))))))))))))else(d' (mF a (a_ #[45,62]) u v w) λt=>d' (sK a t.1 t.2.1 t.2.2 i j k m n o p b q c d e f g h) λ(_,_,_,_,_,_,_,_,_,_,_,m1,m2,m3,m4,m5,m6,m7,_)=>e_ (m1.length=b.length) (e_ (m2.length=c.length) (e_ (m3.length=d.length) (e_ (m4.length=e.length) (e_ (m5.length=f.length) (e_ (m6.length=g.length) (e_ (m7.length=h.length) (zz))))))))
noncomputable def Bq(L:Lo):List hM:=iL 737 zj rD (.tp []) [iy,.st [.s,.s,.s,.s,.ref 10,.l ij,.ref 11,.j,.ref 4,.ref 5,.ref 6,.l ij,.ref 7,.ref 8,.ref 9],.dd,.dd,.sq iH,.sq lB,.sq (cs [I]),.sq jj,.sq lC,.sq (cs [I]),.sq ij,.sq jP] (λ(y,z,A,B,C,D,E,F,G,H,X,d,g,h,k,p,q,w)=>M2 L y z A B C D E F G H X d g h k p q w:oY (rE (List Int))->Option (wx (List kO)))::Bp L
theorem UH:GY Bq:=λ{L} h=>
 (UG h).i (F:=YpS) _ (.l (p:=⟨21,[(1,U 4,zj),(1,U 6,zj),(1,U 8,zj),(1,U 9,zj),(1,U 10,zj),(1,U 12,zj),(1,U 13,zj),(1,U 14,zj)],zt,[⟨.exit 0,zt⟩],Ju L⟩) (b:=jf YpS 21) .n (M1 L)) tV
noncomputable abbrev YpT:kT:=V 95 [] (U [.o [(1,U 6,zj),(1,U 4,zj),(1,U 9,zj),(1,U 10,zj),(1,U 13,zj),(1,U 14,zj),(1,U 12,zj),(1,U 8,zj)]])
def YpU(h:Lo):wx (List kO)->Option ((wx (List kO))⊕ ((wx (List kO)))):=λJ=>match J with
 | (K,L,M,i,j,k,m,n,o,p,a,b,c,d,e,f,g,q)=>d' (vI h (a_ #[44]) K L M) λ(N,r,s,t)=>bif N then(xU (d' (sK h r (g_ .i64 (s+1)) t i j k m n o p g q a b c d e f) λ(w,O,P,Q,R,S,c0,T,c2,V,W,u,x,y,z,a0,A,B,X)=>e_ (u.length=g.length) (e_ (x.length=a.length) (e_ (y.length=b.length) (e_ (z.length=c.length) (e_ (a0.length=d.length) (e_ (A.length=e.length) (e_ (B.length=f.length) (e_ (u.length+[w].length<=c_) (U (.inl (O,P,Q,R,S,c0,T,c2,V,W,x,y,z,a0,A,B,(u++[w]),X))))))))))) (d' (sK h r (g_ .i64 (s+1)) t i j k m n o p g q a b c d e f) λ(C,Y,Z,c8,c9,d0,d1,d2,d3,d4,d5,v,D,E,F,G,H,I,d6)=>e_ (v.length=g.length) (e_ (D.length=a.length) (e_ (E.length=b.length) (e_ (F.length=c.length) (e_ (G.length=d.length) (e_ (H.length=e.length) (e_ (I.length=f.length) (e_ (v.length+[C].length<=c_) (U (.inl (Y,Z,c8,c9,d0,d1,d2,d3,d4,d5,D,E,F,G,H,I,(v++[C]),d6))))))))))))else(U (.inr (r,s,t,i,j,k,m,n,o,p,a,b,c,d,e,f,g,q)))
def UI(a:Lo):wx (List kO)->Option ((wx (List kO))):=a.run (YpU a)
def Jv(a:Lo)(d4:List iW)(d5:Int)(d6:Bool)(i j:ByteArray)(k m:ByteArray)(n:List ByteArray)(o:Int)(p b:List ByteArray)(q:List kO)(c:List kz)(d:List xt)(e:List Int)(f:List vq)(g:List (List tP))(h:List Int):Option (zE (List kO)):=
 d' (yk a d4 d5 d6) λ(d7,u,v,w)=>bif d7 then(xU (d' (sK a u v w i j k m n o p b q c d e f g h) λ(z,d8,d9,e0,e1,e2,e3,e4,e5,e6,e7,x,a0,A,B,C,D,E,e8)=>e_ (x.length=b.length) (e_ (a0.length=c.length) (e_ (A.length=d.length) (e_ (B.length=e.length) (e_ (C.length=f.length) (e_ (D.length=g.length) (e_ (E.length=h.length) (e_ (x.length+[z].length<=c_) (d' (UI a (d8,d9,e0,e1,e2,e3,e4,e5,e6,e7,a0,A,B,C,D,E,(x++[z]),e8)) λ(e9,f0,f1,f2,f3,f4,f5,f6,f7,f8,F,G,H,I,J,K,L,f9)=>d' (mF a (a_ #[45,62]) e9 f0 f1) λr=>d' (sK a r.1 r.2.1 r.2.2 f2 f3 f4 f5 f6 f7 f8 L f9 F G H I J K) λ(_,_,_,_,_,_,_,_,_,_,_,g0,g1,g2,g3,g4,g5,g6,_)=>e_ (g0.length=L.length) (e_ (g1.length=F.length) (e_ (g2.length=G.length) (e_ (g3.length=H.length) (e_ (g4.length=I.length) (e_ (g5.length=J.length) (e_ (g6.length=K.length) (zz)))))))))))))))) (d' (sK a u v w i j k m n o p b q c d e f g h) λ(M,g7,g8,g9,h0,h1,h2,h3,h4,h5,h6,y,N,O,P,Q,R,S,h7)=>e_ (y.length=b.length) (e_ (N.length=c.length) (e_ (O.length=d.length) (e_ (P.length=e.length) (e_ (Q.length=f.length) (e_ (R.length=g.length) (e_ (S.length=h.length) (e_ (y.length+[M].length<=c_) (d' (UI a (g7,g8,g9,h0,h1,h2,h3,h4,h5,h6,N,O,P,Q,R,S,(y++[M]),h7)) λ(h8,h9,i0,i1,i2,i3,i4,i5,i6,i7,c0,T,c2,V,W,X,Y,i8)=>d' (mF a (a_ #[45,62]) h8 h9 i0) λs=>d' (sK a s.1 s.2.1 s.2.2 i1 i2 i3 i4 i5 i6 i7 Y i8 c0 T c2 V W X) λ(_,_,_,_,_,_,_,_,_,_,_,i9,j0,j1,j2,j3,j4,j5,_)=>e_ (i9.length=Y.length) (e_ (j0.length=c0.length) (e_ (j1.length=T.length) (e_ (j2.length=c2.length) (e_ (j3.length=V.length) (e_ (j4.length=W.length) (e_ (j5.length=X.length) (zz)))))))))))))))))else(d' (mF a (a_ #[45,62]) u v w) λt=>d' (sK a t.1 t.2.1 t.2.2 i j k m n o p b q c d e f g h) λ(j6,j7,j8,j9,k0,k1,k2,k3,_,k4,k5,Z,c8,c9,d0,d1,d2,d3,k6)=>e_ (Z.length=b.length) (e_ (c8.length=c.length) (e_ (c9.length=d.length) (e_ (d0.length=e.length) (e_ (d1.length=f.length) (e_ (d2.length=g.length) (e_ (d3.length=h.length) (U (j7,j8,j9,k0,k1,k2,k3,[j6],k4,k5,Z,c8,c9,d0,d1,d2,d3,k6)))))))))
noncomputable def Br(L:Lo):List hM:=iL 737 zj rD (.tp []) [iy,HW,.sq ij,.dd,.sq iH,.sq lB,.sq (cs [I]),.sq jj,.sq lC,.sq (cs [I]),.sq jP] (λ(y,z,A,B,C,D,E,F,G,H,X,d,g,h,k,p,q,w)=>Jv L y z A B C D E F G H X d g h k p q w:oY (rE (List Int))->Option (zE (List kO)))::Bq L
theorem UJ:GY Br:=λ{L} h=>
 (UH h).i (F:=YpT) _ (.l (p:=⟨21,[(1,U 4,zj),(1,U 6,zj),(1,U 8,zj),(1,U 9,zj),(1,U 10,zj),(1,U 12,zj),(1,U 13,zj),(1,U 14,zj)],zt,[⟨.exit 0,zt⟩],UI L⟩) (b:=jf YpT 21) .n (YpU L)) tV
noncomputable abbrev Jw:kT:=V 38 [(2031615,[.j 0]),(65011695,[.j 1,.a [5000005]]),(31,[.f [5000005],.j 2])]
def sN(u:Lo):Di (List Int)->Option ((Bool×zC (List Int))):=λt=>match t with
 | (q,_,_,_,_,_,_,_,_,r,s,a,b,c,d,e,f,g,h,_,_,_,_,_,_,_,_,i,j,k,m,n,o,p)=>bif(!s)then(U ((decide (r=(q.length:Int))),a,b,c,d,e,f,i,g,j,k,m,h,n,o,p))else(U (zj,a,b,c,d,e,f,i,g,j,k,m,h,n,o,p))
def ym(I:Lo):(List iW)×tR (List Int)->Option (((List iW)×tR (List Int))⊕ (((List iW)×tR (List Int)))):=λQ=>match Q with
 | (e,f,g,h,i,j,k,m,b,c,d,n,o,p,q,r,s,t,u,v,w,x,y,z,a0,A,B,C,a,D,E,F,G,H)=>bif(decide (c< (b.length:Int)))then(bif(!d)then(bif(decide (0< (a.length:Int)))then(d' (mF I (a_ #[44]) b c d) λJ=>d' (yl I J.1 J.2.1 J.2.2) λ(K,L,M,R,S,c0)=>e_ (a.length+([(K,L,M)]).length<=c_) (U (.inl (e,f,g,h,i,j,k,m,R,S,c0,n,o,p,q,r,s,t,u,v,w,x,y,z,a0,A,B,C,(a++([(K,L,M)])),D,E,F,G,H))))else(d' (yl I b c d) λ(N,O,P,T,c2,V)=>e_ (a.length+([(N,O,P)]).length<=c_) (U (.inl (e,f,g,h,i,j,k,m,T,c2,V,n,o,p,q,r,s,t,u,v,w,x,y,z,a0,A,B,C,(a++([(N,O,P)])),D,E,F,G,H)))))else(U (.inr (e,f,g,h,i,j,k,m,b,c,d,n,o,p,q,r,s,t,u,v,w,x,y,z,a0,A,B,C,a,D,E,F,G,H))))else(U (.inr (e,f,g,h,i,j,k,m,b,c,d,n,o,p,q,r,s,t,u,v,w,x,y,z,a0,A,B,C,a,D,E,F,G,H)))
def uB(a:Lo):(List iW)×tR (List Int)->Option (((List iW)×tR (List Int))):=a.run (ym a)
def Jx(a:Lo):(List iW)×ByteArray×Bool×tR (List Int)->Option ((Di (List Int))):=λd2=>match d2 with
 | (i,d0,d1,j,k,m,n,o,p,q,E,F,G,h,r,s,t,L,u,v,w,x,y,z,a0,A,B,C,H,D,b,c,d,e,f,g)=>bif d1 then(d' (FV a E F G) λ(M,N,O,P)=>bif(decide (h=(a_ #[102,100])))then(d' (mF a (a_ #[45,62]) N O P) λI=>d' (FV a I.1 I.2.1 I.2.2) λ(d3,d4,d5,d6)=>U (i,j,k,m,n,o,p,q,d4,d5,d6,h,r,s,t,M,d3,u,v,w,x,y,z,a0,A,B,C,D,b,c,d,e,f,g))else(d' (mF a (a_ #[45,62,62]) N O P) λJ=>d' (FV a J.1 J.2.1 J.2.2) λ(d7,d8,d9,e0)=>U (i,j,k,m,n,o,p,q,d8,d9,e0,h,r,s,t,M,d7,u,v,w,x,y,z,a0,A,B,C,D,b,c,d,e,f,g)))else(bif(decide (d0=(a_ #[99,102,100])))then(nf (Jv a E F G h r s t L u v H D b c d e f g) (λ(e1,e2,e3,e4,e5,e6,e7,e8,e9,f0,Q,R,S,c0,T,c2,V,f1)=>e_ (Q.length=H.length) (e_ (R.length=b.length) (e_ (S.length=c.length) (e_ (c0.length=d.length) (e_ (T.length=e.length) (e_ (c2.length=f.length) (e_ (V.length=g.length) (U (i,j,k,m,n,o,p,q,e1,e2,e3,e4,e5,e6,e7,Q,e8,e9,f0,w,x,y,z,a0,A,B,C,f1,R,S,c0,T,c2,V))))))))) (d' (M2 a E F G h r s t L u v H D b c d e f g) λ(f2,f3,f4,f5,f6,f7,f8,f9,g0,g1,W,X,Y,Z,c8,c9,g2,g3)=>e_ (W.length=b.length) (e_ (X.length=c.length) (e_ (Y.length=d.length) (e_ (Z.length=e.length) (e_ (c8.length=f.length) (e_ (c9.length=g.length) (U (i,j,k,m,n,o,p,q,f2,f3,f4,f5,f6,f7,f8,g2,f9,g0,g1,w,x,y,z,a0,A,B,C,g3,W,X,Y,Z,c8,c9)))))))))else(d' (wA a E F G) λ(g4,g5,g6,g7)=>d' (mF a (a_ #[126,62]) g5 g6 g7) λK=>d' (wA a K.1 K.2.1 K.2.2) λ(g8,g9,h0,h1)=>U (i,j,k,m,n,o,p,q,g9,h0,h1,h,r,s,t,g4,g8,u,v,w,x,y,z,a0,A,B,C,D,b,c,d,e,f,g)))
def Ee(b:Lo):(List iW)×Bool×tR (List Int)->Option ((Di (List Int))⊕ (Bool×zC (List Int))):=λJ=>match J with
 | (c,K,d,e,f,g,h,i,j,L,M,N,a,_,_,k,m,n,o,p,q,r,s,t,u,v,w,x,y,z,a0,A,B,C,D)=>bif K then(d' (nE b L M N) λ(E,O,P,Q)=>d' (nE b O P Q) λ(F,R,S,c0)=>d' (mF b (a_ #[58]) R S c0) λ(G,H,I)=>bif(decide (a=(a_ #[102,100])))then(d' (Jx b (c,a,zZ,d,e,f,g,h,i,j,G,H,I,a,E,F,k,m,n,o,p,q,r,s,t,u,v,w,x,y,z,a0,A,B,C,D)) λ(T,c2,V,W,X,Y,Z,c8,c9,d0,d1,d2,d3,d4,d5,d6,d7,d8,d9,e0,e1,e2,e3,e4,e5,e6,e7,e8,e9,f0,f1,f2,f3,f4)=>U (.inl (T,c2,V,W,X,Y,Z,c8,c9,d0,d1,d2,d3,d4,d5,d6,d7,d8,d9,e0,e1,e2,e3,e4,e5,e6,e7,e8,e9,f0,f1,f2,f3,f4)))else(d' (Jx b (c,a,(decide (a=(a_ #[109,118,100]))),d,e,f,g,h,i,j,G,H,I,a,E,F,k,m,n,o,p,q,r,s,t,u,v,w,x,y,z,a0,A,B,C,D)) λ(f5,f6,f7,f8,f9,g0,g1,g2,g3,g4,g5,g6,g7,g8,g9,h0,h1,h2,h3,h4,h5,h6,h7,h8,h9,i0,i1,i2,i3,i4,i5,i6,i7,i8)=>U (.inl (f5,f6,f7,f8,f9,g0,g1,g2,g3,g4,g5,g6,g7,g8,g9,h0,h1,h2,h3,h4,h5,h6,h7,h8,h9,i0,i1,i2,i3,i4,i5,i6,i7,i8))))else(U (.inr (zj,(a_ #[]),(a_ #[]),(a_ #[]),(a_ #[]),[],[],[],0,[],[],[],[],[],[],[])))
end Go.Abs.iA
namespace Go.Abs.iA
open Go Go.Abs Go.Proofs
set_option maxRecDepth 100000
set_option maxHeartbeats 4000000
set_option synthInstance.maxSize 100000
set_option synthInstance.maxHeartbeats 1000000
def zX(a:Lo)(c:List iW):Option (zC ((List Int)×Bool)):=
 d' (nE a c 0 zj) λ(b,d,e,f)=>bif(decide (b=(a_ #[116,97,98,108,101])))then(d' (nE a d e f) λ(w,x,y,z)=>d' (mF a (a_ #[40]) x y z) λg=>d' (wA a g.1 g.2.1 g.2.2) λ(a0,a1,a2,a3)=>d' (mF a (a_ #[41]) a1 a2 a3) λh=>d' (sN a (c,(a_ #[]),(a_ #[]),(a_ #[]),(a_ #[]),[],0,[],h.1,h.2.1,h.2.2,b,(a_ #[]),w,(a_ #[]),a0,[],0,[],[],[],[],[],[],[],[],[],[],[],[],[],[],[],[])) λ(a4,a5,a6,a7,a8,a9,b0,b1,b2,b3,b4,b5,b6,b7,b8,b9)=>U (a5,a6,a7,a8,a9,b0,b1,b2,b3,b4,b5,b6,b7,b8,b9,a4))else(bif(decide (b=(a_ #[114,111,119])))then(d' (nE a d e f) λ(c0,c1,c2,c3)=>d' (A_ a c1 c2 c3) λ(c4,c5,c6,c7)=>d' (mF a (a_ #[58]) c5 c6 c7) λi=>d' (uB a (c,(a_ #[]),(a_ #[]),(a_ #[]),(a_ #[]),[],0,[],i.1,i.2.1,i.2.2,b,(a_ #[]),c0,(a_ #[]),[],c4,[],[],[],[],[],[],[],[],[],[],[],[],[],[],[],[],[])) λ(c8,c9,d0,d1,d2,d3,d4,d5,d6,d7,d8,d9,e0,e1,e2,e3,e4,e5,e6,e7,e8,e9,f0,f1,f2,f3,f4,f5,f6,f7,f8,f9,g0,g1)=>d' (sN a (c8,c9,d0,d1,d2,d3,d4,d5,d6,d7,d8,d9,e0,e1,e2,f4,e3,e4,e5,e6,e7,e8,e9,f0,f1,f2,f3,f5,f6,f7,f8,f9,g0,g1)) λ(g2,g3,g4,g5,g6,g7,g8,g9,h0,h1,h2,h3,h4,h5,h6,h7)=>U (g3,g4,g5,g6,g7,g8,g9,h0,h1,h2,h3,h4,h5,h6,h7,g2))else(bif(decide (b=(a_ #[107,101,121])))then(d' (nE a d e f) λ(h8,h9,i0,i1)=>d' (mF a (a_ #[58]) h9 i0 i1) λj=>d' (wA a j.1 j.2.1 j.2.2) λ(i2,i3,i4,i5)=>d' (sN a (c,(a_ #[]),(a_ #[]),(a_ #[]),(a_ #[]),[],0,[],i3,i4,i5,b,(a_ #[]),h8,(a_ #[]),i2,[],0,[],[],[],[],[],[],[],[],[],[],[],[],[],[],[],[])) λ(i6,i7,i8,i9,j0,j1,j2,j3,j4,j5,j6,j7,j8,j9,k0,k1)=>U (i7,i8,i9,j0,j1,j2,j3,j4,j5,j6,j7,j8,j9,k0,k1,i6))else(bif(decide (b=(a_ #[105,110,100])))then(d' (nE a d e f) λ(k2,k3,k4,k5)=>d' (nE a k3 k4 k5) λ(k6,k7,k8,k9)=>d' (mF a (a_ #[40]) k7 k8 k9) λk=>d' (wA a k.1 k.2.1 k.2.2) λ(m0,m1,m2,m3)=>d' (mF a (a_ #[41]) m1 m2 m3) λm=>d' (mF a (a_ #[60,61]) m.1 m.2.1 m.2.2) λn=>d' (nE a n.1 n.2.1 n.2.2) λ(m4,m5,m6,m7)=>d' (mF a (a_ #[40]) m5 m6 m7) λo=>d' (wA a o.1 o.2.1 o.2.2) λ(m8,m9,n0,n1)=>d' (mF a (a_ #[41]) m9 n0 n1) λp=>d' (sN a (c,(a_ #[]),(a_ #[]),(a_ #[]),(a_ #[]),[],0,[],p.1,p.2.1,p.2.2,b,k2,k6,m4,m0,m8,0,[],[],[],[],[],[],[],[],[],[],[],[],[],[],[],[])) λ(n2,n3,n4,n5,n6,n7,n8,n9,o0,o1,o2,o3,o4,o5,o6,o7)=>U (n3,n4,n5,n6,n7,n8,n9,o0,o1,o2,o3,o4,o5,o6,o7,n2))else(bif(decide (b=(a_ #[113,117,101,114,121])))then(d' (nE a d e f) λ(o8,o9,p0,p1)=>d' (MI a o9 p0 p1 b o8 (a_ #[]) (a_ #[]) 0) λ(p2,p3,p4,p5,p6,p7,p8,p9,q0,q1,q2,q3,q4,q5,q6,q7,q8,q9)=>d' (sN a (c,(a_ #[]),(a_ #[]),(a_ #[]),(a_ #[]),[],0,[],p2,p3,p4,p5,p6,p7,p8,q2,p9,q0,q1,[],[],[],[],[],[],[],[],q3,q4,q5,q6,q7,q8,q9)) λ(r0,r1,r2,r3,r4,r5,r6,r7,r8,r9,s0,s1,s2,s3,s4,s5)=>U (r1,r2,r3,r4,r5,r6,r7,r8,r9,s0,s1,s2,s3,s4,s5,r0))else(bif(decide (b=(a_ #[108,105,110,107])))then(d' (nE a d e f) λ(s6,s7,s8,s9)=>d' (mF a (a_ #[58]) s7 s8 s9) λq=>d' (MT a q.1 q.2.1 q.2.2 b (a_ #[]) s6 (a_ #[]) 0) λ(t0,t1,t2,t3,t4,t5,t6,t7,t8,t9,u0,u1,u2,u3,u4,u5,u6,u7)=>d' (sN a (c,(a_ #[]),(a_ #[]),(a_ #[]),(a_ #[]),[],0,[],t0,t1,t2,t3,t4,t5,t6,t7,t8,t9,u0,[],[],[],[],[],[],[],[],u1,u2,u3,u4,u5,u6,u7)) λ(u8,u9,v0,v1,v2,v3,v4,v5,v6,v7,v8,v9,w0,w1,w2,w3)=>U (u9,v0,v1,v2,v3,v4,v5,v6,v7,v8,v9,w0,w1,w2,w3,u8))else(bif(decide (b=(a_ #[100,101,110,121])))then(d' (nE a d e f) λ(w4,w5,w6,w7)=>d' (nE a w5 w6 w7) λ(w8,w9,x0,x1)=>d' (A_ a w9 x0 x1) λ(x2,x3,x4,x5)=>d' (mF a (a_ #[58]) x3 x4 x5) λr=>d' (MY a r.1 r.2.1 r.2.2 b w4 w8 (a_ #[]) x2) λ(x6,x7,x8,x9,y0,y1,y2,y3,y4,y5,y6,y7,y8,y9,z0,z1,z2,z3)=>d' (sN a (c,(a_ #[]),(a_ #[]),(a_ #[]),(a_ #[]),[],0,[],x6,x7,x8,x9,y0,y1,y2,y6,y3,y4,y5,[],[],[],[],[],[],[],[],y7,y8,y9,z0,z1,z2,z3)) λ(z4,z5,z6,z7,z8,z9,A,B,C,D,E,F,G,H,I,J)=>U (z5,z6,z7,z8,z9,A,B,C,D,E,F,G,H,I,J,z4))else(bif(decide (b=(a_ #[102,100])))then(d' (Ee a (c,zZ,(a_ #[]),(a_ #[]),(a_ #[]),(a_ #[]),[],0,[],d,e,f,b,(a_ #[]),(a_ #[]),(a_ #[]),[],0,[],[],[],[],[],[],[],[],[],[],[],[],[],[],[],[],[])) λs=>iV s (λ(K,L,M,N,O,P,Q,R,S,T,V,W,X,Y,Z,aa,ab,ac,ad,ae,af,ag,ah,ai,aj,ak,al,am,an,ao,ap,aq,ar,au)=>d' (sN a (K,L,M,N,O,P,Q,R,S,T,V,W,X,Y,Z,aa,ab,ac,ad,ae,af,ag,ah,ai,aj,ak,al,am,an,ao,ap,aq,ar,au)) λ(av,aw,ax,ay,az,aA,aB,aC,aD,aE,aF,aG,aH,aI,aJ,aK)=>U (aw,ax,ay,az,aA,aB,aC,aD,aE,aF,aG,aH,aI,aJ,aK,av)) (λ(aL,aM,aN,aO,aP,aQ,aR,aS,aT,aU,aV,aW,aX,aY,aZ,ba)=>U (aM,aN,aO,aP,aQ,aR,aS,aT,aU,aV,aW,aX,aY,aZ,ba,aL)))else(bif(decide (b=(a_ #[109,118,100])))then(d' (Ee a (c,zZ,(a_ #[]),(a_ #[]),(a_ #[]),(a_ #[]),[],0,[],d,e,f,b,(a_ #[]),(a_ #[]),(a_ #[]),[],0,[],[],[],[],[],[],[],[],[],[],[],[],[],[],[],[],[])) λt=>iV t (λ(bb,bc,bd,be,bf,bg,bh,bi,bj,bk,bl,bm,bn,bo,bp,bq,br,bs,bt,bu,bv,bw,bx,bz,bA,bB,bC,bD,bE,bF,bG,bH,bI,bJ)=>d' (sN a (bb,bc,bd,be,bf,bg,bh,bi,bj,bk,bl,bm,bn,bo,bp,bq,br,bs,bt,bu,bv,bw,bx,bz,bA,bB,bC,bD,bE,bF,bG,bH,bI,bJ)) λ(bK,bL,bM,bN,bO,bP,bQ,bR,bS,bT,bU,bV,bW,bX,bY,bZ)=>U (bL,bM,bN,bO,bP,bQ,bR,bS,bT,bU,bV,bW,bX,bY,bZ,bK)) (λ(ca,cb,cc,cd,ce,cf,cg,ch,ci,cj,ck,cl,cm,cn,co,cp)=>U (cb,cc,cd,ce,cf,cg,ch,ci,cj,ck,cl,cm,cn,co,cp,ca)))else(bif(decide (b=(a_ #[99,102,100])))then(d' (Ee a (c,zZ,(a_ #[]),(a_ #[]),(a_ #[]),(a_ #[]),[],0,[],d,e,f,b,(a_ #[]),(a_ #[]),(a_ #[]),[],0,[],[],[],[],[],[],[],[],[],[],[],[],[],[],[],[],[])) λu=>iV u (λ(cq,cr,cs,ct,cu,cv,cw,cx,cy,cz,cA,cB,cC,cD,cE,cF,cG,cH,cI,cJ,cK,cL,cM,cN,cO,cP,cQ,cR,cS,cT,cU,cV,cW,cX)=>d' (sN a (cq,cr,cs,ct,cu,cv,cw,cx,cy,cz,cA,cB,cC,cD,cE,cF,cG,cH,cI,cJ,cK,cL,cM,cN,cO,cP,cQ,cR,cS,cT,cU,cV,cW,cX)) λ(cY,cZ,da,db,dc,dd,de,df,dg,dh,di,dj,dk,dl,dm,dn)=>U (cZ,da,db,dc,dd,de,df,dg,dh,di,dj,dk,dl,dm,dn,cY)) (λ(dp,dq,dr,ds,dt,du,dv,dw,dx,dy,dz,dA,dB,dC,dD,dE)=>U (dq,dr,ds,dt,du,dv,dw,dx,dy,dz,dA,dB,dC,dD,dE,dp)))else(d' (Ee a (c,(decide (b=(a_ #[111,100]))),(a_ #[]),(a_ #[]),(a_ #[]),(a_ #[]),[],0,[],d,e,f,b,(a_ #[]),(a_ #[]),(a_ #[]),[],0,[],[],[],[],[],[],[],[],[],[],[],[],[],[],[],[],[])) λv=>iV v (λ(dF,dG,dH,dI,dJ,dK,dL,dM,dN,dO,dP,dQ,dR,dS,dT,dU,dV,dW,dX,dY,dZ,ea,eb,ec,ed,ee,ef,eg,eh,ei,ej,ek,el,em)=>d' (sN a (dF,dG,dH,dI,dJ,dK,dL,dM,dN,dO,dP,dQ,dR,dS,dT,dU,dV,dW,dX,dY,dZ,ea,eb,ec,ed,ee,ef,eg,eh,ei,ej,ek,el,em)) λ(en,eo,ep,eq,er,es,et,eu,ev,ew,ex,ey,ez,eA,eB,eC)=>U (eo,ep,eq,er,es,et,eu,ev,ew,ex,ey,ez,eA,eB,eC,en)) (λ(eD,eE,eF,eG,eH,eI,eJ,eK,eL,eM,eN,eO,eP,eQ,eR,eS)=>U (eE,eF,eG,eH,eI,eJ,eK,eL,eM,eN,eO,eP,eQ,eR,eS,eD))))))))))))
noncomputable def Bs(L:Lo):List hM:=iL 678 zZ (ik [0] [.l jY] []) (.tp [HU,.b]) [] (zX L)::Br L
theorem UK:GY Bs:=λ{L} h=>
 (UJ h).p (F:=Jw) _ (.j (p:=⟨0,[(2,U 4,zj),(2,U 6,zj),(2,U 8,zj),(2,U 9,zj),(2,U 10,zj),(2,U 12,zj),(2,U 13,zj),(2,U 14,zj),(5,U 4,zj),(5,U 6,zj),(5,U 8,zj),(5,U 9,zj),(5,U 10,zj),(5,U 12,zj),(5,U 13,zj),(5,U 14,zj)],(ik [0,2,4,5,135] [.l jY,.ptr 0 0 0,.ptr 1 0 0,.ptr 2 0 0,.b] [zx,iy,Da,.sq ij,.sq jP,.sq iH,.sq lB,.sq (cs [I]),.sq jj,.sq lC,.sq (cs [I]),.sq ij,.sq jP,.sq iH,.sq lB,.sq (cs [I]),.sq jj,.sq lC,.sq (cs [I])]),[⟨.kM,C8⟩,HP],Ee L⟩) (b:=jf Jw 0) (.j (p:=⟨1,[(2,U 4,zj),(2,U 6,zj),(2,U 8,zj),(2,U 9,zj),(2,U 10,zj),(2,U 12,zj),(2,U 13,zj),(2,U 14,zj),(5,U 4,zj),(5,U 6,zj),(5,U 8,zj),(5,U 9,zj),(5,U 10,zj),(5,U 12,zj),(5,U 13,zj),(5,U 14,zj)],(ik [0,2,4,5,149,158] [.l jY,.ptr 0 0 0,.ptr 1 0 0,.ptr 2 0 0,.s,.b] [zx,iy,Da,.sq ij,.sq jP,.sq iH,.sq lB,.sq (cs [I]),.sq jj,.sq lC,.sq (cs [I]),.sq ij,.sq jP,.sq iH,.sq lB,.sq (cs [I]),.sq jj,.sq lC,.sq (cs [I])]),[⟨.kM,C8⟩],Jx L⟩) (b:=jf Jw 1) (.l (p:=⟨7927,[(2,U 4,zj),(2,U 6,zj),(2,U 8,zj),(2,U 9,zj),(2,U 10,zj),(2,U 12,zj),(2,U 13,zj),(2,U 14,zj),(5,U 4,zj),(5,U 6,zj),(5,U 8,zj),(5,U 9,zj),(5,U 10,zj),(5,U 12,zj),(5,U 13,zj),(5,U 14,zj)],HK,[⟨.exit 1,HK⟩],uB L⟩) (b:=jf Jw 7927) (.j (p:=⟨2,[(2,U 4,zj),(2,U 6,zj),(2,U 8,zj),(2,U 9,zj),(2,U 10,zj),(2,U 12,zj),(2,U 13,zj),(2,U 14,zj),(5,U 6,zj),(5,U 8,zj),(5,U 9,zj),(5,U 10,zj),(5,U 12,zj),(5,U 13,zj),(5,U 14,zj),(5,U 4,zj)],C8,[HP],sN L⟩) (b:=jf Jw 2) .n) (ym L)))) tV
def UL(b:Lo)(d:ByteArray):Option (zC ((List Int)×Int)):=
 d' (MC b d) λ(a,_,c)=>bif(!decide (c=0))then(U ((a_ #[]),(a_ #[]),(a_ #[]),(a_ #[]),[],[],[],0,[],[],[],[],[],[],[],c))else(bif(!decide ((a.length:Int)=1))then(U ((a_ #[]),(a_ #[]),(a_ #[]),(a_ #[]),[],[],[],0,[],[],[],[],[],[],[],2))else(e_ (0<=(0:Int)/\0< (a.length:Int)) (d' (zX b (a.getD 0 [])) λ(e,f,g,h,i,j,k,m,n,o,p,q,r,s,t,u)=>bif(!u)then(U ((a_ #[]),(a_ #[]),(a_ #[]),(a_ #[]),[],[],[],0,[],[],[],[],[],[],[],2))else(U (e,f,g,h,i,j,k,m,n,o,p,q,r,s,t,0)))))
noncomputable def Bt(L:Lo):List hM:=iL 699 zZ kj (.tp [HU,.j]) [] (UL L)::Bs L
theorem UM:GY Bt:=λ{L} h=>
 (UK h).p (F:=(V 13)) _ .n tV
def M3(b:Lo)(c:ByteArray):Option (jR ((List kz)×Int)):=
 d' (UL b c) λ(d,_,e,_,_,_,_,f,g,_,_,_,_,_,_,a)=>bif(!decide (a=0))then(U ((a_ #[]),0,[],a))else(bif(!decide (d=(a_ #[114,111,119])))then(U ((a_ #[]),0,[],2))else(U (e,f,g,0)))
noncomputable def Bu(L:Lo):List hM:=iL 650 zZ kj (.tp [.s,qo,.j]) [] (M3 L)::Bt L
theorem UN:GY Bu:=λ{L} h=>
 (UM h).p (F:=(V 6)) _ .n tV
def Bv(c:Lo)(a b:Int):Option Int:=
 bif(decide (a<b))then(U (-1))else(bif(decide (b<a))then(U 1)else(U 0))
noncomputable def Bx(L:Lo):List hM:=iL 303 zZ (ik [0,1] [.j,.j] []) .j [] (u2 (Bv L):)::Bu L
theorem UO:GY Bx:=λ{L} h=>
 (UN h).p (F:=(V 97)) _ .n tV
def FW(d:Lo):nD Int->Option ((nD Int)⊕ (Int⊕ (ByteArray×ByteArray))):=λe=>match e with
 | (b,c,a)=>bif(decide (a< (b.size:Int)))then(bif(decide (a< (c.size:Int)))then(e_ (0<=a/\a< (b.size:Int)) (e_ (0<=a/\a< (c.size:Int)) (bif(!decide ((ig b a)=(ig c a)))then(e_ (0<=a/\a< (b.size:Int)) (e_ (0<=a/\a< (c.size:Int)) (d' (Bv d (g_ .i64 (ig b a)) (g_ .i64 (ig c a))) λf=>U (.inr (.inl f)))))else(U (.inl (b,c,(g_ .i64 (a+1))))))))else(U (.inr (.inr (b,c)))))else(U (.inr (.inr (b,c))))
def FX(a:Lo):nD Int->Option (Int⊕ (ByteArray×ByteArray)):=a.run (FW a)
def M4(a:Lo)(c d:ByteArray):Option Int:=
 d' (FX a (c,d,0)) λe=>iV e (λf=>U f) (λb=>d' (Bv a (b.1.size:Int) (b.2.size:Int)) λg=>U g)
noncomputable def By(L:Lo):List hM:=iL 320 zZ (ik [0,1] [.s,.s] []) .j [] (u2 (M4 L):)::Bx L
theorem UP:GY By:=λ{L} h=>
 (UO h).p (F:=(V 163)) _ (.l (p:=⟨13,[],(ik [0,1,5] [.s,.s,.j] []),[vz,⟨.exit 0,(ik [0,1] [.s,.s] [])⟩],FX L⟩) (b:=jf (V 163) 13) .n (FW L)) tV
def M5(a:Lo)(d e:Int)(f:ByteArray)(g h:Int)(i:ByteArray):Option Int:=
 d' (Bv a d g) λb=>bif(!decide (b=0))then(U b)else(d' (Bv a e h) λc=>bif(!decide (c=0))then(U c)else(d' (M4 a f i) λj=>U j))
noncomputable def Bz(L:Lo):List hM:=iL 302 zZ (ik [0,1] [nO,nO] []) .j [] (u6 (M5 L):)::By L
theorem UQ:GY Bz:=λ{L} h=>
 (UP h).p (F:=(V 96)) _ .n tV
def FY(e:Lo):(List kz)× (List kz)×Int->Option (((List kz)× (List kz)×Int)⊕ (Int⊕ ((List kz)× (List kz)))):=λf=>match f with
 | (b,c,a)=>bif(decide (a< (b.length:Int)))then(bif(decide (a< (c.length:Int)))then(e_ (0<=a/\a< (b.length:Int)) (e_ (0<=a/\a< (c.length:Int)) (d' (M5 e ((b.getD a.toNat (0,0,(a_ #[]))).1) ((b.getD a.toNat (0,0,(a_ #[]))).2.1) ((b.getD a.toNat (0,0,(a_ #[]))).2.2) ((c.getD a.toNat (0,0,(a_ #[]))).1) ((c.getD a.toNat (0,0,(a_ #[]))).2.1) ((c.getD a.toNat (0,0,(a_ #[]))).2.2)) λd=>bif(!decide (d=0))then(U (.inr (.inl d)))else(U (.inl (b,c,(g_ .i64 (a+1))))))))else(U (.inr (.inr (b,c)))))else(U (.inr (.inr (b,c))))
def FZ(a:Lo):(List kz)× (List kz)×Int->Option (Int⊕ ((List kz)× (List kz))):=a.run (FY a)
def UR(a:Lo)(c d:List kz):Option Int:=
 d' (FZ a (c,d,0)) λe=>iV e (λf=>U f) (λb=>d' (Bv a (b.1.length:Int) (b.2.length:Int)) λg=>U g)
noncomputable def BB(L:Lo):List hM:=iL 274 zZ (ik [0,1] [.l iH,.l iH] []) .j [] (u2 (UR L):)::Bz L
theorem US:GY BB:=λ{L} h=>
 (UQ h).p (F:=(V 39)) _ (.l (p:=⟨13,[],(ik [0,1,5] [.l iH,.l iH,.j] []),[vz,⟨.exit 0,(ik [0,1] [.l iH,.l iH] [])⟩],FZ L⟩) (b:=jf (V 39) 13) .n (FY L)) tV
def M6(a:Lo)(b c:List kz):Option Bool:=
 d' (UR a b c) λd=>U (decide (d=0))
noncomputable def BC(L:Lo):List hM:=iL 297 zZ (ik [0,1] [.l iH,.l iH] []) .b [] (u2 (M6 L):)::BB L
theorem UT:GY BC:=λ{L} h=>
 (US h).p (F:=(V 14)) _ .n tV
def M7(a:Lo)(b:Int)(c:List kz)(d:Int)(e:List kz):Option Bool:=
 bif(decide (b=d))then(d' (M6 a c e) λf=>U f)else(U zj)
noncomputable def BD(L:Lo):List hM:=iL 266 zZ (ik [0,1] [qo,qo] []) .b [] (u4 (M7 L):)::BC L
theorem UU:GY BD:=λ{L} h=>
 (UT h).p (F:=(V 7)) _ .n tV
noncomputable def iR(a:Lo)(b:ByteArray):Option Bool:=
 d' (D8 a) λc=>bif(!c)then(d' (D8 a) λd=>U d)else(bif(decide (300< (b.size:Int)))then(d' (D8 a) λe=>U e)else(d' (Mq a b) λ(g,h,i,j)=>d' (M3 a b) λ(k,m,n,o)=>bif(decide (g=k))then(bif(decide (j=o))then(d' (M7 a h i m n) λf=>U f)else(U zj))else(U zj)))
noncomputable def Jy(L:Lo):List hM:=iL 629 zZ kj .b [] (iR L)::BD L
theorem UW:GY Jy:=λ{L} h=>
 (UU h).p (F:=(V 3)) _ .n tV
end Go.Abs.iA
