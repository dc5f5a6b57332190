/- Functions of the program as functions of data (written by program). No condition. -/
import Derived.Test.YtlmcnindhfbkhaaGreatDoorG
set_option linter.unusedVariables false
set_option linter.unusedSimpArgs false
set_option linter.unusedSectionVars false
open Nat renaming ble → YGD
open Option renaming bind → YGO
open ByteArray renaming mk → YG6
open Go.IntKind renaming wrap → YG7
namespace Go.Abs.G47
open Go Go.Abs
set_option maxRecDepth 100000
set_option maxHeartbeats 1000000
variable{P:Program}{fm:FM}{lo:Lo}
def q160_L1_b:VCode:=
 (.seq (Rg [oM 7 2,oM 8 3,oR 9 .lss 7 8]
 (Ce 9 0))
 (.seq (.blk 1 (.reg [oM 14 0,oM 15 2,oM 16 0,oM 17 3,oM 18 0,oM 19 3,oI 20 2 18 19,oT 21 2 20,oM 22 0,oM 23 2,oI 24 2 22 23,oT 25 2 24,oI 26 2 14 15,oS 2 26 21,oI 27 2 16 17,oS 2 27 25]))
 (.reg [oM 10 2,oR 11 .add 10 (k 1),oM 12 3,oR 13 .sub 12 (k 1),oM 2 11,oM 3 13])))
def Yen(lo:Lo):Int×Int×Zt0×Zt3->Option ((Int×Int×Zt0×Zt3)⊕ ((Zt0×Zt3))):=fun x=>match x with
  | (i2,j3,s0,h1)=>bif(decide (i2<j3))then(chk (0<=j3/\j3< (s0.length:Int)) (chk (0<=i2/\i2< (s0.length:Int)) (chk (0<=i2/\i2< (s0.length:Int)) (chk (0<=j3/\j3< ((s0.set i2.toNat (s0.getD j3.toNat ((YG6 #[]),[]))).length:Int)) (some (.inl ((YG7 .i64 (i2+1)),(YG7 .i64 (j3-1)),((s0.set i2.toNat (s0.getD j3.toNat ((YG6 #[]),[]))).set j3.toNat (s0.getD i2.toNat ((YG6 #[]),[]))),h1)))))))else(some (.inr (s0,h1)))
def YgM(lo:Lo):Int×Int×Zt0×Zt3->Option ((Zt0×Zt3)):=lo.run (Yen lo)
def Yz1(lo:Lo):LpE:=⟨1,[],(Zsg [0,2,3] [.ref 0,.j,.j] [.sq Zc5,.st [.l (cs [.s]),.ref 0]]),[⟨.exit 0,(Zsg [] [] [.sq Zc5,.st [.l (cs [.s]),.ref 0]])⟩],YgM lo⟩
def Yz2(lo:Lo):LL:=(Yz1 lo,.loop q160_L1_b.er)::[]
theorem Yz3(lo:Lo):Lk lo pf (YEe lo) 2 (Yz2 lo):=.l .n (Yen lo)
def q160(lo:Lo)(s0:List (ByteArray×Zt7))(h1:List ByteArray):Option (Zt0×Zt3):=
  YGO (YgM lo ((0:Int),(YG7 .i64 ((s0.length:Int)-1)),s0,h1)) fun y676=>some (y676.1,y676.2)
def Yz4:VFn:=⟨true,28,[],
 (Rg [oM 4 0,oN 5 4,oR 6 .sub 5 (k 1),oK 2 0,oM 3 6]
 (.blk 0 (.loop 1 q160_L1_b)))⟩
def YnN(lo:Lo):FnE:=Zfe 491 false (Zsg [0] [.ref 0] [.sq Zc5,.st [.l (cs [.s]),.ref 0]]) (.tp []) [.sq Zc5,.st [.l (cs [.s]),.ref 0]] (fun x=>q160 lo x.1 x.2:Zt0×Zt3->Option (Zt0×Zt3))
noncomputable def YEf(lo:Lo):List FnE:=YnN lo::YEe lo
theorem Yz5(h:GZ P fm YEe lo)(t:Ti P fm 491 Yz4):GZ P fm YEf lo:=
  h.i (YnN lo) (Yz3 lo) t
def q161(lo:Lo)(l:List (ByteArray×Zt3×Zt11)):Option Zt1:=bif YGD l.length maxEl&&YGD 1 3 then some l else none
def Yz6(lo:Lo):FnE:=vcloneE 492 Zc6
noncomputable def YEg(lo:Lo):List FnE:=Yz6 lo::YEf lo
theorem Yz7(h:GZ P fm YEf lo)(htie: ∀f,fm f=492->fnTr P fm pf f=some (8,[.t 2],YBY 3 [(.string (⟨#[]⟩)),(.slice none 0 0),(.slice none 0 0)])):GZ P fm YEg lo:=
  ⟨h.1,h.2,YbY h.S h.mx Zc6 rfl [(.string (⟨#[]⟩)),(.slice none 0 0),(.slice none 0 0)] 8 (by decide) htie⟩
def q162(lo:Lo)(l:List (Int×Zt2)):Option Zt11:=bif YGD l.length maxEl&&YGD 1 2 then some l else none
def Yz8(lo:Lo):FnE:=vcloneE 493 Zc15
noncomputable def YEh(lo:Lo):List FnE:=Yz8 lo::YEg lo
theorem Yz9(h:GZ P fm YEg lo)(htie: ∀f,fm f=493->fnTr P fm pf f=some (8,[.t 2],YBY 2 [(.int .i64 0),(.slice none 0 0)])):GZ P fm YEh lo:=
  ⟨h.1,h.2,YbY h.S h.mx Zc15 rfl [(.int .i64 0),(.slice none 0 0)] 8 (by decide) htie⟩
def q163(lo:Lo)(r0_0:Int)(r0_1:List (Int×Int×ByteArray)):Option (Int×Zt2):=
  chk (r0_1.length<=maxEl) (some (r0_0,r0_1))
def YAa:VFn:=⟨true,10,[.c 2 true 2],
 (Rg [oG 1 0,o 2 (.alloc [.i .i64 0,.e Zc10])]
 (Rg [oF 3 0 1,⟨some 4,.load false 1 3,none,true,false⟩,o 5 (.bsl Zc10 0 []),oF 6 1 1,oL 7 6,⟨some 8,.app Zc10 0 5 7,none,false,true⟩,o 9 (.build [.i .i64 0,.e Zc10] [(0,1,4),(1,1,8)]),oS 2 2 9]
 (Fr 2)))⟩
def YnO(lo:Lo):FnE:=Zfe 290 true (Zsg [0] [.ag [.j,.l Zc10]] []) (.ag [.j,.l Zc10]) [] (fun x=>q163 lo x.1 x.2:Int×Zt2->Option (Int×Zt2))
noncomputable def YDP(lo:Lo):List FnE:=YnO lo::YEh lo
theorem YAb(h:GZ P fm YEh lo)(t:Ti P fm 290 YAa):GZ P fm YDP lo:=
  h.p (YnO lo) .n t
def q164_L3_b:VCode:=
 (.seq (Rg [oM 14 6,oM 15 1,oN 16 15,oR 17 .lss 14 16]
 (Ce 17 0))
 (.seq (.blk 1 (.reg [oF 20 2 5,oL 21 20,oM 22 1,oM 23 6,oI 24 2 22 23,oT 25 2 24,oC 26 290 [25],o 27 (.bsl Zc15 1 [(0,26)]),o 28 (.app Zc15 0 21 27),oF 29 2 5,oS 1 29 28]))
 (.reg [oM 18 6,oR 19 .add 18 (k 1),oM 6 19])))
def Yeo(lo:Lo):Zp45->Option (Zp45⊕ ((ByteArray×Zt3×Zt11×ByteArray×Zt3×Zt11))):=fun x=>match x with
  | (rows1,i6,v4_0,v4_1,v4_2,out5,h2,h3)=>bif(decide (i6< (rows1.length:Int)))then(chk (0<=i6/\i6< (rows1.length:Int)) (YGO (q163 lo ((rows1.getD i6.toNat ((0:Int),[])).1) ((rows1.getD i6.toNat ((0:Int),[])).2)) fun y690=>chk (h3.length+[y690].length<=maxEl) (some (.inl (rows1,(YG7 .i64 (i6+1)),v4_0,v4_1,v4_2,out5,h2,(h3++[y690]))))))else(some (.inr (v4_0,v4_1,v4_2,out5,h2,h3)))
def YgN(lo:Lo):Zp45->Option ((ByteArray×Zt3×Zt11×ByteArray×Zt3×Zt11)):=lo.run (Yeo lo)
def YAc(lo:Lo):LpE:=⟨3,[(5,some 2,false)],(Zsg [1,4,5,6] [.l Zc15,.ptr 0 0 0,.ptr 1 0 0,.j] [.st [.s,.l (cs [.s]),.l Zc15],.st [.s,.ref 2,.ref 3],.sq (cs [.s]),.sq Zc15]),[⟨.exit 0,(Zsg [4,5] [.ptr 0 0 0,.ptr 1 0 0] [.st [.s,.l (cs [.s]),.l Zc15],.st [.s,.ref 2,.ref 3],.sq (cs [.s]),.sq Zc15])⟩],YgN lo⟩
def YAd(lo:Lo):LL:=(YAc lo,.loop q164_L3_b.er)::[]
theorem YAe(lo:Lo):Lk lo pf (YDP lo) 0 (YAd lo):=.l .n (Yeo lo)
def q164(lo:Lo)(t0_0:ByteArray)(t0_1:List ByteArray)(t0_2:List (Int×Zt2))(rows1:List (Int×Zt2)):Option (ByteArray×Zt3×Zt11):=
  chk (t0_1.length<=maxEl) (YGO (YgN lo (rows1,(0:Int),(YG6 #[]),([]:List ByteArray),([]:List (Int×Zt2)),t0_0,t0_1,[])) fun y691=>some (y691.2.2.2.1,y691.2.2.2.2.1,y691.2.2.2.2.2))
def YAf:VFn:=⟨true,31,[.c 4 true 3],
 (Rg [oG 2 0,o 4 (.alloc [.s (⟨#[]⟩),.e (cs [.s]),.e Zc15])]
 (Rg [oF 7 0 2,⟨some 8,.load false 1 7,none,true,false⟩,o 9 (.bsl (cs [.s]) 0 []),oF 10 1 2,⟨some 11,.load false 1 10,none,true,false⟩,⟨some 12,.app (cs [.s]) 0 9 11,none,false,true⟩,o 13 (.build [.s (⟨#[]⟩),.e (cs [.s]),.e Zc15] [(0,1,8),(1,1,12)]),o 5 (.alloc [.s (⟨#[]⟩),.e (cs [.s]),.e Zc15]),oS 3 5 13]
 (.seq (Rg [oK 6 0]
 (.blk 0 (.loop 3 q164_L3_b)))
 (Rg [oT 30 3 5,oS 3 4 30]
 (Fr 4)))))⟩
def YnP(lo:Lo):FnE:=Zfe 282 true (Zsg [0,1] [.ag [.s,.l (cs [.s]),.l Zc15],.l Zc15] []) (.ag [.s,.l (cs [.s]),.l Zc15]) [] (fun x=>q164 lo x.1 x.2.1 x.2.2.1 x.2.2.2:ByteArray×Zt3×Zt11×Zt11->Option (ByteArray×Zt3×Zt11))
noncomputable def YDQ(lo:Lo):List FnE:=YnP lo::YDP lo
theorem YAg(h:GZ P fm YDP lo)(t:Ti P fm 282 YAf):GZ P fm YDQ lo:=
  h.p (YnP lo) (YAe lo) t
def q165_J7_b:VCode:=
 (.seq (.fz [16] (.reg [oT 114 1 16,oT 115 2 9,oC 116 476 [114,115],oM 113 116,oE 117 113 0,oE 118 113 1,oM 19 117,oM 20 118]))
 (Rg [oM 119 12,oR 120 .eql 119 (k 0),oM 121 120,gT 122 121 (.mv 15),gT 123 121 (.bin .eql 122 (k 0)),oP 124 121 123 (kb false),oM 125 124,gT 126 125 (.mv 20),gT 127 125 (.bin .eql 126 (k 0)),oP 128 125 127 (kb false),oM 129 128,gT 130 129 (.mv 11),gT 131 129 (.mv 14),gT 132 129 (.call 478 [130,131]),oP 133 129 132 (kb false),oM 134 133,gT 135 134 (.mv 19),gT 136 134 (.mv 11),gT 137 134 (.call 483 [135,136]),oP 138 134 137 (kb false),oM 6 138]
 (Fr 6)))
noncomputable def YcT(lo:Lo):Zt21×Int×Zt21×Int×Zt3×Zt0×Zt1->Option Bool:=fun x=>match x with
  | (a11,e12,b14,f15,q9_0,q9_1,h2)=>YGO (q66 lo h2 q9_0 q9_1) fun y706=>bif(decide (e12=0))then(bif(decide (f15=0))then(bif(decide (y706.2=(0:Int)))then(YGO (q137 lo a11 b14) fun y707=>bif y707 then(YGO (q145 lo y706.1 a11) fun y708=>some y708)else(some false))else(some false))else(some false))else(some false)
noncomputable def YAh(lo:Lo):LpE:=⟨7,[],(Zsg [9,11,12,14,15,16] [.ptr 0 0 0,.l Zc22,.j,.l Zc22,.j,.ptr 1 0 0] [.st [.l (cs [.s]),.l Zc5],.st [.ref 2],.sq Zc6]),[⟨.ret,(Zsg [6] [.b] [])⟩],YcT lo⟩
noncomputable def YAi(lo:Lo):LL:=(YAh lo,q165_J7_b.er)::[]
theorem YAj(lo:Lo):Lk lo pf (YDQ lo) 0 (YAi lo):=.j .n
noncomputable def q165(lo:Lo)(d0:List (Int×Int×Zt12))(x1_0:List Int)(x1_1:List (Int× (List Int)))(k2:Int):Option Bool:=
  YGO (q120 lo d0) fun y693=>YGO (q122 lo y693.1 x1_0 x1_1) fun y694=>YGO (q99 lo) fun y695=>bif(!y695)then(YGO (q99 lo) fun y696=>some y696)else(bif(!y693.2)then(YGO (q99 lo) fun y697=>some y697)else(bif(!y694.2.2)then(YGO (q99 lo) fun y698=>some y698)else(YGO (q66 lo y693.1 y694.1 y694.2.1) fun y699=>YGO (q152 lo y694.2.1) fun y700=>YGO (q160 lo y700 y694.1) fun y701=>chk (y701.1.length=y700.length) (YGO (q66 lo y693.1 y701.2 y701.1) fun y702=>YGO (q161 lo y693.1) fun y703=>chk ((y703.length:Int)≠0) (chk (0<=((YG7 .i64 k2).tmod (y703.length:Int))/\ ((YG7 .i64 k2).tmod (y703.length:Int))< (y703.length:Int)) (bif(decide ((0:Int)< (((y703.getD (((YG7 .i64 k2).tmod (y703.length:Int)).toNat) ((YG6 #[]),[],[])).2.2).length:Int)))then(chk ((3:Int)≠0) (chk ((((y703.getD (((YG7 .i64 k2).tmod (y703.length:Int)).toNat) ((YG6 #[]),[],[])).2.2).length:Int)≠0) (chk (0<=(0:Int)/\ (0:Int)<=((YG7 .i64 ((YG7 .i64 k2).tdiv (3:Int))).tmod (((y703.getD (((YG7 .i64 k2).tmod (y703.length:Int)).toNat) ((YG6 #[]),[],[])).2.2).length:Int))/\ ((YG7 .i64 ((YG7 .i64 k2).tdiv (3:Int))).tmod (((y703.getD (((YG7 .i64 k2).tmod (y703.length:Int)).toNat) ((YG6 #[]),[],[])).2.2).length:Int))<=(((y703.getD (((YG7 .i64 k2).tmod (y703.length:Int)).toNat) ((YG6 #[]),[],[])).2.2).length:Int)) (YGO (q162 lo ((((y703.getD (((YG7 .i64 k2).tmod (y703.length:Int)).toNat) ((YG6 #[]),[],[])).2.2).take ((YG7 .i64 ((YG7 .i64 k2).tdiv (3:Int))).tmod (((y703.getD (((YG7 .i64 k2).tmod (y703.length:Int)).toNat) ((YG6 #[]),[],[])).2.2).length:Int)).toNat).drop 0)) fun y704=>chk (0<=(YG7 .i64 (((YG7 .i64 ((YG7 .i64 k2).tdiv (3:Int))).tmod (((y703.getD (((YG7 .i64 k2).tmod (y703.length:Int)).toNat) ((YG6 #[]),[],[])).2.2).length:Int))+(1:Int)))/\ (YG7 .i64 (((YG7 .i64 ((YG7 .i64 k2).tdiv (3:Int))).tmod (((y703.getD (((YG7 .i64 k2).tmod (y703.length:Int)).toNat) ((YG6 #[]),[],[])).2.2).length:Int))+(1:Int)))<=(((y703.getD (((YG7 .i64 k2).tmod (y703.length:Int)).toNat) ((YG6 #[]),[],[])).2.2).length:Int)/\ (((y703.getD (((YG7 .i64 k2).tmod (y703.length:Int)).toNat) ((YG6 #[]),[],[])).2.2).length:Int)<=(((y703.getD (((YG7 .i64 k2).tmod (y703.length:Int)).toNat) ((YG6 #[]),[],[])).2.2).length:Int)) (chk (y704.length+((((y703.getD (((YG7 .i64 k2).tmod (y703.length:Int)).toNat) ((YG6 #[]),[],[])).2.2).take (((y703.getD (((YG7 .i64 k2).tmod (y703.length:Int)).toNat) ((YG6 #[]),[],[])).2.2).length:Int).toNat).drop (YG7 .i64 (((YG7 .i64 ((YG7 .i64 k2).tdiv (3:Int))).tmod (((y703.getD (((YG7 .i64 k2).tmod (y703.length:Int)).toNat) ((YG6 #[]),[],[])).2.2).length:Int))+(1:Int))).toNat).length<=maxEl) (YGO (q164 lo ((y703.getD (((YG7 .i64 k2).tmod (y703.length:Int)).toNat) ((YG6 #[]),[],[])).1) ((y703.getD (((YG7 .i64 k2).tmod (y703.length:Int)).toNat) ((YG6 #[]),[],[])).2.1) ((y703.getD (((YG7 .i64 k2).tmod (y703.length:Int)).toNat) ((YG6 #[]),[],[])).2.2) (y704++((((y703.getD (((YG7 .i64 k2).tmod (y703.length:Int)).toNat) ((YG6 #[]),[],[])).2.2).take (((y703.getD (((YG7 .i64 k2).tmod (y703.length:Int)).toNat) ((YG6 #[]),[],[])).2.2).length:Int).toNat).drop (YG7 .i64 (((YG7 .i64 ((YG7 .i64 k2).tdiv (3:Int))).tmod (((y703.getD (((YG7 .i64 k2).tmod (y703.length:Int)).toNat) ((YG6 #[]),[],[])).2.2).length:Int))+(1:Int))).toNat))) fun y705=>YGO (YcT lo (y699.1,y699.2,y702.1,y702.2,y694.1,y694.2.1,(y703.set (((YG7 .i64 k2).tmod (y703.length:Int)).toNat) y705))) fun y709=>some y709))))))else(YGO (YcT lo (y699.1,y699.2,y702.1,y702.2,y694.1,y694.2.1,y703)) fun y710=>some y710)))))))
def YAk:VFn:=⟨true,139,[.t 6],
 (Rg [oG 4 1,oB 6 false]
 (Rg [oM 22 0,oC 23 474 [22],oM 21 23,oE 24 21 0,oE 25 21 1,o 7 (.alloc [.e Zc6]),oS 1 7 24,oM 8 25]
 (Rg [oT 27 1 7,oT 28 2 4,oC 29 475 [27,28],oM 26 29,oE 30 26 0,oE 31 26 1,o 9 (.alloc [.e (cs [.s]),.e Zc5]),oS 2 9 30,oM 10 31]
 (.seq (Rg [oC 32 469 [],oX 33 32,oM 34 33,gF 35 34 (.mv 8),gF 36 34 (.not 35),oP 37 34 (kb true) 36,oM 38 37,gF 39 38 (.mv 10),gF 40 38 (.not 39),oP 41 38 (kb true) 40]
 (.cond 41 (Rg [oC 42 469 [],oM 6 42]
 (Fr 6))
 .skip))
 (Rg [oT 44 1 7,oT 45 2 9,oC 46 476 [44,45],oM 43 46,oE 47 43 0,oE 48 43 1,oM 11 47,oM 12 48]
 (Rg [oF 49 0 9,⟨some 50,.load false 1 49,none,true,false⟩,oF 51 1 9,⟨some 52,.load false 1 51,none,true,false⟩,⟨some 53,.callN 487 [52] false,none,true,false⟩,o 54 (.build [.e (cs [.s]),.e Zc5] [(0,1,50),(1,1,53)]),o 13 (.alloc [.e (cs [.s]),.e Zc5]),oS 2 13 54]
 (Rg [oF 55 1 13,oL 56 55,oC 57 491 [56]]
 (.seq (.fz [56] (.reg [oT 59 1 7,oT 60 2 13,oC 61 476 [59,60],oM 58 61,oE 62 58 0,oE 63 58 1,oM 14 62,oM 15 63]))
 (Rg [oF 64 0 7,oL 65 64,oC 66 492 [65],o 67 (.build [.e Zc6] [(0,1,66)]),o 16 (.alloc [.e Zc6]),oS 1 16 67]
 (Rg [oF 68 0 16,oL 69 68,oM 70 2,o 71 (.conv .i64 70),oF 72 0 16,oL 73 72,oN 74 73,oR 75 .rem 71 74,oI 76 3 69 75,oM 17 76]
 (.seq (Rg [oM 77 17,o 78 (.nilc 77),oF 79 2 78,oL 80 79,oN 81 80,oR 82 .gtr 81 (k 0)]
 (.cond 82 (Rg [oM 83 2,o 84 (.conv .i64 83),oR 85 .quo 84 (k 3),oM 86 17,o 87 (.nilc 86),oF 88 2 87,oL 89 88,oN 90 89,oR 91 .rem 85 90,oM 18 91]
 (.reg [oM 92 17,oM 93 17,o 94 (.nilc 93),⟨some 95,.load true 3 94,none,true,false⟩,oM 96 17,o 97 (.nilc 96),oF 98 2 97,oL 99 98,oM 100 18,o 101 (.slcR 2 99 none (some 100)),o 102 (.callN 493 [101] false),oM 103 17,o 104 (.nilc 103),oF 105 2 104,⟨some 106,.load false 1 105,none,true,false⟩,oM 107 18,oR 108 .add 107 (k 1),o 109 (.slcR 2 106 (some 108) none),⟨some 110,.appD Zc15 102 109,none,false,true⟩,oC 111 282 [95,110],o 112 (.nilc 92),oS 3 112 111]))
 .skip))
 (.jn 7 q165_J7_b))))))))))))⟩
noncomputable def q165_f(lo:Lo):FnE:=Zfe 466 true (Zsg [0,1,2] [.l Zc25,.ag [.l Zc20,.l Zc23],.i .u8] []) .b [] (fun x=>q165 lo x.1 x.2.1 x.2.2.1 x.2.2.2:Zt24× (List Int)×Zt19×Int->Option Bool)
noncomputable def YFF(lo:Lo):List FnE:=q165_f lo::YDQ lo
theorem YAl(h:GZ P fm YDQ lo)(t:Ti P fm 466 YAk):GZ P fm YFF lo:=
  h.p (q165_f lo) (YAj lo) t
end Go.Abs.G47
