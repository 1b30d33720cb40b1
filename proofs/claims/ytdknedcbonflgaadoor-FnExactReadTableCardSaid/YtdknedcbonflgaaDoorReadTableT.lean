/- Read Table: the plain forms of the values, and plain models of the functions. -/
import Derived.Test.YtdknedcbonflgaaDoorE33
set_option linter.unusedVariables false
set_option linter.unusedSimpArgs false
namespace Go.Proofs.YtdknedcbonflgaaDoor
open Go.RowKit Go.X
structure LB where
 Name:nA
 Col:Int
 Stage:Int
def dA:LB:=⟨[],0,0⟩
def qL(x:LB):Prop:=CK x.Name∧fL x.Col∧fL x.Stage
def oF(x:LB):Prop:=bD x.Name
theorem vB:oF dA:=wB
def SC(x:LB):List Value:=[.string (bs x.Name),.int .i64 x.Col,.int .i64 x.Stage]
theorem gI:Gd (RF SC):=RF.good fun _=>rfl
structure GA where
 Name:nA
 Cols:List nA
 Idxs:List LB
def HK:GA:=⟨[],[],[]⟩
def DL(x:GA):Prop:=CK x.Name∧(NL CK) x.Cols∧(NL qL) x.Idxs
def ZD(x:GA):Prop:=bD x.Name∧(BF bD) x.Cols∧(BF oF) x.Idxs
theorem lL:ZD HK:=⟨wB,PB _,PB _⟩
def jJ:WE GA:=fun w S cs x=>∃A1 c1 A2 c2,cs=[.string (bs x.Name),.slice A1 x.Cols.length c1,.slice A2 x.Idxs.length c2]∧nC w S (RF kC) 1 A1 x.Cols.length c1 x.Cols∧nC w S (RF SC) 3 A2 x.Idxs.length c2 x.Idxs
def pI:uE GA:=fun w l h cs x=>∃A1 c1 lo1 hi1 A2 c2 lo2 hi2,cs=[.string (bs x.Name),.slice A1 x.Cols.length c1,.slice A2 x.Idxs.length c2]∧dB w lo1 hi1 9 1 (RF kC) A1 x.Cols.length c1 x.Cols∧dB w lo2 hi2 33 3 (RF SC) A2 x.Idxs.length c2 x.Idxs∧(l≤lo1∧lo1≤hi1∧hi1≤h)∧(l≤lo2∧lo2≤hi2∧hi2≤h)∧(hi1≤lo2∨hi2≤lo1)
theorem kL:Gd jJ:=⟨fun⟨A1,c1,A2,c2,he,h0,h1⟩ hk=>⟨A1,c1,A2,c2,he,nC.keep gS h0 hk,nC.keep gI h1 hk⟩,fun⟨A1,c1,A2,c2,he,h0,h1⟩ hw=>⟨A1,c1,A2,c2,he,nC.wide gS h0 hw,nC.wide gI h1 hw⟩,fun⟨A1,c1,A2,c2,he,h0,h1⟩=>by rw[he];rfl⟩
theorem ZK:WF pI jJ:=⟨fun⟨A1,c1,lo1,hi1,A2,c2,lo2,hi2,he,h1,h2,r0,r1,r2⟩ hk=>⟨A1,c1,lo1,hi1,A2,c2,lo2,hi2,he,dB.keep gS h1 (fun b b1 b2 b3=>hk b oM oM b3),dB.keep gI h2 (fun b b1 b2 b3=>hk b oM oM b3),r0,r1,r2⟩,fun⟨A1,c1,lo1,hi1,A2,c2,lo2,hi2,he,h1,h2,r0,r1,r2⟩=>by rw[he];rfl,fun⟨A1,c1,lo1,hi1,A2,c2,lo2,hi2,he,h1,h2,r0,r1,r2⟩=>⟨A1,c1,A2,c2,he,nC.wide gS (dB.rdI gS h1) (fun b hb _=>⟨by have:=hb.1;omega,by have:=hb.2;omega⟩),nC.wide gI (dB.rdI gI h2) (fun b hb _=>⟨by have:=hb.1;omega,by have:=hb.2;omega⟩)⟩⟩
theorem uL{w:World}{l h:Nat}{z0:nA}{lo1 hi1 n1 c1:Nat}{A1:Option Addr}{y1:List nA}{lo2 hi2 n2 c2:Nat}{A2:Option Addr}{y2:List LB}(h1:dB w lo1 hi1 9 1 (RF kC) A1 n1 c1 y1)(h2:dB w lo2 hi2 33 3 (RF SC) A2 n2 c2 y2)(r0:(l≤lo1∧lo1≤hi1∧hi1≤h))(r1:(l≤lo2∧lo2≤hi2∧hi2≤h))(r2:(hi1≤lo2∨hi2≤lo1)):pI w l h [.string (bs z0),.slice A1 n1 c1,.slice A2 n2 c2] ⟨z0,y1,y2⟩:=by
 obtain rfl:=h1.1;obtain rfl:=h2.1
 exact⟨A1,c1,lo1,hi1,A2,c2,lo2,hi2,rfl,h1,h2,r0,r1,r2⟩
structure OE where
 x:Int
 y:Int
 signed:Bool
 code:Int
def BK:OE:=⟨0,0,false,0⟩
def uK(x:OE):Prop:=fL x.x∧fL x.y∧fL x.code
def tH(x:OE):List Value:=[.int .i64 x.x,.int .i64 x.y,.bool x.signed,.int .u8 x.code]
theorem IJ:Gd (RF tH):=RF.good fun _=>rfl
structure fD where
 msg:nA
 addr:Int
def fF:fD:=⟨[],0⟩
def lI(x:fD):Prop:=CK x.msg∧fL x.addr
def YE(x:fD):Prop:=bD x.msg
theorem KH:YE fF:=wB
def iF(x:fD):List Value:=[.string (bs x.msg),.int .u64 x.addr]
theorem EH:Gd (RF iF):=RF.good fun _=>rfl
structure NE where
 lo:Int
 hi:Int
def AK:NE:=⟨0,0⟩
def tK(x:NE):Prop:=fL x.lo∧fL x.hi
def sH(x:NE):List Value:=[.int .u8 x.lo,.int .u8 x.hi]
theorem HJ:Gd (RF sH):=RF.good fun _=>rfl
structure dE where
 s:nA
def rH:dE:=⟨[]⟩
def vK(x:dE):Prop:=CK x.s
def WG(x:dE):Prop:=bD x.s
theorem MJ:WG rH:=wB
def uH(x:dE):List Value:=[.string (bs x.s)]
theorem JJ:Gd (RF uH):=RF.good fun _=>rfl
def lC(WA:nA)(BC:Int)(k2:Nat):(List nA)×Int→yE (List nA) ((List nA)×Int) | (x20,x24)=>bif decide (((WA.getD k2 0).toNat:Int)=BC)then .cont ((x20++([((WA.take k2).drop ((x24).toNat))]:List nA)),((k2+1:Nat):Int))else .cont (x20,x24)
def eA(WA:nA)(BC:Int):List nA:=KC (FA (lC WA BC) (WA.length-0) 0 (([]:List nA),0)) (fun r=>r) (fun(x20,x24)=>(x20++([(WA.drop ((x24).toNat))]:List nA)))
def XC(zC:List nA)(WA:nA)(k4:Nat):Unit→yE Int Unit | ()=>bif(zC.getD k4 gA)==WA then .ret (k4:Int)else .cont ()
def iD(zC:List nA)(WA:nA):Int:=KC (FA (XC zC WA) (zC.length-0) 0 ()) (fun r=>r) (fun _=>-1)
def rB(RA:GA)(OB:nA):LB×Bool:=bif decide (((eA OB 47).length:Int)=3)then bif decide ((((eA OB 47).getD 2 gA).length:Int)=1)then((⟨((eA OB 47).getD 0 gA),(iD RA.Cols ((eA OB 47).getD 1 gA)),IntKind.wrap .i64 ((IntKind.wrap .i64 ((((eA OB 47).getD 2 gA).getD 0 0).toNat:Int))-48)⟩:LB),true)else((⟨([]:nA),0,0⟩:LB),false)else((⟨([]:nA),0,0⟩:LB),false)
def CB(WA:nA)(WB:Int)(k2:Nat):Unit→yE Bool Unit | ()=>bif decide (((WA.getD k2 0).toNat:Int)<97)then .ret false else bif decide (122<((WA.getD k2 0).toNat:Int))then .ret false else .cont ()
def BA(WA:nA)(WB:Int):Bool:=KC (FA (CB WA WB) (WA.length-0) 0 ()) (fun r=>r) (fun _=>bif decide (1≤(WA.length:Int))then decide ((WA.length:Int)≤WB)else false)
def BB(JE:Int)(aJ:Int)(OJ:Int):Bool:=bif decide (aJ≤JE)then decide (JE≤OJ)else false
def YB(zC:List nA)(k3:Nat):Unit→yE Bool Unit | ()=>bif BA (zC.getD k3 gA) 3 then bif decide (0≤(iD (zC.take k3) (zC.getD k3 gA)))then .ret false else .cont ()else .ret false
def OC(zC:List nA):Bool:=KC (FA (YB zC) (zC.length-0) 0 ()) (fun r=>r) (fun _=>(BB (zC.length:Int) 2 4))
def PA(lA:GA)(k19:Nat):Unit→yE Bool Unit | ()=>bif BA ((lA.Idxs.getD k19 dA).Name) 1 then bif BB ((lA.Idxs.getD k19 dA).Col) 1 (IntKind.wrap .i64 ((lA.Cols.length:Int)-1))then bif BB ((lA.Idxs.getD k19 dA).Stage) 0 3 then bif decide (0<(k19:Int))then bif cJ ((lA.Idxs.getD ((IntKind.wrap .i64 ((k19:Int)-1)).toNat) dA).Name) ((lA.Idxs.getD k19 dA).Name)then .cont ()else .ret false else .cont ()else .ret false else .ret false else .ret false
def CA(lA:GA):Bool:=bif BA lA.Name 1 then bif OC lA.Cols then bif decide (3<(lA.Idxs.length:Int))then false else KC (FA (PA lA) (lA.Idxs.length-0) 0 ()) (fun r=>r) (fun _=>true)else false else false
def EC(zC:List nA)(BE:nA)(k4:Nat):nA→yE nA nA | (x12)=>bif decide (0<(k4:Int))then .cont ((x12++BE)++(zC.getD k4 gA))else .cont (x12++(zC.getD k4 gA))
def uD(zC:List nA)(BE:nA):nA:=KC (FA (EC zC BE) (zC.length-0) 0 (([]:nA))) (fun r=>r) (fun x12=>x12)
def IC(JE:Int):nA:=YJ ([IntKind.wrap .u8 (IntKind.wrap .i64 (48+JE))]:List Int)
def FC(RA:GA)(k14:Nat):nA→yE nA nA | (x63)=>.cont (x63++(((((([32]:nA)++((RA.Idxs.getD k14 dA).Name))++([47]:nA))++(RA.Cols.getD (((RA.Idxs.getD k14 dA).Col).toNat) gA))++([47]:nA))++(IC ((RA.Idxs.getD k14 dA).Stage))))
def QB(RA:GA):nA:=KC (FA (FC RA) (RA.Idxs.length-0) 0 (((RA.Name++([40]:nA))++(uD RA.Cols ([44]:nA)))++([41]:nA))) (fun r=>r) (fun x63=>x63)
def RB(lA:nA)(k39:Nat):(List LB)→yE (GA×Bool) (List LB) | (x76)=>bif(rB (⟨(((eA lA 32).getD 0 gA).take 1),(eA ((((eA lA 32).getD 0 gA).take ((IntKind.wrap .i64 ((((eA lA 32).getD 0 gA).length:Int)-1)).toNat)).drop 2) 44),x76⟩:GA) (((eA lA 32).drop 1).getD k39 gA)).2 then .cont ((x76++([(rB (⟨(((eA lA 32).getD 0 gA).take 1),(eA ((((eA lA 32).getD 0 gA).take ((IntKind.wrap .i64 ((((eA lA 32).getD 0 gA).length:Int)-1)).toNat)).drop 2) 44),x76⟩:GA) (((eA lA 32).drop 1).getD k39 gA)).1]:List LB)))else .ret ((⟨([]:nA),[],[]⟩:GA),false)
def NA(lA:nA):GA×Bool:=bif decide ((((eA lA 32).getD 0 gA).length:Int)<3)then((⟨([]:nA),[],[]⟩:GA),false)else bif decide (((((eA lA 32).getD 0 gA).getD 1 0).toNat:Int)=40)then bif decide (((((eA lA 32).getD 0 gA).getD (IntKind.wrap .i64 ((((eA lA 32).getD 0 gA).length:Int)-1)).toNat 0).toNat:Int)=41)then KC (FA (RB lA) (((eA lA 32).drop 1).length-0) 0 (([]:List LB))) (fun r=>r) (fun x76=>bif CA (⟨(((eA lA 32).getD 0 gA).take 1),(eA ((((eA lA 32).getD 0 gA).take ((IntKind.wrap .i64 ((((eA lA 32).getD 0 gA).length:Int)-1)).toNat)).drop 2) 44),x76⟩:GA)then bif(QB (⟨(((eA lA 32).getD 0 gA).take 1),(eA ((((eA lA 32).getD 0 gA).take ((IntKind.wrap .i64 ((((eA lA 32).getD 0 gA).length:Int)-1)).toNat)).drop 2) 44),x76⟩:GA))==lA then((⟨(((eA lA 32).getD 0 gA).take 1),(eA ((((eA lA 32).getD 0 gA).take ((IntKind.wrap .i64 ((((eA lA 32).getD 0 gA).length:Int)-1)).toNat)).drop 2) 44),x76⟩:GA),true)else((⟨([]:nA),[],[]⟩:GA),false)else((⟨([]:nA),[],[]⟩:GA),false))else((⟨([]:nA),[],[]⟩:GA),false)else((⟨([]:nA),[],[]⟩:GA),false)
def KB(WA:nA)(mL:Int):Int:=JK WA mL
def TC(JE:Int):Int:=IntKind.wrap .i64 (Int.tdiv (IntKind.wrap .i64 (JE+16)) 8)
def pA(lA:nA)(ZI:nA):Int:=bif ZI==lA then 0 else(KB lA ((ZI.getD 0 0).toNat:Int))
def LA(WA:nA)(oB:nA):nA×nA×Bool:=bif decide (0≤(pA WA oB))then((WA.take (((pA WA oB)).toNat)),(WA.drop ((IntKind.wrap .i64 ((pA WA oB)+(oB.length:Int))).toNat)),true)else(WA,([]:nA),false)
def aA(WA:nA)(oB:nA):nA×nA×Bool:=((LA WA oB).1,(LA WA oB).2.1,(LA WA oB).2.2)
def bA(WA:nA)(oB:nA):List nA:=sp (oB.headD 0) WA
def eB(dL:Int):nA:=[(48+dL).toNat.toUInt8]
def fB(JE:Int)(wD:Int)(UC:Int):Bool:=bif decide (wD≤JE)then decide (JE≤UC)else false
def VB(WA:nA)(wD:Int)(UC:Int):Int×Bool:=match WA with
 | [c]=>bif(decide (48≤c.toNat)&&decide (c.toNat≤57)&&fB ((c.toNat:Int)-48) wD UC)then((c.toNat:Int)-48,true)else(0,false)
 | _=>(0,false)
def lB(WA:List nA)(tG:nA)(k4:Nat):Unit→yE Int Unit | ()=>bif tG==(WA.getD k4 gA)then .ret (k4:Int)else .cont ()
def KA(WA:List nA)(tG:nA):Int:=KC (FA (lB WA tG) (WA.length-0) 0 ()) (fun r=>r) (fun _=>-1)
def HB(WA:nA)(WB:Int)(k2:Nat):Unit→yE Bool Unit | ()=>bif decide (((WA.getD k2 0).toNat:Int)<97)then .ret false else bif decide (122<((WA.getD k2 0).toNat:Int))then .ret false else .cont ()
def QA(WA:nA)(WB:Int):Bool:=KC (FA (HB WA WB) (WA.length-0) 0 ()) (fun r=>r) (fun _=>(fB (WA.length:Int) 1 WB))
def bC(WA:List nA)(tG:nA):Bool:=decide (0≤(KA WA tG))
def fC(wF:Int):Bool:=(fB wF 0 3)
def FB(lA:GA)(k19:Nat):Unit→yE Bool Unit | ()=>bif QA (lA.Cols.getD k19 gA) 3 then bif bC (lA.Cols.take k19) (lA.Cols.getD k19 gA)then .ret false else .cont ()else .ret false
def UA(lA:GA)(k35:Nat):Unit→yE Bool Unit | ()=>bif QA ((lA.Idxs.getD k35 dA).Name) 1 then bif fB ((lA.Idxs.getD k35 dA).Col) 1 (IntKind.wrap .i64 ((lA.Cols.length:Int)-1))then bif fC ((lA.Idxs.getD k35 dA).Stage)then bif decide (0<(k35:Int))then bif QK ((lA.Idxs.getD k35 dA).Name) ((lA.Idxs.getD ((IntKind.wrap .i64 ((k35:Int)-1)).toNat) dA).Name)then .ret false else .cont ()else .cont ()else .ret false else .ret false else .ret false
def iB(lA:GA):Bool:=bif QA lA.Name 1 then bif fB (lA.Cols.length:Int) 2 4 then bif decide (3<(lA.Idxs.length:Int))then false else KC (FA (FB lA) (lA.Cols.length-0) 0 ()) (fun r=>r) (fun _=>KC (FA (UA lA) (lA.Idxs.length-0) 0 ()) (fun r=>r) (fun _=>true))else false else false
def DA(vD:List nA)(oB:nA):nA:=oB.intercalate vD
def JC(RA:GA)(k15:Nat):nA→yE nA nA | (x64)=>.cont (x64++(((((([32]:nA)++((RA.Idxs.getD k15 dA).Name))++([47]:nA))++(RA.Cols.getD (((RA.Idxs.getD k15 dA).Col).toNat) gA))++([47]:nA))++(eB ((RA.Idxs.getD k15 dA).Stage))))
def mD(RA:GA):nA:=KC (FA (JC RA) (RA.Idxs.length-0) 0 (((RA.Name++([40]:nA))++(DA RA.Cols ([44]:nA)))++([41]:nA))) (fun r=>r) (fun x64=>x64)
def xB(lA:nA)(k41:Nat):Bool×(List LB)→yE (GA×Bool) (Bool×(List LB)) | (x109,x110)=>bif decide ((k41:Int)=0)then .cont (x109,x110)else bif decide (((bA ((bA ((aA lA ([41]:nA)).2.1) ([32]:nA)).getD k41 gA) ([47]:nA)).length:Int)=3)then bif x109 then .cont ((VB ((bA ((bA ((aA lA ([41]:nA)).2.1) ([32]:nA)).getD k41 gA) ([47]:nA)).getD 2 gA) 0 3).2,(x110++([(⟨((bA ((bA ((aA lA ([41]:nA)).2.1) ([32]:nA)).getD k41 gA) ([47]:nA)).getD 0 gA),(KA (bA ((aA ((aA lA ([41]:nA)).1) ([40]:nA)).2.1) ([44]:nA)) ((bA ((bA ((aA lA ([41]:nA)).2.1) ([32]:nA)).getD k41 gA) ([47]:nA)).getD 1 gA)),(VB ((bA ((bA ((aA lA ([41]:nA)).2.1) ([32]:nA)).getD k41 gA) ([47]:nA)).getD 2 gA) 0 3).1⟩:LB)]:List LB)))else .cont (false,(x110++([(⟨((bA ((bA ((aA lA ([41]:nA)).2.1) ([32]:nA)).getD k41 gA) ([47]:nA)).getD 0 gA),(KA (bA ((aA ((aA lA ([41]:nA)).1) ([40]:nA)).2.1) ([44]:nA)) ((bA ((bA ((aA lA ([41]:nA)).2.1) ([32]:nA)).getD k41 gA) ([47]:nA)).getD 1 gA)),(VB ((bA ((bA ((aA lA ([41]:nA)).2.1) ([32]:nA)).getD k41 gA) ([47]:nA)).getD 2 gA) 0 3).1⟩:LB)]:List LB)))else .ret ((⟨([]:nA),[],[]⟩:GA),false)
def zA(lA:nA):GA×Bool:=KC (FA (xB lA) ((bA ((aA lA ([41]:nA)).2.1) ([32]:nA)).length-0) 0 ((aA lA ([41]:nA)).2.2,([]:List LB))) (fun r=>r) (fun(x109,x110)=>bif x109 then bif(aA ((aA lA ([41]:nA)).1) ([40]:nA)).2.2 then bif iB (⟨(aA ((aA lA ([41]:nA)).1) ([40]:nA)).1,(bA ((aA ((aA lA ([41]:nA)).1) ([40]:nA)).2.1) ([44]:nA)),x110⟩:GA)then bif(mD (⟨(aA ((aA lA ([41]:nA)).1) ([40]:nA)).1,(bA ((aA ((aA lA ([41]:nA)).1) ([40]:nA)).2.1) ([44]:nA)),x110⟩:GA))==lA then((⟨(aA ((aA lA ([41]:nA)).1) ([40]:nA)).1,(bA ((aA ((aA lA ([41]:nA)).1) ([40]:nA)).2.1) ([44]:nA)),x110⟩:GA),true)else((⟨([]:nA),[],[]⟩:GA),false)else((⟨([]:nA),[],[]⟩:GA),false)else((⟨([]:nA),[],[]⟩:GA),false)else((⟨([]:nA),[],[]⟩:GA),false))
def oC(TA:List nA)(BC:List nA)(k4:Nat):Unit→yE Bool Unit | ()=>bif(TA.getD k4 gA)==(BC.getD k4 gA)then .cont ()else .ret false
def MC(TA:List nA)(BC:List nA):Bool:=bif decide ((TA.length:Int)=(BC.length:Int))then KC (FA (oC TA BC) (TA.length-0) 0 ()) (fun r=>r) (fun _=>true)else false
def gD(TA:LB)(BC:LB):Bool:=bif TA.Name==BC.Name then bif decide (TA.Col=BC.Col)then bif decide (TA.Stage=BC.Stage)then true else false else false else false
def LC(TA:List LB)(BC:List LB)(k4:Nat):Unit→yE Bool Unit | ()=>bif gD (TA.getD k4 dA) (BC.getD k4 dA)then .cont ()else .ret false
def CD(TA:List LB)(BC:List LB):Bool:=bif decide ((TA.length:Int)=(BC.length:Int))then KC (FA (LC TA BC) (TA.length-0) 0 ()) (fun r=>r) (fun _=>true)else false
def NC(TA:GA)(BC:GA):Bool:=bif TA.Name==BC.Name then bif MC TA.Cols BC.Cols then bif CD TA.Idxs BC.Idxs then true else false else false else false
def GC(gC:Int):Int×nA→yE nA (Int×nA) | (x15,x16)=>bif decide (0<x15)then .cont (IntKind.wrap .i64 (Int.tdiv x15 10),(YJ ([IntKind.wrap .u8 (IntKind.wrap .i64 (48+(Int.tmod x15 10)))]:List Int))++x16)else .brk (x15,x16)
def YA(gC:Int):nA:=bif decide (gC≤0)then([109,48]:nA)else KC (YD (GC gC) ((((gC).toNat+1) / 2)+1) (gC,([]:nA))) (fun r=>r) (fun(x15,x16)=>([109]:nA)++x16)
def uC(TA:List nA)(gC:Int)(k3:Nat):Int×(List nA)→yE (Int×(List nA)) (Int×(List nA)) | (x14,x15)=>.cont (IntKind.wrap .i64 (x14+1),(x15.set k3 (YA x14)))
def qB(TA:List nA)(gC:Int):Int×(List nA):=KC (FA (uC TA gC) (TA.length-0) 0 (gC,TA)) (fun r=>r) (fun(x14,x15)=>(x14,x15))
def PC(TA:List LB)(gC:Int)(k3:Nat):Int×(List LB)→yE (Int×(List LB)) (Int×(List LB)) | (x26,x27)=>.cont (IntKind.wrap .i64 ((IntKind.wrap .i64 ((IntKind.wrap .i64 (x26+1))+1))+1),(x27.set k3 (⟨(YA x26),IntKind.wrap .i64 (x26+1),IntKind.wrap .i64 ((IntKind.wrap .i64 (x26+1))+1)⟩:LB)))
def iC(TA:List LB)(gC:Int):Int×(List LB):=KC (FA (PC TA gC) (TA.length-0) 0 (gC,TA)) (fun r=>r) (fun(x26,x27)=>(x26,x27))
def jB(TA:GA)(gC:Int):Int×GA:=((iC TA.Idxs ((qB TA.Cols gC).1)).1,(⟨TA.Name,(qB TA.Cols gC).2,(iC TA.Idxs ((qB TA.Cols gC).1)).2⟩:GA))
def JB(TA:List nA)(gC:Int)(k2:Nat):Int→yE Int Int | (x3)=>bif(TA.getD k2 gA)==(YA x3)then .cont (IntKind.wrap .i64 (x3+1))else .ret (-1)
def pB(TA:List nA)(gC:Int):Int:=KC (FA (JB TA gC) (TA.length-0) 0 (gC)) (fun r=>r) (fun x3=>x3)
def sB(TA:List LB)(gC:Int)(k2:Nat):Int→yE Int Int | (x3)=>bif((TA.getD k2 dA).Name)==(YA x3)then bif decide (((TA.getD k2 dA).Col)=(IntKind.wrap .i64 (x3+1)))then bif decide (((TA.getD k2 dA).Stage)=(IntKind.wrap .i64 ((IntKind.wrap .i64 (x3+1))+1)))then .cont (IntKind.wrap .i64 ((IntKind.wrap .i64 ((IntKind.wrap .i64 (x3+1))+1))+1))else .ret (-1)else .ret (-1)else .ret (-1)
def eC(TA:List LB)(gC:Int):Int:=KC (FA (sB TA gC) (TA.length-0) 0 (gC)) (fun r=>r) (fun x3=>x3)
def cC(TA:GA)(gC:Int):Int:=bif decide ((pB TA.Cols gC)<0)then -1 else bif decide ((eC TA.Idxs (pB TA.Cols gC))<0)then -1 else(eC TA.Idxs (pB TA.Cols gC))
def XA(lA:nA):Bool:=bif decide (1048576<(lA.length:Int))then true else bif NC ((zA lA).1) ((NA lA).1)then bif((zA lA).2)==((NA lA).2)then bif decide ((cC (⟨(zA lA).1.Name,(jB ((zA lA).1) 1).2.Cols,(jB ((zA lA).1) 1).2.Idxs⟩:GA) 1)<0)then false else bif decide ((cC (⟨(zA lA).1.Name,(jB ((zA lA).1) 1).2.Cols,(jB ((zA lA).1) 1).2.Idxs⟩:GA) 1)=((jB ((zA lA).1) 1).1))then true else false else false else false 
end Go.Proofs.YtdknedcbonflgaaDoor
