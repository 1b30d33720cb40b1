/- Fn Pieces: the plain forms of the values, and plain models of the functions. -/
import Derived.Test.YtjgimhdmpcincaaGreatDoorE31
set_option linter.unusedVariables false
set_option linter.unusedSimpArgs false
namespace Go.Proofs.YtjgimhdmpcincaaGreatDoor
open Go.RowKit Go.X
structure MG where
 Name:uA
 Col:Int
 Stage:Int
def AB:MG:=⟨[],0,0⟩
def Ka(x:MG):Prop:=cX x.Name∧SX x.Col∧SX x.Stage
def qL(x:MG):Prop:=HE x.Name
theorem hJ:qL AB:=MD
def BF(x:MG):List Value:=[.string (bs x.Name),.int .i64 x.Col,.int .i64 x.Stage]
theorem gI:Gd (RF BF):=UJ fun _=>rfl
structure dB where
 Name:uA
 Cols:List uA
 Idxs:List MG
def qZ:dB:=⟨[],[],[]⟩
def Eb(x:dB):Prop:=cX x.Name∧(RZ cX) x.Cols∧(RZ Ka) x.Idxs
def QD(x:dB):Prop:=HE x.Name∧(xF HE) x.Cols∧(xF qL) x.Idxs
theorem Ga:QD qZ:=⟨MD,kE _,kE _⟩
def KW:nM dB:=fun w S cs x=>∃A1 c1 A2 c2,cs=[.string (bs x.Name),.slice A1 x.Cols.length c1,.slice A2 x.Idxs.length c2]∧kD w S (RF nC) 1 A1 x.Cols.length c1 x.Cols∧kD w S (RF BF) 3 A2 x.Idxs.length c2 x.Idxs
def vU:uO dB:=fun w l h cs x=>∃A1 c1 lo1 hi1 A2 c2 lo2 hi2,cs=[.string (bs x.Name),.slice A1 x.Cols.length c1,.slice A2 x.Idxs.length c2]∧XB w lo1 hi1 9 1 (RF nC) A1 x.Cols.length c1 x.Cols∧XB w lo2 hi2 95 3 (RF BF) A2 x.Idxs.length c2 x.Idxs∧(l≤lo1∧lo1≤hi1∧hi1≤h)∧(l≤lo2∧lo2≤hi2∧hi2≤h)∧(hi1≤lo2∨hi2≤lo1)
theorem Ba:Gd KW:=⟨fun⟨A1,c1,A2,c2,he,h0,h1⟩ hk=>⟨A1,c1,A2,c2,he,kD.keep gS h0 hk,kD.keep gI h1 hk⟩,fun⟨A1,c1,A2,c2,he,h0,h1⟩ hw=>⟨A1,c1,A2,c2,he,AH gS h0 hw,AH gI h1 hw⟩,fun⟨A1,c1,A2,c2,he,h0,h1⟩=>by rw[he];rfl⟩
theorem OZ:ZR vU KW:=⟨fun⟨A1,c1,lo1,hi1,A2,c2,lo2,hi2,he,h1,h2,r0,r1,r2⟩ hk=>⟨A1,c1,lo1,hi1,A2,c2,lo2,hi2,he,XB.keep gS h1 (fun b b1 b2 b3=>hk b oM oM b3),XB.keep gI h2 (fun b b1 b2 b3=>hk b oM oM b3),r0,r1,r2⟩,fun⟨A1,c1,lo1,hi1,A2,c2,lo2,hi2,he,h1,h2,r0,r1,r2⟩=>by rw[he];rfl,fun⟨A1,c1,lo1,hi1,A2,c2,lo2,hi2,he,h1,h2,r0,r1,r2⟩=>⟨A1,c1,A2,c2,he,AH gS (NE gS h1) (fun b hb _=>⟨by have:=hb.1;omega,by have:=hb.2;omega⟩),AH gI (NE gI h2) (fun b hb _=>⟨by have:=hb.1;omega,by have:=hb.2;omega⟩)⟩⟩
theorem Pa{w:World}{l h:Nat}{z0:uA}{lo1 hi1 n1 c1:Nat}{A1:Option Addr}{y1:List uA}{lo2 hi2 n2 c2:Nat}{A2:Option Addr}{y2:List MG}(h1:XB w lo1 hi1 9 1 (RF nC) A1 n1 c1 y1)(h2:XB w lo2 hi2 95 3 (RF BF) A2 n2 c2 y2)(r0:(l≤lo1∧lo1≤hi1∧hi1≤h))(r1:(l≤lo2∧lo2≤hi2∧hi2≤h))(r2:(hi1≤lo2∨hi2≤lo1)):vU w l h [.string (bs z0),.slice A1 n1 c1,.slice A2 n2 c2] ⟨z0,y1,y2⟩:=by
 obtain rfl:=h1.1;obtain rfl:=h2.1
 exact⟨A1,c1,lo1,hi1,A2,c2,lo2,hi2,rfl,h1,h2,r0,r1,r2⟩
structure YQ where
 code:List Int
 at_:Int
 seed:Int
def pZ:YQ:=⟨[],0,0⟩
def Cb(x:YQ):Prop:=(RZ SX) x.code∧SX x.at_∧SX x.seed
def FY(x:YQ):Prop:=(xF ZT) x.code
theorem Fa:FY pZ:=kE _
def JW:nM YQ:=fun w S cs x=>∃A1 c1,cs=[.slice A1 x.code.length c1,.int .i64 x.at_,.int .u64 x.seed]∧kD w S (RF iK) 1 A1 x.code.length c1 x.code
def uU:uO YQ:=fun w l h cs x=>∃A1 c1 lo1 hi1,cs=[.slice A1 x.code.length c1,.int .i64 x.at_,.int .u64 x.seed]∧XB w lo1 hi1 5 1 (RF iK) A1 x.code.length c1 x.code∧(l≤lo1∧lo1≤hi1∧hi1≤h)
theorem Aa:Gd JW:=⟨fun⟨A1,c1,he,h0⟩ hk=>⟨A1,c1,he,kD.keep gU h0 hk⟩,fun⟨A1,c1,he,h0⟩ hw=>⟨A1,c1,he,AH gU h0 hw⟩,fun⟨A1,c1,he,h0⟩=>by rw[he];rfl⟩
theorem NZ:ZR uU JW:=⟨fun⟨A1,c1,lo1,hi1,he,h1,r0⟩ hk=>⟨A1,c1,lo1,hi1,he,XB.keep gU h1 (fun b b1 b2 b3=>hk b oM oM b3),r0⟩,fun⟨A1,c1,lo1,hi1,he,h1,r0⟩=>by rw[he];rfl,fun⟨A1,c1,lo1,hi1,he,h1,r0⟩=>⟨A1,c1,he,AH gU (NE gU h1) (fun b hb _=>⟨by have:=hb.1;omega,by have:=hb.2;omega⟩)⟩⟩
theorem Oa{w:World}{l h:Nat}{lo1 hi1 n1 c1:Nat}{A1:Option Addr}{y1:List Int}{z1:Int}{z2:Int}(h1:XB w lo1 hi1 5 1 (RF iK) A1 n1 c1 y1)(r0:(l≤lo1∧lo1≤hi1∧hi1≤h)):uU w l h [.slice A1 n1 c1,.int .i64 z1,.int .u64 z2] ⟨y1,z1,z2⟩:=by
 obtain rfl:=h1.1
 exact⟨A1,c1,lo1,hi1,rfl,h1,r0⟩
structure jA where
 Key:uA
 Val:uA
 Gone:Bool
def xA:jA:=⟨[],[],false⟩
def Fb(x:jA):Prop:=cX x.Key∧cX x.Val
def PB(x:jA):Prop:=HE x.Key∧HE x.Val
theorem qF:PB xA:=⟨MD,MD⟩
def xB(x:jA):List Value:=[.string (bs x.Key),.string (bs x.Val),.bool x.Gone]
theorem gW:Gd (RF xB):=UJ fun _=>rfl
structure mD where
 Vals:List uA
def DD:mD:=⟨[]⟩
def Pb(x:mD):Prop:=(RZ cX) x.Vals
def iJ(x:mD):Prop:=(xF HE) x.Vals
theorem eL:iJ DD:=kE _
def wU:nM mD:=fun w S cs x=>∃A1 c1,cs=[.slice A1 x.Vals.length c1]∧kD w S (RF nC) 1 A1 x.Vals.length c1 x.Vals
def xK:uO mD:=fun w l h cs x=>∃A1 c1 lo1 hi1,cs=[.slice A1 x.Vals.length c1]∧XB w lo1 hi1 9 1 (RF nC) A1 x.Vals.length c1 x.Vals∧(l≤lo1∧lo1≤hi1∧hi1≤h)
theorem EE:Gd wU:=⟨fun⟨A1,c1,he,h0⟩ hk=>⟨A1,c1,he,kD.keep gS h0 hk⟩,fun⟨A1,c1,he,h0⟩ hw=>⟨A1,c1,he,AH gS h0 hw⟩,fun⟨A1,c1,he,h0⟩=>by rw[he];rfl⟩
theorem iC:ZR xK wU:=⟨fun⟨A1,c1,lo1,hi1,he,h1,r0⟩ hk=>⟨A1,c1,lo1,hi1,he,XB.keep gS h1 (fun b b1 b2 b3=>hk b oM oM b3),r0⟩,fun⟨A1,c1,lo1,hi1,he,h1,r0⟩=>by rw[he];rfl,fun⟨A1,c1,lo1,hi1,he,h1,r0⟩=>⟨A1,c1,he,AH gS (NE gS h1) (fun b hb _=>⟨by have:=hb.1;omega,by have:=hb.2;omega⟩)⟩⟩
theorem VW{w:World}{l h:Nat}{lo1 hi1 n1 c1:Nat}{A1:Option Addr}{y1:List uA}(h1:XB w lo1 hi1 9 1 (RF nC) A1 n1 c1 y1)(r0:(l≤lo1∧lo1≤hi1∧hi1≤h)):xK w l h [.slice A1 n1 c1] ⟨y1⟩:=by
 obtain rfl:=h1.1
 exact⟨A1,c1,lo1,hi1,rfl,h1,r0⟩
structure dE where
 Last:uA
 Over:Bool
def ZZ:dE:=⟨[],false⟩
def Hb(x:dE):Prop:=cX x.Last
def wH(x:dE):Prop:=HE x.Last
theorem Ra:wH ZZ:=MD
def MT(x:dE):List Value:=[.string (bs x.Last),.bool x.Over]
theorem Na:Gd (RF MT):=UJ fun _=>rfl
structure OH where
 Kind:Int
 Key:uA
 Val:uA
 By:Int
def MC:OH:=⟨0,[],[],0⟩
def Db(x:OH):Prop:=SX x.Kind∧cX x.Key∧cX x.Val∧SX x.By
def JL(x:OH):Prop:=HE x.Key∧HE x.Val
theorem HI:JL MC:=⟨MD,MD⟩
def OL(x:OH):List Value:=[.int .i64 x.Kind,.string (bs x.Key),.string (bs x.Val),.int .i64 x.By]
theorem nG:Gd (RF OL):=UJ fun _=>rfl
structure DE where
 key:uA
 ops:List OH
def zI:DE:=⟨[],[]⟩
def Ib(x:DE):Prop:=cX x.key∧(RZ Db) x.ops
def BJ(x:DE):Prop:=HE x.key∧(xF JL) x.ops
theorem kQ:BJ zI:=⟨MD,kE _⟩
def YK:nM DE:=fun w S cs x=>∃A1 c1,cs=[.string (bs x.key),.slice A1 x.ops.length c1]∧kD w S (RF OL) 4 A1 x.ops.length c1 x.ops
def qK:uO DE:=fun w l h cs x=>∃A1 c1 lo1 hi1,cs=[.string (bs x.key),.slice A1 x.ops.length c1]∧XB w lo1 hi1 101 4 (RF OL) A1 x.ops.length c1 x.ops∧(l≤lo1∧lo1≤hi1∧hi1≤h)
theorem DJ:Gd YK:=⟨fun⟨A1,c1,he,h0⟩ hk=>⟨A1,c1,he,kD.keep nG h0 hk⟩,fun⟨A1,c1,he,h0⟩ hw=>⟨A1,c1,he,AH nG h0 hw⟩,fun⟨A1,c1,he,h0⟩=>by rw[he];rfl⟩
theorem MI:ZR qK YK:=⟨fun⟨A1,c1,lo1,hi1,he,h1,r0⟩ hk=>⟨A1,c1,lo1,hi1,he,XB.keep nG h1 (fun b b1 b2 b3=>hk b oM oM b3),r0⟩,fun⟨A1,c1,lo1,hi1,he,h1,r0⟩=>by rw[he];rfl,fun⟨A1,c1,lo1,hi1,he,h1,r0⟩=>⟨A1,c1,he,AH nG (NE nG h1) (fun b hb _=>⟨by have:=hb.1;omega,by have:=hb.2;omega⟩)⟩⟩
theorem tV{w:World}{l h:Nat}{z0:uA}{lo1 hi1 n1 c1:Nat}{A1:Option Addr}{y1:List OH}(h1:XB w lo1 hi1 101 4 (RF OL) A1 n1 c1 y1)(r0:(l≤lo1∧lo1≤hi1∧hi1≤h)):qK w l h [.string (bs z0),.slice A1 n1 c1] ⟨z0,y1⟩:=by
 obtain rfl:=h1.1
 exact⟨A1,c1,lo1,hi1,rfl,h1,r0⟩
structure AF where
 Key:uA
 Val:uA
 There:Bool
def SH:AF:=⟨[],[],false⟩
def Ob(x:AF):Prop:=cX x.Key∧cX x.Val
def gM(x:AF):Prop:=HE x.Key∧HE x.Val
theorem wV:gM SH:=⟨MD,MD⟩
def uM(x:AF):List Value:=[.string (bs x.Key),.string (bs x.Val),.bool x.There]
theorem eH:Gd (RF uM):=UJ fun _=>rfl
structure XM where
 x:Int
 y:Int
 signed:Bool
 code:Int
def fZ:XM:=⟨0,0,false,0⟩
def XY(x:XM):Prop:=SX x.x∧SX x.y∧SX x.code
def xS(x:XM):List Value:=[.int .i64 x.x,.int .i64 x.y,.bool x.signed,.int .u8 x.code]
theorem tX:Gd (RF xS):=UJ fun _=>rfl
structure AJ where
 msg:uA
 addr:Int
def ON:AJ:=⟨[],0⟩
def sU(x:AJ):Prop:=cX x.msg∧SX x.addr
def yN(x:AJ):Prop:=HE x.msg
theorem kT:yN ON:=MD
def QN(x:AJ):List Value:=[.string (bs x.msg),.int .u64 x.addr]
theorem cT:Gd (RF QN):=UJ fun _=>rfl
structure WM where
 lo:Int
 hi:Int
def eZ:WM:=⟨0,0⟩
def WY(x:WM):Prop:=SX x.lo∧SX x.hi
def wS(x:WM):List Value:=[.int .u8 x.lo,.int .u8 x.hi]
theorem sX:Gd (RF wS):=UJ fun _=>rfl
structure LL where
 s:uA
def vS:LL:=⟨[]⟩
def YY(x:LL):Prop:=cX x.s
def HR(x:LL):Prop:=HE x.s
theorem CX:HR vS:=MD
def yS(x:LL):List Value:=[.string (bs x.s)]
theorem uX:Gd (RF yS):=UJ fun _=>rfl
def FI:List OH:=[]
def XX:nM (List OH):=fun w S cs x=>∃A1 c1,cs=[.slice A1 x.length c1]∧kD w S (RF OL) 4 A1 x.length c1 x
theorem xP:Gd XX:=⟨fun⟨A1,c1,he,h0⟩ hk=>⟨A1,c1,he,kD.keep nG h0 hk⟩,fun⟨A1,c1,he,h0⟩ hw=>⟨A1,c1,he,AH nG h0 hw⟩,fun⟨A1,c1,he,h0⟩=>by rw[he];rfl⟩
theorem xV:xF JL FI:=kE _
def GE(pC:List Int)(eB:Int×Int):Int×(Int×Int):=bif decide (eB.1<(pC.length:Int))then bif decide ((IntKind.wrap .i64 (eB.1+1))≤(pC.length:Int))then(IntKind.wrap .i64 (pC.getD ((eB.1).toNat) iN),(IntKind.wrap .i64 (eB.1+1),IntKind.wrap .u64 ((IntKind.wrap .u64 ((IntKind.wrap .u64 (eB.2*6364136223846793005))+(IntKind.wrap .u64 (IntKind.wrap .i64 (pC.getD ((eB.1).toNat) iN)))))+1442695040888963407)))else(IntKind.wrap .i64 (UQ .u64 (Int.fdiv (IntKind.wrap .u64 ((IntKind.wrap .u64 ((IntKind.wrap .u64 (eB.2*6364136223846793005))+(IntKind.wrap .u64 (IntKind.wrap .i64 (pC.getD ((eB.1).toNat) iN)))))+1442695040888963407)) 1099511627776) 255),(IntKind.wrap .i64 (eB.1+1),IntKind.wrap .u64 ((IntKind.wrap .u64 ((IntKind.wrap .u64 (eB.2*6364136223846793005))+(IntKind.wrap .u64 (IntKind.wrap .i64 (pC.getD ((eB.1).toNat) iN)))))+1442695040888963407)))else bif decide ((IntKind.wrap .i64 (eB.1+1))≤(pC.length:Int))then(0,(IntKind.wrap .i64 (eB.1+1),IntKind.wrap .u64 ((IntKind.wrap .u64 ((IntKind.wrap .u64 (eB.2*6364136223846793005))+(IntKind.wrap .u64 0)))+1442695040888963407)))else(IntKind.wrap .i64 (UQ .u64 (Int.fdiv (IntKind.wrap .u64 ((IntKind.wrap .u64 ((IntKind.wrap .u64 (eB.2*6364136223846793005))+(IntKind.wrap .u64 0)))+1442695040888963407)) 1099511627776) 255),(IntKind.wrap .i64 (eB.1+1),IntKind.wrap .u64 ((IntKind.wrap .u64 ((IntKind.wrap .u64 (eB.2*6364136223846793005))+(IntKind.wrap .u64 0)))+1442695040888963407)))
def wA(pC:List Int)(eB:Int×Int)(EG:Int):Int×(Int×Int):=bif decide (EG≤1)then(0,eB)else bif decide (200<EG)then(Int.tmod (IntKind.wrap .i64 ((IntKind.wrap .i64 (((GE pC eB).1)*256))+((GE pC ((GE pC eB).2)).1))) EG,((GE pC ((GE pC eB).2)).2))else(Int.tmod ((GE pC eB).1) EG,((GE pC eB).2))
def fB(pC:List Int)(eB:Int×Int)(EG:Int):Bool×(Int×Int):=(decide (((wA pC eB EG).1)=0),((wA pC eB EG).2))
def VB(pC:List Int)(eB:Int×Int)(tF:List uA):uA×(Int×Int):=((tF.getD (((wA pC eB (tF.length:Int)).1).toNat) IB),((wA pC eB (tF.length:Int)).2))
def GH(pC:List Int)(eB:Int×Int)(k85:Nat):Int×Int×(List MG)→YI (dB×(Int×Int)) (Int×Int×(List MG)) | (x151,x152,x153)=>bif(fB pC (x151,x152) 3).1 then bif(([[105],[106],[109]]:List uA).getD k85 IB)==([105]:uA)then bif(fB pC ((fB pC (x151,x152) 3).2) 8).1 then .cont (((fB pC ((fB pC (x151,x152) 3).2) 8).2).1,((fB pC ((fB pC (x151,x152) 3).2) 8).2).2,x153)else .cont (((wA pC ((wA pC ((fB pC ((fB pC (x151,x152) 3).2) 8).2) (IntKind.wrap .i64 (((([]:List uA)++(([[107],[97],[98],[99,99]]:List uA).take ((IntKind.wrap .i64 (2+((wA pC ((VB pC eB ([[116],[117]]:List uA)).2) 3).1))).toNat))).length:Int)-1))).2) 4).2).1,((wA pC ((wA pC ((fB pC ((fB pC (x151,x152) 3).2) 8).2) (IntKind.wrap .i64 (((([]:List uA)++(([[107],[97],[98],[99,99]]:List uA).take ((IntKind.wrap .i64 (2+((wA pC ((VB pC eB ([[116],[117]]:List uA)).2) 3).1))).toNat))).length:Int)-1))).2) 4).2).2,(x153++([(⟨(([[105],[106],[109]]:List uA).getD k85 IB),IntKind.wrap .i64 (1+((wA pC ((fB pC ((fB pC (x151,x152) 3).2) 8).2) (IntKind.wrap .i64 (((([]:List uA)++(([[107],[97],[98],[99,99]]:List uA).take ((IntKind.wrap .i64 (2+((wA pC ((VB pC eB ([[116],[117]]:List uA)).2) 3).1))).toNat))).length:Int)-1))).1)),(wA pC ((wA pC ((fB pC ((fB pC (x151,x152) 3).2) 8).2) (IntKind.wrap .i64 (((([]:List uA)++(([[107],[97],[98],[99,99]]:List uA).take ((IntKind.wrap .i64 (2+((wA pC ((VB pC eB ([[116],[117]]:List uA)).2) 3).1))).toNat))).length:Int)-1))).2) 4).1⟩:MG)]:List MG)))else .cont (((fB pC (x151,x152) 3).2).1,((fB pC (x151,x152) 3).2).2,x153)else .cont (((wA pC ((wA pC ((fB pC (x151,x152) 3).2) (IntKind.wrap .i64 (((([]:List uA)++(([[107],[97],[98],[99,99]]:List uA).take ((IntKind.wrap .i64 (2+((wA pC ((VB pC eB ([[116],[117]]:List uA)).2) 3).1))).toNat))).length:Int)-1))).2) 4).2).1,((wA pC ((wA pC ((fB pC (x151,x152) 3).2) (IntKind.wrap .i64 (((([]:List uA)++(([[107],[97],[98],[99,99]]:List uA).take ((IntKind.wrap .i64 (2+((wA pC ((VB pC eB ([[116],[117]]:List uA)).2) 3).1))).toNat))).length:Int)-1))).2) 4).2).2,(x153++([(⟨(([[105],[106],[109]]:List uA).getD k85 IB),IntKind.wrap .i64 (1+((wA pC ((fB pC (x151,x152) 3).2) (IntKind.wrap .i64 (((([]:List uA)++(([[107],[97],[98],[99,99]]:List uA).take ((IntKind.wrap .i64 (2+((wA pC ((VB pC eB ([[116],[117]]:List uA)).2) 3).1))).toNat))).length:Int)-1))).1)),(wA pC ((wA pC ((fB pC (x151,x152) 3).2) (IntKind.wrap .i64 (((([]:List uA)++(([[107],[97],[98],[99,99]]:List uA).take ((IntKind.wrap .i64 (2+((wA pC ((VB pC eB ([[116],[117]]:List uA)).2) 3).1))).toNat))).length:Int)-1))).2) 4).1⟩:MG)]:List MG)))
def SA(pC:List Int)(eB:Int×Int):dB×(Int×Int):=rE (iB (GH pC eB) (3-0) 0 (((wA pC ((VB pC eB ([[116],[117]]:List uA)).2) 3).2).1,((wA pC ((VB pC eB ([[116],[117]]:List uA)).2) 3).2).2,([]:List MG))) (fun r=>r) (fun(x151,x152,x153)=>((⟨(VB pC eB ([[116],[117]]:List uA)).1,(([]:List uA)++(([[107],[97],[98],[99,99]]:List uA).take ((IntKind.wrap .i64 (2+((wA pC ((VB pC eB ([[116],[117]]:List uA)).2) 3).1))).toNat))),x153⟩:dB),(x151,x152)))
def ZG(WB:List jA)(KC:jA):Int→YI (List jA) Int | (x11)=>bif decide (0<x11)then bif XH ((WB.getD ((IntKind.wrap .i64 (x11-1)).toNat) xA).Key) KC.Key then .brk (x11)else .cont (IntKind.wrap .i64 (x11-1))else .brk (x11)
def YB(WB:List jA)(KC:jA):List jA:=rE (VF (ZG WB KC) ((((WB.length:Int)).toNat)+1) ((WB.length:Int))) (fun r=>r) (fun x11=>bif decide (0<x11)then bif((WB.getD ((IntKind.wrap .i64 (x11-1)).toNat) xA).Key)==KC.Key then((([]:List jA)++WB).set ((IntKind.wrap .i64 (x11-1)).toNat) KC)else(((([]:List jA)++(WB.take ((x11).toNat)))++([KC]:List jA))++(([]:List jA)++(WB.drop ((x11).toNat))))else(((([]:List jA)++(WB.take ((x11).toNat)))++([KC]:List jA))++(([]:List jA)++(WB.drop ((x11).toNat)))))
def nI(WB:List uA)(HM:uA)(k4:Nat):uA→YI uA uA | (x12)=>bif decide (0<(k4:Int))then .cont ((x12++HM)++(WB.getD k4 IB))else .cont (x12++(WB.getD k4 IB))
def XJ(WB:List uA)(HM:uA):uA:=rE (iB (nI WB HM) (WB.length-0) 0 (([]:uA))) (fun r=>r) (fun x12=>x12)
def dC(AA:dB)(fE:mD):jA:=(⟨(AA.Name++([47]:uA))++(fE.Vals.getD 0 IB),(XJ (fE.Vals.drop 1) ([44]:uA)),false⟩:jA)
def qH(XA:uA)(xH:Int)(k2:Nat):(List uA)×Int→YI (List uA) ((List uA)×Int) | (x20,x24)=>bif decide (((XA.getD k2 0).toNat:Int)=xH)then .cont ((x20++([((XA.take k2).drop ((x24).toNat))]:List uA)),((k2+1:Nat):Int))else .cont (x20,x24)
def uC(XA:uA)(xH:Int):List uA:=rE (iB (qH XA xH) (XA.length-0) 0 (([]:List uA),0)) (fun r=>r) (fun(x20,x24)=>(x20++([(XA.drop ((x24).toNat))]:List uA)))
def FE(EG:Int)(lW:Int)(DX:Int):Bool:=bif decide (lW≤EG)then decide (EG≤DX)else false
def GC(XA:uA)(QB:uA)(k3:Nat)(k6:Nat):Bool→YI Bool Bool | (x7)=>bif x7 then .cont (true)else .cont (decide (((XA.getD k3 0).toNat:Int)=((QB.getD k6 0).toNat:Int)))
def uD(XA:uA)(QB:uA)(k3:Nat):Unit→YI Bool Unit | ()=>bif decide (97≤((XA.getD k3 0).toNat:Int))then bif decide (((XA.getD k3 0).toNat:Int)≤122)then rE (iB (GC XA QB k3) (QB.length-0) 0 (true)) (fun r=>YI.ret r) (fun x7=>bif x7 then .cont ()else .ret false)else bif decide (48≤((XA.getD k3 0).toNat:Int))then rE (iB (GC XA QB k3) (QB.length-0) 0 (decide (((XA.getD k3 0).toNat:Int)≤57))) (fun r=>YI.ret r) (fun x12=>bif x12 then .cont ()else .ret false)else rE (iB (GC XA QB k3) (QB.length-0) 0 (false)) (fun r=>YI.ret r) (fun x15=>bif x15 then .cont ()else .ret false)else bif decide (48≤((XA.getD k3 0).toNat:Int))then rE (iB (GC XA QB k3) (QB.length-0) 0 (decide (((XA.getD k3 0).toNat:Int)≤57))) (fun r=>YI.ret r) (fun x19=>bif x19 then .cont ()else .ret false)else rE (iB (GC XA QB k3) (QB.length-0) 0 (false)) (fun r=>YI.ret r) (fun x22=>bif x22 then .cont ()else .ret false)
def oH(XA:uA)(QB:uA):Bool:=rE (iB (uD XA QB) (XA.length-0) 0 ()) (fun r=>r) (fun _=>true)
def VE(XA:uA):Bool:=bif FE (XA.length:Int) 1 3 then(oH XA ([]:uA))else false
def pI(AA:dB)(fE:mD)(k18:Nat):Unit→YI Bool Unit | ()=>bif VE (fE.Vals.getD k18 IB)then .cont ()else .ret false
def jF(AA:dB)(fE:mD):Bool:=rE (iB (pI AA fE) (fE.Vals.length-0) 0 ()) (fun r=>r) (fun _=>decide ((fE.Vals.length:Int)=(AA.Cols.length:Int)))
def SE(AA:dB)(KC:jA):mD×Bool:=bif decide ((KC.Key.length:Int)<3)then((⟨[]⟩:mD),false)else bif jF AA (⟨(([(KC.Key.drop 2)]:List uA)++(uC KC.Val 44))⟩:mD)then((⟨(([(KC.Key.drop 2)]:List uA)++(uC KC.Val 44))⟩:mD),((((dC AA (⟨(([(KC.Key.drop 2)]:List uA)++(uC KC.Val 44))⟩:mD)).Key)==KC.Key)&&((((dC AA (⟨(([(KC.Key.drop 2)]:List uA)++(uC KC.Val 44))⟩:mD)).Val)==KC.Val)&&(((dC AA (⟨(([(KC.Key.drop 2)]:List uA)++(uC KC.Val 44))⟩:mD)).Gone)==KC.Gone))))else((⟨(([(KC.Key.drop 2)]:List uA)++(uC KC.Val 44))⟩:mD),false)
def rH(AA:dB)(ps:List jA)(k12:Nat):(List mD)→YI (List mD) (List mD) | (x94)=>bif(SE AA (ps.getD k12 xA)).2 then .cont ((x94++([(SE AA (ps.getD k12 xA)).1]:List mD)))else .cont (x94)
def LB(AA:dB)(ps:List jA):List mD:=rE (iB (rH AA ps) (ps.length-0) 0 (([]:List mD))) (fun r=>r) (fun x94=>x94)
def QE(AA:dB)(sF:MG)(fE:mD):uA:=(((((AA.Name++([46]:uA))++sF.Name)++([47]:uA))++(fE.Vals.getD ((sF.Col).toNat) IB))++([47]:uA))++(fE.Vals.getD 0 IB)
def pK(pC:List Int)(eB:Int×Int)(AA:dB):Int×Int×(List uA)→YI (mD×(Int×Int)) (Int×Int×(List uA)) | (x85,x86,x87)=>bif decide ((x87.length:Int)<(AA.Cols.length:Int))then .cont (((VB pC (x85,x86) ([[120],[121],[120],[48],[97,98,99]]:List uA)).2).1,((VB pC (x85,x86) ([[120],[121],[120],[48],[97,98,99]]:List uA)).2).2,(x87++([(VB pC (x85,x86) ([[120],[121],[120],[48],[97,98,99]]:List uA)).1]:List uA)))else .brk (x85,x86,x87)
def sG(pC:List Int)(eB:Int×Int)(AA:dB):mD×(Int×Int):=rE (VF (pK pC eB AA) ((AA.Cols.length-([(VB pC eB ([[49],[50],[51],[97],[122,122],[97,98,99]]:List uA)).1]:List uA).length)+1) (((VB pC eB ([[49],[50],[51],[97],[122,122],[97,98,99]]:List uA)).2).1,((VB pC eB ([[49],[50],[51],[97],[122,122],[97,98,99]]:List uA)).2).2,([(VB pC eB ([[49],[50],[51],[97],[122,122],[97,98,99]]:List uA)).1]:List uA))) (fun r=>r) (fun(x85,x86,x87)=>((⟨x87⟩:mD),(x85,x86)))
def KJ(pC:List Int)(eB:Int×Int):uA×(Int×Int):=((VB pC eB ([[97],[98],[99],[109],[110],[122],[114,47,49],[105,47,120,47,49]]:List uA)).1,((VB pC eB ([[97],[98],[99],[109],[110],[122],[114,47,49],[105,47,120,47,49]]:List uA)).2))
def WK(pC:List Int)(eB:Int×Int):uA×(Int×Int):=((VB pC eB ([[],[49],[55],[49,48],[45,51],[120],[97,44,98,95,99]]:List uA)).1,((VB pC eB ([[],[49],[55],[49,48],[45,51],[120],[97,44,98,95,99]]:List uA)).2))
def GJ(pC:List Int)(qA:Int×Int)(PA:dB):(List jA)×Int×Int×Int→YI ((List jA)×(Int×Int)) ((List jA)×Int×Int×Int) | (x93,x98,x99,x100)=>bif decide (0<x98)then .cont ((YB x93 (dC PA ((sG pC (x99,x100) PA).1))),IntKind.wrap .i64 (x98-1),((sG pC (x99,x100) PA).2).1,((sG pC (x99,x100) PA).2).2)else .brk (x93,x98,x99,x100)
def IJ(pC:List Int)(qA:Int×Int)(PA:dB)(x93:List jA)(x98:Int)(x99:Int)(x100:Int)(k133:Nat)(x407:List jA)(x412:Int)(x413:Int)(k432:Nat):(List jA)×Int×Int→YI ((List jA)×(Int×Int)) ((List jA)×Int×Int) | (x494,x499,x500)=>bif(fB pC (x499,x500) 5).1 then .cont (x494,((fB pC (x499,x500) 5).2).1,((fB pC (x499,x500) 5).2).2)else .cont ((YB x494 (⟨(QE PA (PA.Idxs.getD k133 AB) ((LB PA x407).getD k432 DD)),([]:uA),false⟩:jA)),((fB pC (x499,x500) 5).2).1,((fB pC (x499,x500) 5).2).2)
def HJ(pC:List Int)(qA:Int×Int)(PA:dB)(x93:List jA)(x98:Int)(x99:Int)(x100:Int)(k133:Nat):(List jA)×Int×Int→YI ((List jA)×(Int×Int)) ((List jA)×Int×Int) | (x407,x412,x413)=>rE (iB (IJ pC qA PA x93 x98 x99 x100 k133 x407 x412 x413) ((LB PA x407).length-0) 0 (x407,x412,x413)) (fun r=>YI.ret r) (fun(x494,x499,x500)=>bif(fB pC (x499,x500) 5).1 then .cont ((YB x494 (⟨(QE PA (PA.Idxs.getD k133 AB) ((sG pC ((fB pC (x499,x500) 5).2) PA).1)),([]:uA),false⟩:jA)),((sG pC ((fB pC (x499,x500) 5).2) PA).2).1,((sG pC ((fB pC (x499,x500) 5).2) PA).2).2)else .cont (x494,((fB pC (x499,x500) 5).2).1,((fB pC (x499,x500) 5).2).2))
def uB(pC:List Int)(qA:Int×Int)(PA:dB):(List jA)×(Int×Int):=rE (VF (GJ pC qA PA) ((((wA pC qA 5).1).toNat)+1) (([]:List jA),(wA pC qA 5).1,((wA pC qA 5).2).1,((wA pC qA 5).2).2)) (fun r=>r) (fun(x93,x98,x99,x100)=>rE (iB (HJ pC qA PA x93 x98 x99 x100) (PA.Idxs.length-0) 0 (x93,x99,x100)) (fun r=>r) (fun(x407,x412,x413)=>bif(fB pC (x412,x413) 6).1 then((YB x407 (⟨(KJ pC ((fB pC (x412,x413) 6).2)).1,(WK pC ((KJ pC ((fB pC (x412,x413) 6).2)).2)).1,false⟩:jA)),((WK pC ((KJ pC ((fB pC (x412,x413) 6).2)).2)).2))else(x407,((fB pC (x412,x413) 6).2))))
def zC(pC:List Int)(eB:Int×Int)(AA:dB):(List jA)×(Int×Int):=bif decide (((wA pC ((uB pC eB AA).2) 12).1)=0)then(((uB pC eB AA).1++([(⟨([97]:uA),([33]:uA),false⟩:jA)]:List jA)),((wA pC ((uB pC eB AA).2) 12).2))else bif decide (((wA pC ((uB pC eB AA).2) 12).1)=1)then((YB ((uB pC eB AA).1) (⟨(AA.Name++([47]:uA))++((VB pC ((wA pC ((uB pC eB AA).2) 12).2) ([[97,98,99,100],[97],[49]]:List uA)).1),(VB pC ((VB pC ((wA pC ((uB pC eB AA).2) 12).2) ([[97,98,99,100],[97],[49]]:List uA)).2) ([[120],[120,44,44,121],[],[120,44,121,44,122]]:List uA)).1,false⟩:jA)),((VB pC ((VB pC ((wA pC ((uB pC eB AA).2) 12).2) ([[97,98,99,100],[97],[49]]:List uA)).2) ([[120],[120,44,44,121],[],[120,44,121,44,122]]:List uA)).2))else bif decide (((wA pC ((uB pC eB AA).2) 12).1)=2)then bif decide (0<(((uB pC eB AA).1).length:Int))then((((uB pC eB AA).1).set (((wA pC ((wA pC ((uB pC eB AA).2) 12).2) (((uB pC eB AA).1).length:Int)).1).toNat) (⟨(((uB pC eB AA).1).getD (((wA pC ((wA pC ((uB pC eB AA).2) 12).2) (((uB pC eB AA).1).length:Int)).1).toNat) xA).Key,(((uB pC eB AA).1).getD (((wA pC ((wA pC ((uB pC eB AA).2) 12).2) (((uB pC eB AA).1).length:Int)).1).toNat) xA).Val,true⟩:jA)),((wA pC ((wA pC ((uB pC eB AA).2) 12).2) (((uB pC eB AA).1).length:Int)).2))else((uB pC eB AA).1,((wA pC ((uB pC eB AA).2) 12).2))else bif decide (((wA pC ((uB pC eB AA).2) 12).1)=3)then((YB ((uB pC eB AA).1) (⟨(AA.Name++([46,105,47]:uA))++((VB pC ((wA pC ((uB pC eB AA).2) 12).2) ([[120],[120,47,49,47,50],[47,49],[97,98,99,100,47,49]]:List uA)).1),([]:uA),false⟩:jA)),((VB pC ((wA pC ((uB pC eB AA).2) 12).2) ([[120],[120,47,49,47,50],[47,49],[97,98,99,100,47,49]]:List uA)).2))else((uB pC eB AA).1,((wA pC ((uB pC eB AA).2) 12).2))
def QC(pC:List Int)(eB:Int×Int):dB×(Int×Int):=bif decide (((wA pC ((SA pC eB).2) 14).1)=0)then((⟨(VB pC ((wA pC ((SA pC eB).2) 14).2) ([[],[116,116],[84]]:List uA)).1,(SA pC eB).1.Cols,(SA pC eB).1.Idxs⟩:dB),((VB pC ((wA pC ((SA pC eB).2) 14).2) ([[],[116,116],[84]]:List uA)).2))else bif decide (((wA pC ((SA pC eB).2) 14).1)=1)then((⟨(SA pC eB).1.Name,((SA pC eB).1.Cols++([(VB pC ((wA pC ((SA pC eB).2) 14).2) ([[97],[97,98,99,100],[],[100]]:List uA)).1]:List uA)),(SA pC eB).1.Idxs⟩:dB),((VB pC ((wA pC ((SA pC eB).2) 14).2) ([[97],[97,98,99,100],[],[100]]:List uA)).2))else bif decide (((wA pC ((SA pC eB).2) 14).1)=2)then((⟨(SA pC eB).1.Name,(((SA pC eB).1.Cols).take 1),(SA pC eB).1.Idxs⟩:dB),((wA pC ((SA pC eB).2) 14).2))else bif decide (((wA pC ((SA pC eB).2) 14).1)=3)then((⟨(SA pC eB).1.Name,(SA pC eB).1.Cols,((SA pC eB).1.Idxs++([(⟨(VB pC ((wA pC ((SA pC eB).2) 14).2) ([[97],[122],[122,122]]:List uA)).1,(wA pC ((VB pC ((wA pC ((SA pC eB).2) 14).2) ([[97],[122],[122,122]]:List uA)).2) 5).1,IntKind.wrap .i64 (((wA pC ((wA pC ((VB pC ((wA pC ((SA pC eB).2) 14).2) ([[97],[122],[122,122]]:List uA)).2) 5).2) 5).1)-1)⟩:MG)]:List MG))⟩:dB),((wA pC ((wA pC ((VB pC ((wA pC ((SA pC eB).2) 14).2) ([[97],[122],[122,122]]:List uA)).2) 5).2) 5).2))else((SA pC eB).1,((wA pC ((SA pC eB).2) 14).2))
def gD(iA:List Int):dB×uA×(List jA):=bif(fB iA ((zC iA ((SA iA ((VB iA (0,0) ([[105],[105],[105],[105],[106],[122]]:List uA)).2)).2) ((SA iA ((VB iA (0,0) ([[105],[105],[105],[105],[106],[122]]:List uA)).2)).1)).2) 12).1 then((QC iA ((fB iA ((zC iA ((SA iA ((VB iA (0,0) ([[105],[105],[105],[105],[106],[122]]:List uA)).2)).2) ((SA iA ((VB iA (0,0) ([[105],[105],[105],[105],[106],[122]]:List uA)).2)).1)).2) 12).2)).1,(VB iA (0,0) ([[105],[105],[105],[105],[106],[122]]:List uA)).1,(zC iA ((SA iA ((VB iA (0,0) ([[105],[105],[105],[105],[106],[122]]:List uA)).2)).2) ((SA iA ((VB iA (0,0) ([[105],[105],[105],[105],[106],[122]]:List uA)).2)).1)).1)else((SA iA ((VB iA (0,0) ([[105],[105],[105],[105],[106],[122]]:List uA)).2)).1,(VB iA (0,0) ([[105],[105],[105],[105],[106],[122]]:List uA)).1,(zC iA ((SA iA ((VB iA (0,0) ([[105],[105],[105],[105],[106],[122]]:List uA)).2)).2) ((SA iA ((VB iA (0,0) ([[105],[105],[105],[105],[106],[122]]:List uA)).2)).1)).1)
def OC(pC:List Int)(eB:Int×Int)(AA:dB)(HC:List uA):dE×(Int×Int):=bif decide (0<(HC.length:Int))then bif(fB pC eB 2).1 then((⟨(VB pC ((fB pC eB 2).2) HC).1,(fB pC ((VB pC ((fB pC eB 2).2) HC).2) 3).1⟩:dE),((fB pC ((VB pC ((fB pC eB 2).2) HC).2) 3).2))else((⟨(VB pC ((fB pC eB 2).2) ([([]:uA),([]:uA),([97]:uA),([122,122]:uA),AA.Name++([47,50]:uA)]:List uA)).1,(fB pC ((VB pC ((fB pC eB 2).2) ([([]:uA),([]:uA),([97]:uA),([122,122]:uA),AA.Name++([47,50]:uA)]:List uA)).2) 4).1⟩:dE),((fB pC ((VB pC ((fB pC eB 2).2) ([([]:uA),([]:uA),([97]:uA),([122,122]:uA),AA.Name++([47,50]:uA)]:List uA)).2) 4).2))else((⟨(VB pC eB ([([]:uA),([]:uA),([97]:uA),([122,122]:uA),AA.Name++([47,50]:uA)]:List uA)).1,(fB pC ((VB pC eB ([([]:uA),([]:uA),([97]:uA),([122,122]:uA),AA.Name++([47,50]:uA)]:List uA)).2) 4).1⟩:dE),((fB pC ((VB pC eB ([([]:uA),([]:uA),([97]:uA),([122,122]:uA),AA.Name++([47,50]:uA)]:List uA)).2) 4).2))
def fI(AA:dB)(ps:List jA)(k18:Nat):(List uA)→YI (List uA) (List uA) | (x78)=>.cont ((x78++([(dC AA ((LB AA ps).getD k18 DD)).Key]:List uA)))
def YA(AA:dB)(ps:List jA):List uA:=rE (iB (fI AA ps) ((LB AA ps).length-0) 0 (([]:List uA))) (fun r=>r) (fun x78=>x78)
def AE(pC:List Int)(eB:Int×Int)(tF:List Int):Int×(Int×Int):=((tF.getD (((wA pC eB (tF.length:Int)).1).toNat) NW),((wA pC eB (tF.length:Int)).2))
def sJ(EG:Int):uA:=LV ([IntKind.wrap .u8 (IntKind.wrap .i64 (48+EG))]:List Int)
def cI(EG:Int):uA:=bif decide (EG<10)then LV ([IntKind.wrap .u8 (IntKind.wrap .i64 (48+EG))]:List Int)else(sJ (IntKind.wrap .i64 (Int.tdiv EG 10)))++(LV ([IntKind.wrap .u8 (IntKind.wrap .i64 (48+(Int.tmod EG 10)))]:List Int))
def fD(iA:List Int):(List jA)×Int→YI (dB×uA×(List jA)×dE×Int) ((List jA)×Int) | (x101,x106)=>bif decide (0<x106)then bif decide ((x101.length:Int)<24)then .cont ((YB x101 (⟨([121]:uA)++(cI x106),([]:uA),false⟩:jA)),IntKind.wrap .i64 (x106-1))else .brk (x101,x106)else .brk (x101,x106)
def aA(iA:List Int):dB×uA×(List jA)×dE×Int:=bif(fB iA ((AE iA ((OC iA (0,0) ((gD iA).1) (YA ((gD iA).1) ((gD iA).2.2))).2) ([1,1,2,3,24,25,0]:List Int)).2) 9).1 then rE (VF (fD iA) (((IntKind.wrap .i64 (((wA iA ((fB iA ((AE iA ((OC iA (0,0) ((gD iA).1) (YA ((gD iA).1) ((gD iA).2.2))).2) ([1,1,2,3,24,25,0]:List Int)).2) 9).2) 3).1)*10)).toNat)+1) ((gD iA).2.2,IntKind.wrap .i64 (((wA iA ((fB iA ((AE iA ((OC iA (0,0) ((gD iA).1) (YA ((gD iA).1) ((gD iA).2.2))).2) ([1,1,2,3,24,25,0]:List Int)).2) 9).2) 3).1)*10))) (fun r=>r) (fun(x101,x106)=>((gD iA).1,(gD iA).2.1,x101,(⟨([33]:uA),(OC iA (0,0) ((gD iA).1) (YA ((gD iA).1) ((gD iA).2.2))).1.Over⟩:dE),(AE iA ((OC iA (0,0) ((gD iA).1) (YA ((gD iA).1) ((gD iA).2.2))).2) ([1,1,2,3,24,25,0]:List Int)).1))else rE (VF (fD iA) (((IntKind.wrap .i64 (((wA iA ((fB iA ((AE iA ((OC iA (0,0) ((gD iA).1) (YA ((gD iA).1) ((gD iA).2.2))).2) ([1,1,2,3,24,25,0]:List Int)).2) 9).2) 3).1)*10)).toNat)+1) ((gD iA).2.2,IntKind.wrap .i64 (((wA iA ((fB iA ((AE iA ((OC iA (0,0) ((gD iA).1) (YA ((gD iA).1) ((gD iA).2.2))).2) ([1,1,2,3,24,25,0]:List Int)).2) 9).2) 3).1)*10))) (fun r=>r) (fun(x146,x151)=>((gD iA).1,(gD iA).2.1,x146,(OC iA (0,0) ((gD iA).1) (YA ((gD iA).1) ((gD iA).2.2))).1,(AE iA ((OC iA (0,0) ((gD iA).1) (YA ((gD iA).1) ((gD iA).2.2))).2) ([1,1,2,3,24,25,0]:List Int)).1))
def OD(EG:Int)(UM:Int)(HL:Int):Bool:=bif decide (UM≤EG)then decide (EG≤HL)else false
def wE(xH:Int):Bool:=bif decide (97≤xH)then bif decide (xH≤122)then true else bif decide (48≤xH)then decide (xH≤57)else false else bif decide (48≤xH)then decide (xH≤57)else false
def OE(XA:uA)(eB:Int):Int:=wX XA eB
def VH(XA:uA)(eB:Int):Int:=(OE XA eB)
def FG(XA:uA)(OG:uA)(k3:Nat):Unit→YI Bool Unit | ()=>bif wE ((XA.getD k3 0).toNat:Int)then .cont ()else bif decide ((VH OG ((XA.getD k3 0).toNat:Int))<0)then .ret false else .cont ()
def wJ(XA:uA)(OG:uA):Bool:=rE (iB (FG XA OG) (XA.length-0) 0 ()) (fun r=>r) (fun _=>true)
def WJ(XA:uA):Bool:=bif OD (XA.length:Int) 1 12 then(wJ XA ([46,47]:uA))else false
def DH(FC:dE):Bool:=bif FC.Last==([]:uA)then true else(WJ FC.Last)
def pE(XA:List jA)(FC:jA→Bool)(k7:Nat):Unit→YI Int Unit | ()=>bif FC (XA.getD k7 xA)then .ret (k7:Int)else .cont ()
def IE(XA:List jA)(FC:jA→Bool):Int:=rE (iB (pE XA FC) (XA.length-0) 0 ()) (fun r=>r) (fun _=>-1)
def eG(XA:List jA)(FC:jA→Bool):Bool:=decide (0≤(IE XA FC))
def yF(HC:List uA)(k3:Nat):Unit→YI Bool Unit | ()=>bif WJ (HC.getD k3 IB)then bif decide (0<(k3:Int))then bif XH (HC.getD k3 IB) (HC.getD ((IntKind.wrap .i64 ((k3:Int)-1)).toNat) IB)then .ret false else .cont ()else .cont ()else .ret false
def AI(HC:List uA):Bool:=rE (iB (yF HC) (HC.length-0) 0 ()) (fun r=>r) (fun _=>true)
def II(WB:List jA)(k10:Nat):(List uA)→YI (List uA) (List uA) | (x60)=>.cont ((x60++([(WB.getD k10 xA).Key]:List uA)))
def BI(WB:List jA):List uA:=rE (iB (II WB) (WB.length-0) 0 (([]:List uA))) (fun r=>r) (fun x60=>x60)
def rK(XA:uA):Bool:=bif decide ((XA.length:Int)≤24)then(wJ XA ([46,45,44,95]:uA))else false
def EH(XE:uA)(bK:Bool):Bool:=bif rK XE then bif bK then !(!(XE==([]:uA)))else !false else false
def NI(KC:jA):Bool:=!(EH KC.Val KC.Gone)
def TH(WB:List jA):Bool:=bif decide ((WB.length:Int)≤24)then bif AI (BI WB)then !(eG WB (fun y0=>NI y0))else false else false
def AL(KC:jA):Bool:=KC.Gone
def UG(zB:List jA):Bool:=bif TH zB then !(eG zB (fun y0=>AL y0))else false
def ZF(XA:uA)(CG:Int)(k2:Nat):Unit→YI Bool Unit | ()=>bif decide (((XA.getD k2 0).toNat:Int)<97)then .ret false else bif decide (122<((XA.getD k2 0).toNat:Int))then .ret false else .cont ()
def GD(XA:uA)(CG:Int):Bool:=rE (iB (ZF XA CG) (XA.length-0) 0 ()) (fun r=>r) (fun _=>(OD (XA.length:Int) 1 CG))
def YE(XA:List uA)(mQ:uA)(k4:Nat):Unit→YI Int Unit | ()=>bif mQ==(XA.getD k4 IB)then .ret (k4:Int)else .cont ()
def mH(XA:List uA)(mQ:uA):Int:=rE (iB (YE XA mQ) (XA.length-0) 0 ()) (fun r=>r) (fun _=>-1)
def IF(XA:List uA)(mQ:uA):Bool:=decide (0≤(mH XA mQ))
def aH(mO:Int):Bool:=(OD mO 0 3)
def YF(qA:dB)(k19:Nat):Unit→YI Bool Unit | ()=>bif GD (qA.Cols.getD k19 IB) 3 then bif IF (qA.Cols.take k19) (qA.Cols.getD k19 IB)then .ret false else .cont ()else .ret false
def RD(qA:dB)(k35:Nat):Unit→YI Bool Unit | ()=>bif GD ((qA.Idxs.getD k35 AB).Name) 1 then bif OD ((qA.Idxs.getD k35 AB).Col) 1 (IntKind.wrap .i64 ((qA.Cols.length:Int)-1))then bif aH ((qA.Idxs.getD k35 AB).Stage)then bif decide (0<(k35:Int))then bif XH ((qA.Idxs.getD k35 AB).Name) ((qA.Idxs.getD ((IntKind.wrap .i64 ((k35:Int)-1)).toNat) AB).Name)then .ret false else .cont ()else .cont ()else .ret false else .ret false else .ret false
def UD(qA:dB):Bool:=bif GD qA.Name 1 then bif OD (qA.Cols.length:Int) 2 4 then bif decide (3<(qA.Idxs.length:Int))then false else rE (iB (YF qA) (qA.Cols.length-0) 0 ()) (fun r=>r) (fun _=>rE (iB (RD qA) (qA.Idxs.length-0) 0 ()) (fun r=>r) (fun _=>true))else false else false
def KE(XA:List MG)(FC:MG→Bool)(k7:Nat):Unit→YI Int Unit | ()=>bif FC (XA.getD k7 AB)then .ret (k7:Int)else .cont ()
def BG(XA:List MG)(FC:MG→Bool):Int:=rE (iB (KE XA FC) (XA.length-0) 0 ()) (fun r=>r) (fun _=>-1)
def dG(sF:MG)(CI:uA):Bool:=sF.Name==CI
def bD(AA:dB)(pn:uA):Int:=(BG AA.Idxs (fun y0=>dG y0 pn))
def cE(AA:dB)(pn:uA):Bool:=bif UD AA then decide (0≤(bD AA pn))else false
def CF(AA:dB)(pn:uA)(ps:List jA):Bool:=bif cE AA pn then(UG ps)else false
def dF(AA:dB)(pn:uA)(ps:List jA)(FC:dE)(wB:Int):Bool:=bif CF AA pn ps then bif DH FC then(OD wB 1 24)else false else false
def yE(XA:List DE)(FC:DE→Bool)(k8:Nat):Unit→YI Int Unit | ()=>bif FC (XA.getD k8 zI)then .ret (k8:Int)else .cont ()
def uF(XA:List DE)(FC:DE→Bool):Int:=rE (iB (yE XA FC) (XA.length-0) 0 ()) (fun r=>r) (fun _=>-1)
def bB(XA:List DE)(FC:DE→Bool):List DE:=XA.filter fun y=>!FC y
def BB(XA:List DE):List DE:=(([]:List DE)++XA)
def rD(hZ:DE)(CI:dE):Bool:=XH hZ.key CI.Last
def wC(sF:List jA)(fH:uA)(CL:jA→uA→Int):Int×Int→YI (Int×Bool) (Int×Int) | (x9,x10)=>bif decide (x9<x10)then bif decide ((CL (sF.getD ((IntKind.wrap .i64 (Int.fdiv (IntKind.wrap .u64 (IntKind.wrap .i64 (x9+x10))) 2)).toNat) xA) fH)<0)then .cont (IntKind.wrap .i64 ((IntKind.wrap .i64 (Int.fdiv (IntKind.wrap .u64 (IntKind.wrap .i64 (x9+x10))) 2))+1),x10)else .cont (x9,IntKind.wrap .i64 (Int.fdiv (IntKind.wrap .u64 (IntKind.wrap .i64 (x9+x10))) 2))else .brk (x9,x10)
def EC(sF:List jA)(fH:uA)(CL:jA→uA→Int):Int×Bool:=rE (VF (wC sF fH CL) ((((sF.length:Int)-0).toNat)+1) (0,(sF.length:Int))) (fun r=>r) (fun(x9,x10)=>bif decide (x9<(sF.length:Int))then(x9,decide ((CL (sF.getD ((x9).toNat) xA) fH)=0))else(x9,false))
def cG(sF:uA):Bool:=!(sF==sF)
def LD(sF:uA)(BS:uA):Int:=bif cG sF then bif cG BS then 0 else -1 else bif cG BS then 1 else bif jJ sF BS then -1 else bif XH sF BS then 0 else 1
def fJ(KC:jA)(MB:uA):Int:=(LD KC.Key MB)
def UC(WB:List jA)(MB:uA):Int×Bool:=((EC WB MB (fun y0 y1=>fJ y0 y1)).1,(EC WB MB (fun y0 y1=>fJ y0 y1)).2)
def TJ(XA:List jA)(SI:Nat)(sF:jA):List jA:=XA.take SI++sF::XA.drop SI
def bI(XA:List jA)(SI:Int)(sF:jA):List jA:=TJ XA SI.toNat sF
def EF(WB:List jA)(KC:jA):List jA:=bif(UC WB KC.Key).2 then(WB.set (((UC WB KC.Key).1).toNat) KC)else(bI WB ((UC WB KC.Key).1) KC)
def LH(MB:uA)(ZD:List jA)(ED:List AF)(k12:Nat):Unit→YI (uA×Bool×Bool) Unit | ()=>bif((ED.getD k12 SH).Key)==MB then .ret ((ED.getD k12 SH).Val,(ED.getD k12 SH).There,true)else .cont ()
def eF(MB:uA)(ZD:List jA)(ED:List AF):uA×Bool×Bool:=bif(UC ZD MB).2 then((ZD.getD (((UC ZD MB).1).toNat) xA).Val,!((ZD.getD (((UC ZD MB).1).toNat) xA).Gone),true)else rE (iB (LH MB ZD ED) (ED.length-0) 0 ()) (fun r=>r) (fun _=>(([]:uA),false,false))
def lH(XA:uA):Int×Bool:=match Go.Lib.atoiAll XA with
 | .ok n=>bif OD n (-999999) 999999&&(Go.Lib.itoa n==XA)then(n,true)else(0,false)
 | _=>(0,false)
def UE(nH:OH)(XE:uA)(mF:Bool):Bool:=bif decide (nH.Kind=4)then bif mF then bif(lH XE).2 then(OD (IntKind.wrap .i64 (((lH XE).1)+nH.By)) (-999999) 999999)else false else true else bif decide (nH.Kind=5)then bif mF then bif(lH XE).2 then decide (nH.By≤((lH XE).1))else false else false else bif decide (nH.Kind=6)then !mF else bif decide (nH.Kind=7)then bif mF then XE==nH.Val else false else true
def UN(SI:Int):uA:=[(48+SI).toNat.toUInt8]
def TD(qA:List OH)(PA:List AF)(k12:Nat):(List jA)→YI (Int×uA×(List jA)) (List jA) | (x86)=>bif decide (((qA.getD k12 MC).Kind)=2)then .cont ((EF x86 (⟨(qA.getD k12 MC).Key,(qA.getD k12 MC).Val,false⟩:jA)))else bif decide (((qA.getD k12 MC).Kind)=3)then .cont ((EF x86 (⟨(qA.getD k12 MC).Key,([]:uA),true⟩:jA)))else bif(eF ((qA.getD k12 MC).Key) x86 PA).2.2 then bif UE (qA.getD k12 MC) ((eF ((qA.getD k12 MC).Key) x86 PA).1) ((eF ((qA.getD k12 MC).Key) x86 PA).2.1)then .cont (x86)else .ret (2,([]:uA),([]:List jA))else .ret (1,(qA.getD k12 MC).Key,([]:List jA))
def ID(qA:List OH)(PA:List AF):Int×uA×(List jA):=rE (iB (TD qA PA) (qA.length-0) 0 (([]:List jA))) (fun r=>r) (fun x86=>(3,([]:uA),x86))
def vH(zB:List jA)(MB:uA):AF:=bif(UC zB MB).2 then(⟨MB,(zB.getD (((UC zB MB).1).toNat) xA).Val,true⟩:AF)else(⟨MB,([]:uA),false⟩:AF)
def pH(zB:List jA)(WB:List OH):(List AF)→YI ((List AF)×(List jA)×Bool) (List AF) | (x45)=>bif decide (((ID WB x45).1)=1)then .cont ((x45++([(vH zB ((ID WB x45).2.1))]:List AF)))else .ret (x45,(ID WB x45).2.2,decide (((ID WB x45).1)=3))
def WF(zB:List jA)(WB:List OH):(List AF)×(List jA)×Bool:=rE (VF (pH zB WB) (((WB.filter fun o=>!((([]:List AF):List AF).any fun g=>g.Key==o.Key)).length)+1) (([]:List AF))) (fun r=>r) (fun x45=>(([]:List AF),([]:List jA),false))
def CB(XA:List jA):List jA:=(([]:List jA)++XA)
def SD(XA:List jA)(FC:jA→Bool):List jA:=XA.filter fun y=>!FC y
def RI(sF:jA):Bool:=sF.Gone
def tJ(zB:List jA)(KC:List jA)(k12:Nat):(List jA)→YI ((List jA)×Bool) (List jA) | (x48)=>.cont ((EF x48 (KC.getD k12 xA)))
def IH(zB:List jA)(KC:List jA):(List jA)×Bool:=rE (iB (tJ zB KC) (KC.length-0) 0 ((CB zB))) (fun r=>r) (fun x48=>bif decide (24<((SD x48 (fun y0=>RI y0)).length:Int))then(([]:List jA),false)else((SD x48 (fun y0=>RI y0)),true))
def oG(ps:List jA)(SF:List OH):(List jA)×Bool:=bif(WF ps SF).2.2 then bif(IH ps ((WF ps SF).2.1)).2 then((IH ps ((WF ps SF).2.1)).1,true)else((([]:List jA)++ps),false)else((([]:List jA)++ps),false)
def uG(wD:List DE)(ps:List jA)(FC:dE)(wB:Int):(List jA)×Int×uA→YI ((List jA)×dE) ((List jA)×Int×uA) | (x61,x64,x65)=>bif decide (x64<(min wB ((bB (BB wD) (fun y0=>rD y0 FC)).length:Int)))then bif(oG x61 (((bB (BB wD) (fun y0=>rD y0 FC)).getD ((x64).toNat) zI).ops)).2 then .cont ((oG x61 (((bB (BB wD) (fun y0=>rD y0 FC)).getD ((x64).toNat) zI).ops)).1,IntKind.wrap .i64 (x64+1),((bB (BB wD) (fun y0=>rD y0 FC)).getD ((x64).toNat) zI).key)else .brk (x61,x64,x65)else .brk (x61,x64,x65)
def rC(wD:List DE)(ps:List jA)(FC:dE)(wB:Int):(List jA)×dE:=rE (VF (uG wD ps FC wB) (((((bB (BB wD) (fun y0=>rD y0 FC)).length:Int)-0).toNat)+1) (ps,0,FC.Last)) (fun r=>r) (fun(x61,x64,x65)=>bif FC.Over then((CB x61),(⟨x65,true⟩:dE))else((CB x61),(⟨x65,decide (x64=((bB (BB wD) (fun y0=>rD y0 FC)).length:Int))⟩:dE)))
def pF(eK:List uA)(cF:uA):uA:=cF.intercalate eK
def vB(AA:dB)(fE:mD):jA:=(⟨(AA.Name++([47]:uA))++(fE.Vals.getD 0 IB),(pF (fE.Vals.drop 1) ([44]:uA)),false⟩:jA)
def qD(XA:uA)(lE:uA):Bool:=bif decide ((lE.length:Int)≤(XA.length:Int))then(XA.take lE.length)==lE else false
def yD(XA:uA)(lE:uA):uA×Bool:=bif qD XA lE then((XA.drop lE.length),true)else(XA,false)
def KB(XA:uA)(lE:uA):uA×Bool:=((yD XA lE).1,(yD XA lE).2)
def BD(XA:uA)(cF:uA):List uA:=sp (cF.headD 0) XA
def iE(XA:List uA)(FC:uA→Bool)(k7:Nat):Unit→YI Int Unit | ()=>bif FC (XA.getD k7 IB)then .ret (k7:Int)else .cont ()
def uE(XA:List uA)(FC:uA→Bool):Int:=rE (iB (iE XA FC) (XA.length-0) 0 ()) (fun r=>r) (fun _=>-1)
def GG(XA:List uA)(FC:uA→Bool):Bool:=decide (0≤(uE XA FC))
def mJ(XA:uA):Bool:=bif OD (XA.length:Int) 1 3 then(wJ XA ([]:uA))else false
def VI(XA:uA):Bool:=!(mJ XA)
def vE(AA:dB)(fE:mD):Bool:=bif decide ((fE.Vals.length:Int)=(AA.Cols.length:Int))then !(GG fE.Vals (fun y0=>VI y0))else false
def ZB(AA:dB)(KC:jA):mD×Bool:=bif(KB KC.Key (AA.Name++([47]:uA))).2 then bif vE AA (⟨(([(KB KC.Key (AA.Name++([47]:uA))).1]:List uA)++(BD KC.Val ([44]:uA)))⟩:mD)then bif(KC.Key==((vB AA (⟨(([(KB KC.Key (AA.Name++([47]:uA))).1]:List uA)++(BD KC.Val ([44]:uA)))⟩:mD)).Key))&&((KC.Val==((vB AA (⟨(([(KB KC.Key (AA.Name++([47]:uA))).1]:List uA)++(BD KC.Val ([44]:uA)))⟩:mD)).Val))&&(KC.Gone==((vB AA (⟨(([(KB KC.Key (AA.Name++([47]:uA))).1]:List uA)++(BD KC.Val ([44]:uA)))⟩:mD)).Gone)))then((⟨(([(KB KC.Key (AA.Name++([47]:uA))).1]:List uA)++(BD KC.Val ([44]:uA)))⟩:mD),true)else((⟨[]⟩:mD),false)else((⟨[]⟩:mD),false)else((⟨[]⟩:mD),false)
def MF(AA:dB)(ps:List jA)(k19:Nat):(List mD)→YI (List mD) (List mD) | (x101)=>bif(ZB AA (ps.getD k19 xA)).2 then .cont ((x101++([(ZB AA (ps.getD k19 xA)).1]:List mD)))else .cont (x101)
def mB(AA:dB)(ps:List jA):List mD:=rE (iB (MF AA ps) (ps.length-0) 0 (([]:List mD))) (fun r=>r) (fun x101=>x101)
def cD(AA:dB)(pn:uA):uA:=((AA.Name++([46]:uA))++pn)++([47]:uA)
def PC(AA:dB)(pn:uA):MG:=(AA.Idxs.getD (((bD AA pn)).toNat) AB)
def WC(AA:dB)(pn:uA)(fE:mD):uA:=(((cD AA pn)++(fE.Vals.getD (((PC AA pn).Col).toNat) IB))++([47]:uA))++(fE.Vals.getD 0 IB)
def SB(AA:dB)(pn:uA)(fE:mD):List OH:=([(⟨7,(vB AA fE).Key,(vB AA fE).Val,0⟩:OH),(⟨2,(WC AA pn fE),([]:uA),0⟩:OH)]:List OH)
def DI(AA:dB)(pn:uA)(ps:List jA)(k26:Nat):(List DE)→YI (List DE) (List DE) | (x80)=>.cont ((x80++([(⟨(vB AA ((mB AA ps).getD k26 DD)).Key,(SB AA pn ((mB AA ps).getD k26 DD))⟩:DE)]:List DE)))
def JB(AA:dB)(pn:uA)(ps:List jA):List DE:=rE (iB (DI AA pn ps) ((mB AA ps).length-0) 0 (([]:List DE))) (fun r=>r) (fun x80=>x80)
def OA(AA:dB)(pn:uA)(ps:List jA)(FC:dE)(wB:Int):(List jA)×dE×Bool:=bif dF AA pn ps FC wB then((rC (JB AA pn ps) ps FC wB).1,(rC (JB AA pn ps) ps FC wB).2,true)else(([]:List jA),(⟨([]:uA),false⟩:dE),false)
def nF(XA:uA):Bool:=bif FE (XA.length:Int) 1 12 then(oH XA ([46,47]:uA))else false
def pG(FC:dE):Bool:=bif FC.Last==([]:uA)then true else(nF FC.Last)
def KF(XA:uA)(CG:Int)(k2:Nat):Unit→YI Bool Unit | ()=>bif decide (((XA.getD k2 0).toNat:Int)<97)then .ret false else bif decide (122<((XA.getD k2 0).toNat:Int))then .ret false else .cont ()
def DC(XA:uA)(CG:Int):Bool:=rE (iB (KF XA CG) (XA.length-0) 0 ()) (fun r=>r) (fun _=>bif decide (1≤(XA.length:Int))then decide ((XA.length:Int)≤CG)else false)
def oJ(WB:List uA)(XA:uA)(k4:Nat):Unit→YI Int Unit | ()=>bif(WB.getD k4 IB)==XA then .ret (k4:Int)else .cont ()
def EK(WB:List uA)(XA:uA):Int:=rE (iB (oJ WB XA) (WB.length-0) 0 ()) (fun r=>r) (fun _=>-1)
def IG(WB:List uA)(k3:Nat):Unit→YI Bool Unit | ()=>bif DC (WB.getD k3 IB) 3 then bif decide (0≤(EK (WB.take k3) (WB.getD k3 IB)))then .ret false else .cont ()else .ret false
def WI(WB:List uA):Bool:=rE (iB (IG WB) (WB.length-0) 0 ()) (fun r=>r) (fun _=>(FE (WB.length:Int) 2 4))
def FD(qA:dB)(k19:Nat):Unit→YI Bool Unit | ()=>bif DC ((qA.Idxs.getD k19 AB).Name) 1 then bif FE ((qA.Idxs.getD k19 AB).Col) 1 (IntKind.wrap .i64 ((qA.Cols.length:Int)-1))then bif FE ((qA.Idxs.getD k19 AB).Stage) 0 3 then bif decide (0<(k19:Int))then bif jJ ((qA.Idxs.getD ((IntKind.wrap .i64 ((k19:Int)-1)).toNat) AB).Name) ((qA.Idxs.getD k19 AB).Name)then .cont ()else .ret false else .cont ()else .ret false else .ret false else .ret false
def LC(qA:dB):Bool:=bif DC qA.Name 1 then bif WI qA.Cols then bif decide (3<(qA.Idxs.length:Int))then false else rE (iB (FD qA) (qA.Idxs.length-0) 0 ()) (fun r=>r) (fun _=>true)else false else false
def QI(AA:dB)(pn:uA)(k11:Nat):Unit→YI Int Unit | ()=>bif((AA.Idxs.getD k11 AB).Name)==pn then .ret (k11:Int)else .cont ()
def iD(AA:dB)(pn:uA):Int:=rE (iB (QI AA pn) (AA.Idxs.length-0) 0 ()) (fun r=>r) (fun _=>-1)
def cH(XA:uA):Bool:=bif decide ((XA.length:Int)≤24)then(oH XA ([46,45,44,95]:uA))else false
def TE(MB:uA)(XE:uA)(bK:Bool):Bool:=bif nF MB then bif cH XE then bif bK then XE==([]:uA)else true else false else false
def NF(WB:List jA)(k3:Nat):Unit→YI Bool Unit | ()=>bif TE ((WB.getD k3 xA).Key) ((WB.getD k3 xA).Val) ((WB.getD k3 xA).Gone)then bif decide (0<(k3:Int))then bif jJ ((WB.getD ((IntKind.wrap .i64 ((k3:Int)-1)).toNat) xA).Key) ((WB.getD k3 xA).Key)then .cont ()else .ret false else .cont ()else .ret false
def VG(WB:List jA):Bool:=rE (iB (NF WB) (WB.length-0) 0 ()) (fun r=>r) (fun _=>decide ((WB.length:Int)≤24))
def rI(WB:List jA)(k3:Nat):Unit→YI Bool Unit | ()=>bif(WB.getD k3 xA).Gone then .ret false else .cont ()
def dD(WB:List jA):Bool:=rE (iB (rI WB) (WB.length-0) 0 ()) (fun r=>r) (fun _=>(VG WB))
def iF(AA:dB)(pn:uA)(ps:List jA):Bool:=bif LC AA then bif decide (0≤(iD AA pn))then(dD ps)else false else false
def XI(EG:Int):Bool:=(FE EG 1 24)
def FF(nH:OH):Bool:=bif nF nH.Key then bif decide (nH.Kind=2)then bif cH nH.Val then decide (nH.By=0)else false else bif decide (nH.Kind=7)then bif cH nH.Val then decide (nH.By=0)else false else bif decide (nH.Kind=4)then bif nH.Val==([]:uA)then(FE nH.By (-9999) 9999)else false else bif decide (nH.Kind=5)then bif nH.Val==([]:uA)then(FE nH.By (-9999) 9999)else false else bif decide (nH.Kind=1)then bif nH.Val==([]:uA)then decide (nH.By=0)else false else bif decide (nH.Kind=3)then bif nH.Val==([]:uA)then decide (nH.By=0)else false else bif decide (nH.Kind=6)then bif nH.Val==([]:uA)then decide (nH.By=0)else false else false else false
def qI(WB:List OH)(k3:Nat):Unit→YI Bool Unit | ()=>bif FF (WB.getD k3 MC)then .cont ()else .ret false
def JH(WB:List OH):Bool:=rE (iB (qI WB) (WB.length-0) 0 ()) (fun r=>r) (fun _=>decide ((WB.length:Int)≤8))
def QG(kG:List jA)(ED:List AF)(MB:uA)(k6:Nat):Unit→YI (uA×Bool×Bool) Unit | ()=>bif((kG.getD k6 xA).Key)==MB then .ret ((kG.getD k6 xA).Val,!((kG.getD k6 xA).Gone),true)else .cont ()
def sH(kG:List jA)(ED:List AF)(MB:uA)(k29:Nat):Unit→YI (uA×Bool×Bool) Unit | ()=>bif((ED.getD k29 SH).Key)==MB then .ret ((ED.getD k29 SH).Val,(ED.getD k29 SH).There,true)else .cont ()
def qC(kG:List jA)(ED:List AF)(MB:uA):uA×Bool×Bool:=rE (iB (QG kG ED MB) (kG.length-0) 0 ()) (fun r=>r) (fun _=>rE (iB (sH kG ED MB) (ED.length-0) 0 ()) (fun r=>r) (fun _=>(([]:uA),false,false)))
def zE(XA:uA)(k8:Nat):Int→YI Int Int | (x9)=>bif decide (((XA.getD k8 0).toNat:Int)<48)then .ret (-1)else bif decide (57<((XA.getD k8 0).toNat:Int))then .ret (-1)else .cont (IntKind.wrap .i64 ((IntKind.wrap .i64 (10*x9))+(IntKind.wrap .i64 (IntKind.wrap .u8 (((XA.getD k8 0).toNat:Int)-48)))))
def lG(XA:uA):Int:=bif FE (XA.length:Int) 1 6 then bif decide (((XA.getD 0 0).toNat:Int)=48)then bif decide (1<(XA.length:Int))then -1 else rE (iB (zE XA) (XA.length-0) 0 (0)) (fun r=>r) (fun x9=>x9)else rE (iB (zE XA) (XA.length-0) 0 (0)) (fun r=>r) (fun x13=>x13)else -1
def fG(XA:uA):Int×Bool:=bif decide (0<(XA.length:Int))then bif decide (((XA.getD 0 0).toNat:Int)=45)then bif decide ((lG (XA.drop 1))<0)then(0,false)else bif decide ((lG (XA.drop 1))=0)then(0,false)else(IntKind.wrap .i64 (0-(lG (XA.drop 1))),true)else bif decide ((lG XA)<0)then(0,false)else((lG XA),true)else bif decide ((lG XA)<0)then(0,false)else((lG XA),true)
def xE(nH:OH)(XE:uA)(mF:Bool):Bool:=bif decide (nH.Kind=4)then bif mF then bif(fG XE).2 then !(FE (IntKind.wrap .i64 (((fG XE).1)+nH.By)) (-999999) 999999)else true else false else bif decide (nH.Kind=5)then bif mF then bif(fG XE).2 then decide (((fG XE).1)<nH.By)else true else true else bif decide (nH.Kind=6)then mF else bif decide (nH.Kind=7)then bif mF then !(XE==nH.Val)else true else false
def iH(EG:Int):uA:=bif decide (EG<0)then([45]:uA)++(sJ (IntKind.wrap .i64 (0-EG)))else(sJ EG)
def jD(qA:List OH)(PA:List AF)(k5:Nat):(List jA)→YI (Int×uA×(List jA)) (List jA) | (x174)=>bif(qC x174 PA ((qA.getD k5 MC).Key)).2.2 then bif xE (qA.getD k5 MC) ((qC x174 PA ((qA.getD k5 MC).Key)).1) ((qC x174 PA ((qA.getD k5 MC).Key)).2.1)then .ret (2,([]:uA),([]:List jA))else bif decide (((qA.getD k5 MC).Kind)=2)then .cont ((YB x174 (⟨(qA.getD k5 MC).Key,(qA.getD k5 MC).Val,false⟩:jA)))else bif decide (((qA.getD k5 MC).Kind)=3)then .cont ((YB x174 (⟨(qA.getD k5 MC).Key,([]:uA),true⟩:jA)))else bif decide (((qA.getD k5 MC).Kind)=4)then bif(qC x174 PA ((qA.getD k5 MC).Key)).2.1 then .cont ((YB x174 (⟨(qA.getD k5 MC).Key,(iH (IntKind.wrap .i64 (((fG ((qC x174 PA ((qA.getD k5 MC).Key)).1)).1)+((qA.getD k5 MC).By)))),false⟩:jA)))else .cont ((YB x174 (⟨(qA.getD k5 MC).Key,(iH (IntKind.wrap .i64 (0+((qA.getD k5 MC).By)))),false⟩:jA)))else .cont (x174)else bif decide (((qA.getD k5 MC).Kind)=2)then bif xE (qA.getD k5 MC) ((qC x174 PA ((qA.getD k5 MC).Key)).1) ((qC x174 PA ((qA.getD k5 MC).Key)).2.1)then .ret (2,([]:uA),([]:List jA))else .cont ((YB x174 (⟨(qA.getD k5 MC).Key,(qA.getD k5 MC).Val,false⟩:jA)))else bif decide (((qA.getD k5 MC).Kind)=3)then bif xE (qA.getD k5 MC) ((qC x174 PA ((qA.getD k5 MC).Key)).1) ((qC x174 PA ((qA.getD k5 MC).Key)).2.1)then .ret (2,([]:uA),([]:List jA))else .cont ((YB x174 (⟨(qA.getD k5 MC).Key,([]:uA),true⟩:jA)))else .ret (1,(qA.getD k5 MC).Key,([]:List jA))
def XD(qA:List OH)(PA:List AF):Int×uA×(List jA):=rE (iB (jD qA PA) (qA.length-0) 0 (([]:List jA))) (fun r=>r) (fun x174=>(3,([]:uA),x174))
def NH(zB:List jA)(MB:uA)(k10:Nat):Unit→YI AF Unit | ()=>bif((zB.getD k10 xA).Key)==MB then .ret (⟨MB,(zB.getD k10 xA).Val,true⟩:AF)else .cont ()
def HG(zB:List jA)(MB:uA):AF:=rE (iB (NH zB MB) (zB.length-0) 0 ()) (fun r=>r) (fun _=>(⟨MB,([]:uA),false⟩:AF))
def XG(zB:List jA)(WB:List OH):(List AF)→YI ((List AF)×(List jA)×Bool) (List AF) | (x38)=>bif decide (((XD WB x38).1)=1)then .cont ((x38++([(HG zB ((XD WB x38).2.1))]:List AF)))else .ret (x38,(XD WB x38).2.2,decide (((XD WB x38).1)=3))
def vC(zB:List jA)(WB:List OH):(List AF)×(List jA)×Bool:=rE (VF (XG zB WB) (((WB.filter fun o=>!(([]:List AF).any fun g=>g.Key==o.Key)).length)+1) (([]:List AF))) (fun r=>r) (fun x38=>(([]:List AF),([]:List jA),false))
def JI(zB:List jA)(KC:List jA)(k26:Nat):(List jA)→YI (List jA) (List jA) | (x65)=>.cont ((YB x65 (KC.getD k26 xA)))
def uH(zB:List jA)(KC:List jA)(x65:List jA)(k88:Nat):(List jA)→YI (List jA) (List jA) | (x145)=>bif(x65.getD k88 xA).Gone then .cont (x145)else .cont ((x145++([(x65.getD k88 xA)]:List jA)))
def CC(zB:List jA)(KC:List jA):List jA:=rE (iB (JI zB KC) (KC.length-0) 0 ((([]:List jA)++zB))) (fun r=>r) (fun x65=>rE (iB (uH zB KC x65) (x65.length-0) 0 (([]:List jA))) (fun r=>r) (fun x145=>x145))
def LF(qA:List jA)(PA:List (List OH))(k10:Nat):Unit→YI ((List jA)×(List Bool)×Bool) Unit | ()=>bif JH (PA.getD k10 FI)then .cont ()else .ret (([]:List jA),([]:List Bool),false)
def zF(qA:List jA)(PA:List (List OH))(k38:Nat):(List jA)×(List Bool)→YI ((List jA)×(List Bool)×Bool) ((List jA)×(List Bool)) | (x119,x124)=>bif(vC x119 (PA.getD k38 FI)).2.2 then bif dD (CC x119 ((vC x119 (PA.getD k38 FI)).2.1))then .cont ((CC x119 ((vC x119 (PA.getD k38 FI)).2.1)),(x124++([(dD (CC x119 ((vC x119 (PA.getD k38 FI)).2.1)))]:List Bool)))else .cont (x119,(x124++([(dD (CC x119 ((vC x119 (PA.getD k38 FI)).2.1)))]:List Bool)))else .cont (x119,(x124++([false]:List Bool)))
def YC(qA:List jA)(PA:List (List OH)):(List jA)×(List Bool)×Bool:=bif dD qA then bif decide (20<(PA.length:Int))then(([]:List jA),([]:List Bool),false)else rE (iB (LF qA PA) (PA.length-0) 0 ()) (fun r=>r) (fun _=>rE (iB (zF qA PA) (PA.length-0) 0 ((([]:List jA)++qA),([]:List Bool))) (fun r=>r) (fun(x119,x124)=>(x119,x124,true)))else(([]:List jA),([]:List Bool),false)
def xD(ps:List jA)(SF:List OH):(List jA)×Bool:=bif decide ((((YC ps ([SF]:List (List OH))).2.1).length:Int)=1)then((YC ps ([SF]:List (List OH))).1,(((YC ps ([SF]:List (List OH))).2.1).getD 0 xR))else((YC ps ([SF]:List (List OH))).1,false)
def bH(AA:dB)(sF:MG)(fE:mD):List OH:=([(⟨7,(dC AA fE).Key,(dC AA fE).Val,0⟩:OH),(⟨2,(QE AA sF fE),([]:uA),0⟩:OH)]:List OH)
def MH(HC:List uA)(SJ:uA)(k4:Nat):Unit→YI Bool Unit | ()=>bif XH (HC.getD k4 IB) SJ then .cont ()else .ret true
def oF(HC:List uA)(SJ:uA):Bool:=rE (iB (MH HC SJ) (HC.length-0) 0 ()) (fun r=>r) (fun _=>false)
def qG(qA:dB)(PA:uA)(kK:List jA)(AM:dE)(SP:Int)(k59:Nat):Int×(List jA)×uA→YI ((List jA)×dE) (Int×(List jA)×uA) | (x136,x137,x142)=>bif decide (x136=0)then .cont (x136,x137,x142)else bif XH ((dC qA ((LB qA kK).getD k59 DD)).Key) x142 then .cont (x136,x137,x142)else bif(xD x137 (bH qA (qA.Idxs.getD (((iD qA PA)).toNat) AB) ((LB qA kK).getD k59 DD))).2 then .cont (IntKind.wrap .i64 (x136-1),(xD x137 (bH qA (qA.Idxs.getD (((iD qA PA)).toNat) AB) ((LB qA kK).getD k59 DD))).1,(dC qA ((LB qA kK).getD k59 DD)).Key)else .brk (x136,x137,x142)
def lF(qA:dB)(PA:uA)(kK:List jA)(AM:dE)(SP:Int):(List jA)×dE:=rE (iB (qG qA PA kK AM SP) ((LB qA kK).length-0) 0 (SP,(([]:List jA)++kK),AM.Last)) (fun r=>r) (fun(x136,x137,x142)=>bif AM.Over then(x137,(⟨x142,true⟩:dE))else(x137,(⟨x142,!(oF (YA qA x137) x142)⟩:dE)))
def VA(AA:dB)(pn:uA)(ps:List jA)(FC:dE)(wB:Int):(List jA)×dE×Bool:=bif iF AA pn ps then bif pG FC then bif XI wB then((lF AA pn ps FC wB).1,(lF AA pn ps FC wB).2,true)else(([]:List jA),(⟨([]:uA),false⟩:dE),false)else(([]:List jA),(⟨([]:uA),false⟩:dE),false)else(([]:List jA),(⟨([]:uA),false⟩:dE),false)
def eE(AA:dB)(pn:uA)(MB:uA):uA×uA×Bool:=bif decide (((uC MB 47).length:Int)=3)then bif((uC MB 47).getD 0 IB)==((AA.Name++([46]:uA))++pn)then bif VE ((uC MB 47).getD 1 IB)then bif VE ((uC MB 47).getD 2 IB)then(((uC MB 47).getD 1 IB),((uC MB 47).getD 2 IB),true)else(([]:uA),([]:uA),false)else(([]:uA),([]:uA),false)else(([]:uA),([]:uA),false)else(([]:uA),([]:uA),false)
def aG(AA:dB)(pn:uA)(ps:List jA)(k13:Nat):(List uA)→YI (List uA) (List uA) | (x75)=>bif(eE AA pn ((ps.getD k13 xA).Key)).2.2 then .cont ((x75++([(ps.getD k13 xA).Key]:List uA)))else .cont (x75)
def lB(AA:dB)(pn:uA)(ps:List jA):List uA:=rE (iB (aG AA pn ps) (ps.length-0) 0 (([]:List uA))) (fun r=>r) (fun x75=>x75)
def bA(iA:List Int):dB×uA×(List jA)×dE×Int:=bif(fB iA (0,0) 2).1 then((aA iA).1,(aA iA).2.1,(aA iA).2.2.1,(OC iA ((fB iA (0,0) 2).2) ((aA iA).1) (lB ((aA iA).1) ((aA iA).2.1) ((aA iA).2.2.1))).1,(aA iA).2.2.2.2)else((aA iA).1,(aA iA).2.1,(aA iA).2.2.1,(aA iA).2.2.2.1,(aA iA).2.2.2.2)
def eJ(EG:Int):Int:=IntKind.wrap .i64 (Int.tdiv (IntKind.wrap .i64 (EG+16)) 8)
def NB(qA:uA)(PA:uA):Int:=bif PA==qA then 0 else(OE qA ((PA.getD 0 0).toNat:Int))
def pD(XA:uA)(cF:uA):uA×uA×Bool:=bif decide (0≤(NB XA cF))then((XA.take (((NB XA cF)).toNat)),(XA.drop ((IntKind.wrap .i64 ((NB XA cF)+(cF.length:Int))).toNat)),true)else(XA,([]:uA),false)
def JE(XA:uA)(cF:uA):uA×uA×Bool:=((pD XA cF).1,(pD XA cF).2.1,(pD XA cF).2.2)
def TC(AA:dB)(pn:uA)(MB:uA):uA×uA×Bool:=bif(KB MB (cD AA pn)).2 then bif(JE ((KB MB (cD AA pn)).1) ([47]:uA)).2.2 then bif mJ ((JE ((KB MB (cD AA pn)).1) ([47]:uA)).1)then bif mJ ((JE ((KB MB (cD AA pn)).1) ([47]:uA)).2.1)then((JE ((KB MB (cD AA pn)).1) ([47]:uA)).1,(JE ((KB MB (cD AA pn)).1) ([47]:uA)).2.1,true)else(([]:uA),([]:uA),false)else(([]:uA),([]:uA),false)else(([]:uA),([]:uA),false)else(([]:uA),([]:uA),false)
def CE(AA:dB)(pn:uA)(ps:List jA)(k20:Nat):(List uA)→YI (List uA) (List uA) | (x82)=>bif(TC AA pn ((ps.getD k20 xA).Key)).2.2 then .cont ((x82++([(ps.getD k20 xA).Key]:List uA)))else .cont (x82)
def TB(AA:dB)(pn:uA)(ps:List jA):List uA:=rE (iB (CE AA pn ps) (ps.length-0) 0 (([]:List uA))) (fun r=>r) (fun x82=>x82)
def eI(AA:dB)(pn:uA)(ps:List jA)(k26:Nat):(List DE)→YI (List DE) (List DE) | (x51)=>.cont ((x51++([(⟨((TB AA pn ps).getD k26 IB),([(⟨3,((TB AA pn ps).getD k26 IB),([]:uA),0⟩:OH)]:List OH)⟩:DE)]:List DE)))
def UB(AA:dB)(pn:uA)(ps:List jA):List DE:=rE (iB (eI AA pn ps) ((TB AA pn ps).length-0) 0 (([]:List DE))) (fun r=>r) (fun x51=>x51)
def aB(AA:dB)(pn:uA)(ps:List jA)(FC:dE)(wB:Int):(List jA)×dE×Bool:=bif dF AA pn ps FC wB then((rC (UB AA pn ps) ps FC wB).1,(rC (UB AA pn ps) ps FC wB).2,true)else(([]:List jA),(⟨([]:uA),false⟩:dE),false)
def PG(AA:dB)(pn:uA)(ps:List jA)(FC:dE)(wB:Int)(k53:Nat):Int×(List jA)×uA→YI ((List jA)×dE) (Int×(List jA)×uA) | (x104,x105,x110)=>bif decide (x104=0)then .cont (x104,x105,x110)else bif XH ((lB AA pn ps).getD k53 IB) x110 then .cont (x104,x105,x110)else .cont (IntKind.wrap .i64 (x104-1),(xD x105 ([(⟨3,((lB AA pn ps).getD k53 IB),([]:uA),0⟩:OH)]:List OH)).1,((lB AA pn ps).getD k53 IB))
def kF(AA:dB)(pn:uA)(ps:List jA)(FC:dE)(wB:Int):(List jA)×dE:=rE (iB (PG AA pn ps FC wB) ((lB AA pn ps).length-0) 0 (wB,(([]:List jA)++ps),FC.Last)) (fun r=>r) (fun(x104,x105,x110)=>bif FC.Over then(x105,(⟨x110,true⟩:dE))else(x105,(⟨x110,!(oF (lB AA pn x105) x110)⟩:dE)))
def HB(AA:dB)(pn:uA)(ps:List jA)(FC:dE)(wB:Int):(List jA)×dE×Bool:=bif iF AA pn ps then bif pG FC then bif XI wB then((kF AA pn ps FC wB).1,(kF AA pn ps FC wB).2,true)else(([]:List jA),(⟨([]:uA),false⟩:dE),false)else(([]:List jA),(⟨([]:uA),false⟩:dE),false)else(([]:List jA),(⟨([]:uA),false⟩:dE),false)
def mI(KH:List jA)(xH:List jA)(k6:Nat):Unit→YI Bool Unit | ()=>bif(((KH.getD k6 xA).Key)==((xH.getD k6 xA).Key))&&((((KH.getD k6 xA).Val)==((xH.getD k6 xA).Val))&&(((KH.getD k6 xA).Gone)==((xH.getD k6 xA).Gone)))then .cont ()else .ret false
def PD(KH:List jA)(xH:List jA):Bool:=bif decide ((KH.length:Int)=(xH.length:Int))then rE (iB (mI KH xH) (KH.length-0) 0 ()) (fun r=>r) (fun _=>true)else false
def YD(AA:dB)(ps:List jA):(List mD)×Bool:=bif UD AA then bif UG ps then((mB AA ps),true)else(([]:List mD),false)else(([]:List mD),false)
def PE(XA:List uA)(FC:uA→Bool):List uA:=XA.filter fun y=>!FC y
def aF(XA:List uA):List uA:=(([]:List uA)++XA)
def tK(XA:uA)(CI:List uA):Bool:=(IF CI XA)
def sK(WB:List uA)(vK:List uA):List uA:=(PE (aF WB) (fun y0=>tK y0 vK))
def zH(AA:dB)(pn:uA)(ps:List jA)(k26:Nat):(List uA)→YI (List uA) (List uA) | (x88)=>.cont ((x88++([(WC AA pn ((mB AA ps).getD k26 DD))]:List uA)))
def tH(AA:dB)(pn:uA)(ps:List jA):List uA:=rE (iB (zH AA pn ps) ((mB AA ps).length-0) 0 (([]:List uA))) (fun r=>r) (fun x88=>x88)
def vF(AA:dB)(pn:uA)(ps:List jA):List uA:=(sK (TB AA pn ps) (tH AA pn ps))
def JF(AA:dB)(pn:uA)(ps:List jA):(List uA)×Bool:=bif CF AA pn ps then((vF AA pn ps),true)else(([]:List uA),false)
def lI(KH:List uA)(xH:List uA)(k6:Nat):Unit→YI Bool Unit | ()=>bif(KH.getD k6 IB)==(xH.getD k6 IB)then .cont ()else .ret false
def gJ(KH:List uA)(xH:List uA):Bool:=bif decide ((KH.length:Int)=(xH.length:Int))then rE (iB (lI KH xH) (KH.length-0) 0 ()) (fun r=>r) (fun _=>true)else false
def WG(KH:List mD)(xH:List mD)(k6:Nat):Unit→YI Bool Unit | ()=>bif gJ ((KH.getD k6 DD).Vals) ((xH.getD k6 DD).Vals)then .cont ()else .ret false
def JG(KH:List mD)(xH:List mD):Bool:=bif decide ((KH.length:Int)=(xH.length:Int))then rE (iB (WG KH xH) (KH.length-0) 0 ()) (fun r=>r) (fun _=>true)else false
def OB(qA:List Int)(PA:List Int):Bool:=bif decide (1048576<(IntKind.wrap .i64 ((qA.length:Int)+(PA.length:Int))))then true else bif((OA ((aA qA).1) ((aA qA).2.1) ((aA qA).2.2.1) ((aA qA).2.2.2.1) ((aA qA).2.2.2.2)).2.2)==((VA ((aA qA).1) ((aA qA).2.1) ((aA qA).2.2.1) ((aA qA).2.2.2.1) ((aA qA).2.2.2.2)).2.2)then bif PD ((OA ((aA qA).1) ((aA qA).2.1) ((aA qA).2.2.1) ((aA qA).2.2.2.1) ((aA qA).2.2.2.2)).1) ((VA ((aA qA).1) ((aA qA).2.1) ((aA qA).2.2.1) ((aA qA).2.2.2.1) ((aA qA).2.2.2.2)).1)then bif(((OA ((aA qA).1) ((aA qA).2.1) ((aA qA).2.2.1) ((aA qA).2.2.2.1) ((aA qA).2.2.2.2)).2.1.Last)==((VA ((aA qA).1) ((aA qA).2.1) ((aA qA).2.2.1) ((aA qA).2.2.2.1) ((aA qA).2.2.2.2)).2.1.Last))&&(((OA ((aA qA).1) ((aA qA).2.1) ((aA qA).2.2.1) ((aA qA).2.2.2.1) ((aA qA).2.2.2.2)).2.1.Over)==((VA ((aA qA).1) ((aA qA).2.1) ((aA qA).2.2.1) ((aA qA).2.2.2.1) ((aA qA).2.2.2.2)).2.1.Over))then bif((aB ((bA PA).1) ((bA PA).2.1) ((bA PA).2.2.1) ((bA PA).2.2.2.1) ((bA PA).2.2.2.2)).2.2)==((HB ((bA PA).1) ((bA PA).2.1) ((bA PA).2.2.1) ((bA PA).2.2.2.1) ((bA PA).2.2.2.2)).2.2)then bif PD ((aB ((bA PA).1) ((bA PA).2.1) ((bA PA).2.2.1) ((bA PA).2.2.2.1) ((bA PA).2.2.2.2)).1) ((HB ((bA PA).1) ((bA PA).2.1) ((bA PA).2.2.1) ((bA PA).2.2.2.1) ((bA PA).2.2.2.2)).1)then bif(((aB ((bA PA).1) ((bA PA).2.1) ((bA PA).2.2.1) ((bA PA).2.2.2.1) ((bA PA).2.2.2.2)).2.1.Last)==((HB ((bA PA).1) ((bA PA).2.1) ((bA PA).2.2.1) ((bA PA).2.2.2.1) ((bA PA).2.2.2.2)).2.1.Last))&&(((aB ((bA PA).1) ((bA PA).2.1) ((bA PA).2.2.1) ((bA PA).2.2.2.1) ((bA PA).2.2.2.2)).2.1.Over)==((HB ((bA PA).1) ((bA PA).2.1) ((bA PA).2.2.1) ((bA PA).2.2.2.1) ((bA PA).2.2.2.2)).2.1.Over))then bif(DH ((aA qA).2.2.2.1))==(pG ((aA qA).2.2.2.1))then bif(OA ((aA qA).1) ((aA qA).2.1) ((aA qA).2.2.1) ((aA qA).2.2.2.1) ((aA qA).2.2.2.2)).2.2 then bif(YD ((aA qA).1) ((aA qA).2.2.1)).2 then bif(YD ((aA qA).1) ((OA ((aA qA).1) ((aA qA).2.1) ((aA qA).2.2.1) ((aA qA).2.2.2.1) ((aA qA).2.2.2.2)).1)).2 then bif(JF ((aA qA).1) ((aA qA).2.1) ((aA qA).2.2.1)).2 then bif(JF ((aA qA).1) ((aA qA).2.1) ((OA ((aA qA).1) ((aA qA).2.1) ((aA qA).2.2.1) ((aA qA).2.2.2.1) ((aA qA).2.2.2.2)).1)).2 then bif JG ((YD ((aA qA).1) ((aA qA).2.2.1)).1) ((YD ((aA qA).1) ((OA ((aA qA).1) ((aA qA).2.1) ((aA qA).2.2.1) ((aA qA).2.2.2.1) ((aA qA).2.2.2.2)).1)).1)then bif gJ ((JF ((aA qA).1) ((aA qA).2.1) ((aA qA).2.2.1)).1) ((JF ((aA qA).1) ((aA qA).2.1) ((OA ((aA qA).1) ((aA qA).2.1) ((aA qA).2.2.1) ((aA qA).2.2.2.1) ((aA qA).2.2.2.2)).1)).1)then bif jJ ((OA ((aA qA).1) ((aA qA).2.1) ((aA qA).2.2.1) ((aA qA).2.2.2.1) ((aA qA).2.2.2.2)).2.1.Last) ((aA qA).2.2.2.1.Last)then false else bif decide ((((OA ((aA qA).1) ((aA qA).2.1) ((aA qA).2.2.1) ((aA qA).2.2.2.1) ((aA qA).2.2.2.2)).1).length:Int)<(((aA qA).2.2.1).length:Int))then false else bif decide ((IntKind.wrap .i64 ((((aA qA).2.2.1).length:Int)+((aA qA).2.2.2.2)))<(((OA ((aA qA).1) ((aA qA).2.1) ((aA qA).2.2.1) ((aA qA).2.2.2.1) ((aA qA).2.2.2.2)).1).length:Int))then false else bif(aB ((bA PA).1) ((bA PA).2.1) ((bA PA).2.2.1) ((bA PA).2.2.2.1) ((bA PA).2.2.2.2)).2.2 then bif(YD ((bA PA).1) ((bA PA).2.2.1)).2 then bif(YD ((bA PA).1) ((aB ((bA PA).1) ((bA PA).2.1) ((bA PA).2.2.1) ((bA PA).2.2.2.1) ((bA PA).2.2.2.2)).1)).2 then bif JG ((YD ((bA PA).1) ((bA PA).2.2.1)).1) ((YD ((bA PA).1) ((aB ((bA PA).1) ((bA PA).2.1) ((bA PA).2.2.1) ((bA PA).2.2.2.1) ((bA PA).2.2.2.2)).1)).1)then bif jJ ((aB ((bA PA).1) ((bA PA).2.1) ((bA PA).2.2.1) ((bA PA).2.2.2.1) ((bA PA).2.2.2.2)).2.1.Last) ((bA PA).2.2.2.1.Last)then false else bif decide ((IntKind.wrap .i64 ((((bA PA).2.2.1).length:Int)-((bA PA).2.2.2.2)))≤(((aB ((bA PA).1) ((bA PA).2.1) ((bA PA).2.2.1) ((bA PA).2.2.2.1) ((bA PA).2.2.2.2)).1).length:Int))then decide ((((aB ((bA PA).1) ((bA PA).2.1) ((bA PA).2.2.1) ((bA PA).2.2.2.1) ((bA PA).2.2.2.2)).1).length:Int)≤(((bA PA).2.2.1).length:Int))else false else false else false else false else true else false else false else false else false else false else false else bif(aB ((bA PA).1) ((bA PA).2.1) ((bA PA).2.2.1) ((bA PA).2.2.2.1) ((bA PA).2.2.2.2)).2.2 then bif(YD ((bA PA).1) ((bA PA).2.2.1)).2 then bif(YD ((bA PA).1) ((aB ((bA PA).1) ((bA PA).2.1) ((bA PA).2.2.1) ((bA PA).2.2.2.1) ((bA PA).2.2.2.2)).1)).2 then bif JG ((YD ((bA PA).1) ((bA PA).2.2.1)).1) ((YD ((bA PA).1) ((aB ((bA PA).1) ((bA PA).2.1) ((bA PA).2.2.1) ((bA PA).2.2.2.1) ((bA PA).2.2.2.2)).1)).1)then bif jJ ((aB ((bA PA).1) ((bA PA).2.1) ((bA PA).2.2.1) ((bA PA).2.2.2.1) ((bA PA).2.2.2.2)).2.1.Last) ((bA PA).2.2.2.1.Last)then false else bif decide ((IntKind.wrap .i64 ((((bA PA).2.2.1).length:Int)-((bA PA).2.2.2.2)))≤(((aB ((bA PA).1) ((bA PA).2.1) ((bA PA).2.2.1) ((bA PA).2.2.2.1) ((bA PA).2.2.2.2)).1).length:Int))then decide ((((aB ((bA PA).1) ((bA PA).2.1) ((bA PA).2.2.1) ((bA PA).2.2.2.1) ((bA PA).2.2.2.2)).1).length:Int)≤(((bA PA).2.2.1).length:Int))else false else false else false else false else true else false else false else false else false else false else false else false
abbrev MV:=(Option Addr×Nat)×DE
def NT(p:MV):List Value:=[.string (bs p.2.key),.slice p.1.1 p.2.ops.length p.1.2]
def CJ:MV:=((none,0),zI)
theorem QJ:Gd (RF NT):=UJ fun _=>rfl
/-- what an element names lies below K -/
def cO(w:World)(K:Nat)(p:MV):Prop:=kD w (Iv 0 K) (RF OL) 4 p.1.1 p.2.ops.length p.1.2 p.2.ops
theorem PZ{w:World}{K:Nat}:∀{cells:List Value}{xs:List DE},ZC (YK w (Iv 0 K)) 2 cells xs→∃ps:List MV,ps.map (·.2)=xs∧ZC (RF NT w (Iv 0 K)) 2 cells ps∧∀p∈ps,cO w K p
 | _,_,.nil=>⟨[],rfl,.nil,fun _ h=>by cases h⟩
 | _,_,.cons (x:=x) hl h hs=>by
  obtain⟨ps,h1,h2,h3⟩:=PZ hs
  obtain⟨A,c,rfl,hr⟩:=h
  refine⟨((A,c),x)::ps,by rw[List.map_cons,h1],.cons hl rfl h2,fun p hp=>?_⟩
  rcases List.mem_cons.1 hp with rfl | hp
  ·exact hr
  ·exact h3 p hp
theorem QZ{w:World}{K:Nat}{S S':Nat→Prop}(hS:∀b,Iv 0 K b→S b):∀{cells:List Value}{ps:List MV},ZC (RF NT w S') 2 cells ps→(∀p∈ps,cO w K p)→ZC (YK w S) 2 cells (ps.map (·.2))
 | _,_,.nil,_=>.nil
 | _,_,.cons (x:=x) hl h hs,hp=>.cons hl ⟨x.1.1,x.1.2,h,AH nG (hp x (List.mem_cons_self ..)) fun b hb _=>hS b hb⟩ (QZ hS hs fun p h=>hp p (List.mem_cons_of_mem _ h))
theorem Ab{w:World}{K n c:Nat}{A:Option Addr}{xs:List DE}(h:kD w (Iv 0 K) YK 2 A n c xs):∃ps:List MV,ps.map (·.2)=xs∧kD w (Iv 0 K) (RF NT) 2 A n c ps∧∀p∈ps,cO w K p:=by
 obtain⟨h1,h2,h3,cells,he,hc⟩:=h
 obtain⟨ps,rfl,h5,h6⟩:=PZ he
 refine⟨ps,rfl,⟨by rw[h1,List.length_map],h2,h3,cells,h5,?_⟩,h6⟩
 rcases hc with h | h
 ·exact .inl (List.map_eq_nil_iff.1 h)
 ·exact .inr h
theorem MY{w:World}{K lo hi n c:Nat}{A:Option Addr}{ps:List MV}(h:XB w lo hi 85 2 (RF NT) A n c ps)(hs:∀p∈ps,cO w K p):kD w (fun q=>Iv 0 K q∨Iv lo hi q) YK 2 A n c (ps.map (·.2)):=by
 obtain⟨h1,h2,h3,cells,he,hc⟩:=NE QJ h
 refine⟨by rw[h1,List.length_map],h2,h3,cells,QZ (fun b hb=>.inl hb) he hs,?_⟩
 rcases hc with h | ⟨b,off,hA,hS,hb,hc⟩
 ·exact .inl (by rw[h];rfl)
 ·exact .inr ⟨b,off,hA,.inr hS,hb,hc⟩
def Ta(K:Nat)(w:World)(lo hi:Nat)(A:Option Addr)(n c:Nat)(xs:List DE):Prop:=∃ps:List MV,ps.map (·.2)=xs∧XB w lo hi 85 2 (RF NT) A n c ps∧(∀p∈ps,cO w K p)∧K≤lo
theorem cO.ex{w w':World}{K:Nat}{p:MV}(h:cO w K p)(e:Ex w w'):cO w' K p:=rA nG h e
theorem cO.mut{w w':World}{K lo hi:Nat}{p:MV}(h:cO w K p)(e:KI [(lo,hi)] w w')(hk:K≤lo):cO w' K p:=kD.mut nG h e fun k hk=>by simp only[ND,or_false,Iv]at hk ⊢;omega

structure SZ where
 val:uA
 primary:uA
def VM(AA:dB)(fE:mD):Bool:=bif LC AA then(jF AA fE)else false
def WH(AA:dB)(fE:mD):Bool:=bif UD AA then(vE AA fE)else false
def DK(AA:dB)(pn:uA):MG×Bool:=bif LC AA then bif decide ((iD AA pn)<0)then((⟨([]:uA),0,0⟩:MG),false)else((AA.Idxs.getD (((iD AA pn)).toNat) AB),true)else((⟨([]:uA),0,0⟩:MG),false)
def cS(x y:uA):Int:=bif jJ x y then -1 else bif XH x y then 0 else 1
def WO(AA:dB)(fE:mD):jA×Bool:=bif WH AA fE then((vB AA fE),true)else((⟨([]:uA),([]:uA),false⟩:jA),false)
def yP(AA:dB)(pn:uA)(MB:uA):uA×uA×Bool:=bif cE AA pn then((TC AA pn MB).1,(TC AA pn MB).2.1,(TC AA pn MB).2.2)else(([]:uA),([]:uA),false)
def QM(AA:dB)(KC:jA):mD×Bool:=bif UD AA then((ZB AA KC).1,(ZB AA KC).2)else((⟨[]⟩:mD),false)
def xO(WB:List uA)(OG:List uA)(k5:Nat):(List uA)→YI (List uA) (List uA) | (x26)=>bif decide ((EK OG (WB.getD k5 IB))<0)then .cont ((x26++([(WB.getD k5 IB)]:List uA)))else .cont (x26)
def pO(WB:List uA)(OG:List uA):List uA:=rE (iB (xO WB OG) (WB.length-0) 0 (([]:List uA))) (fun r=>r) (fun x26=>x26)
def EL(AA:dB)(pn:uA)(ps:List jA)(k19:Nat):(List uA)→YI (List uA) (List uA) | (x81)=>.cont ((x81++([(QE AA (AA.Idxs.getD (((iD AA pn)).toNat) AB) ((LB AA ps).getD k19 DD))]:List uA)))
def AG(AA:dB)(pn:uA)(ps:List jA):List uA:=rE (iB (EL AA pn ps) ((LB AA ps).length-0) 0 (([]:List uA))) (fun r=>r) (fun x81=>x81)
end Go.Proofs.YtjgimhdmpcincaaGreatDoor
