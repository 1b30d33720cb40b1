/- Clear Piece: the plain forms of the values, and plain models of the functions. -/
import Derived.Test.YtoimdjojffkefaaGreatDoorE32
set_option linter.unusedVariables false
set_option linter.unusedSimpArgs false
namespace Go.Proofs.YtoimdjojffkefaaGreatDoor
open Go.RowKit Go.X
structure zE where
 Name:QA
 Col:Int
 Stage:Int
def IA:zE:=⟨[],0,0⟩
def qO(x:zE):Prop:=GM x.Name∧zR x.Col∧zR x.Stage
def FK(x:zE):Prop:=sE x.Name
theorem ZH:FK IA:=pE
def ZE(x:zE):List Value:=[.string (bs x.Name),.int .i64 x.Col,.int .i64 x.Stage]
theorem gI:Gd (RF ZE):=EH fun _=>rfl
structure BB where
 Name:QA
 Cols:List QA
 Idxs:List zE
def uV:BB:=⟨[],[],[]⟩
def wL(x:BB):Prop:=GM x.Name∧(CR GM) x.Cols∧(CR qO) x.Idxs
def LF(x:BB):Prop:=sE x.Name∧(WE sE) x.Cols∧(WE FK) x.Idxs
theorem yW:LF uV:=⟨pE,cE _,cE _⟩
def zP:qJ BB:=fun w S cs x=>∃A1 c1 A2 c2,cs=[.string (bs x.Name),.slice A1 x.Cols.length c1,.slice A2 x.Idxs.length c2]∧IC w S (RF JC) 1 A1 x.Cols.length c1 x.Cols∧IC w S (RF ZE) 3 A2 x.Idxs.length c2 x.Idxs
def yQ:cJ BB:=fun w l h cs x=>∃A1 c1 lo1 hi1 A2 c2 lo2 hi2,cs=[.string (bs x.Name),.slice A1 x.Cols.length c1,.slice A2 x.Idxs.length c2]∧lB w lo1 hi1 9 1 (RF JC) A1 x.Cols.length c1 x.Cols∧lB w lo2 hi2 111 3 (RF ZE) A2 x.Idxs.length c2 x.Idxs∧(l≤lo1∧lo1≤hi1∧hi1≤h)∧(l≤lo2∧lo2≤hi2∧hi2≤h)∧(hi1≤lo2∨hi2≤lo1)
theorem tW:Gd zP:=⟨fun⟨A1,c1,A2,c2,he,h0,h1⟩ hk=>⟨A1,c1,A2,c2,he,OH gS h0 hk,OH gI h1 hk⟩,fun⟨A1,c1,A2,c2,he,h0,h1⟩ hw=>⟨A1,c1,A2,c2,he,YD gS h0 hw,YD gI h1 hw⟩,fun⟨A1,c1,A2,c2,he,h0,h1⟩=>by rw[he];rfl⟩
theorem YV:IK yQ zP:=⟨fun⟨A1,c1,lo1,hi1,A2,c2,lo2,hi2,he,h1,h2,r0,r1,r2⟩ hk=>⟨A1,c1,lo1,hi1,A2,c2,lo2,hi2,he,LH gS h1 (fun b b1 b2 b3=>hk b oM oM b3),LH gI h2 (fun b b1 b2 b3=>hk b oM oM b3),r0,r1,r2⟩,fun⟨A1,c1,lo1,hi1,A2,c2,lo2,hi2,he,h1,h2,r0,r1,r2⟩=>by rw[he];rfl,fun⟨A1,c1,lo1,hi1,A2,c2,lo2,hi2,he,h1,h2,r0,r1,r2⟩=>⟨A1,c1,A2,c2,he,YD gS (NH gS h1) (fun b hb _=>⟨by have:=hb.1;omega,by have:=hb.2;omega⟩),YD gI (NH gI h2) (fun b hb _=>⟨by have:=hb.1;omega,by have:=hb.2;omega⟩)⟩⟩
theorem LW{w:World}{l h:Nat}{z0:QA}{lo1 hi1 n1 c1:Nat}{A1:Option Addr}{y1:List QA}{lo2 hi2 n2 c2:Nat}{A2:Option Addr}{y2:List zE}(h1:lB w lo1 hi1 9 1 (RF JC) A1 n1 c1 y1)(h2:lB w lo2 hi2 111 3 (RF ZE) A2 n2 c2 y2)(r0:(l≤lo1∧lo1≤hi1∧hi1≤h))(r1:(l≤lo2∧lo2≤hi2∧hi2≤h))(r2:(hi1≤lo2∨hi2≤lo1)):yQ w l h [.string (bs z0),.slice A1 n1 c1,.slice A2 n2 c2] ⟨z0,y1,y2⟩:=by
 obtain rfl:=h1.1;obtain rfl:=h2.1
 exact⟨A1,c1,lo1,hi1,A2,c2,lo2,hi2,rfl,h1,h2,r0,r1,r2⟩
structure dA where
 Key:QA
 Val:QA
 Gone:Bool
def lA:dA:=⟨[],[],false⟩
def oK(x:dA):Prop:=GM x.Key∧GM x.Val
def nB(x:dA):Prop:=sE x.Key∧sE x.Val
theorem KD:nB lA:=⟨pE,pE⟩
def PA(x:dA):List Value:=[.string (bs x.Key),.string (bs x.Val),.bool x.Gone]
theorem gW:Gd (RF PA):=EH fun _=>rfl
structure ND where
 Last:QA
 Over:Bool
def nW:ND:=⟨[],false⟩
def zN(x:ND):Prop:=GM x.Last
def XG(x:ND):Prop:=sE x.Last
theorem NW:XG nW:=pE
def tU(x:ND):List Value:=[.string (bs x.Last),.bool x.Over]
theorem JW:Gd (RF tU):=EH fun _=>rfl
structure EG where
 Kind:Int
 Key:QA
 Val:QA
 By:Int
def CB:EG:=⟨0,[],[],0⟩
def dX(x:EG):Prop:=zR x.Kind∧GM x.Key∧GM x.Val∧zR x.By
def YJ(x:EG):Prop:=sE x.Key∧sE x.Val
theorem HG:YJ CB:=⟨pE,pE⟩
def PK(x:EG):List Value:=[.int .i64 x.Kind,.string (bs x.Key),.string (bs x.Val),.int .i64 x.By]
theorem KE:Gd (RF PK):=EH fun _=>rfl
structure ED where
 Key:QA
 Val:QA
 There:Bool
def XF:ED:=⟨[],[],false⟩
def nX(x:ED):Prop:=GM x.Key∧GM x.Val
def PJ(x:ED):Prop:=sE x.Key∧sE x.Val
theorem nR:PJ XF:=⟨pE,pE⟩
def VJ(x:ED):List Value:=[.string (bs x.Key),.string (bs x.Val),.bool x.There]
theorem cF:Gd (RF VJ):=EH fun _=>rfl
structure rE where
 key:QA
 ops:List EG
def yG:rE:=⟨[],[]⟩
def hX(x:rE):Prop:=GM x.key∧(CR dX) x.ops
def iI(x:rE):Prop:=sE x.key∧(WE YJ) x.ops
theorem RM:iI yG:=⟨pE,cE _⟩
def SI:qJ rE:=fun w S cs x=>∃A1 c1,cs=[.string (bs x.key),.slice A1 x.ops.length c1]∧IC w S (RF PK) 4 A1 x.ops.length c1 x.ops
def tK:cJ rE:=fun w l h cs x=>∃A1 c1 lo1 hi1,cs=[.string (bs x.key),.slice A1 x.ops.length c1]∧lB w lo1 hi1 122 4 (RF PK) A1 x.ops.length c1 x.ops∧(l≤lo1∧lo1≤hi1∧hi1≤h)
theorem OI:Gd SI:=⟨fun⟨A1,c1,he,h0⟩ hk=>⟨A1,c1,he,OH KE h0 hk⟩,fun⟨A1,c1,he,h0⟩ hw=>⟨A1,c1,he,YD KE h0 hw⟩,fun⟨A1,c1,he,h0⟩=>by rw[he];rfl⟩
theorem KJ:IK tK SI:=⟨fun⟨A1,c1,lo1,hi1,he,h1,r0⟩ hk=>⟨A1,c1,lo1,hi1,he,LH KE h1 (fun b b1 b2 b3=>hk b oM oM b3),r0⟩,fun⟨A1,c1,lo1,hi1,he,h1,r0⟩=>by rw[he];rfl,fun⟨A1,c1,lo1,hi1,he,h1,r0⟩=>⟨A1,c1,he,YD KE (NH KE h1) (fun b hb _=>⟨by have:=hb.1;omega,by have:=hb.2;omega⟩)⟩⟩
theorem LU{w:World}{l h:Nat}{z0:QA}{lo1 hi1 n1 c1:Nat}{A1:Option Addr}{y1:List EG}(h1:lB w lo1 hi1 122 4 (RF PK) A1 n1 c1 y1)(r0:(l≤lo1∧lo1≤hi1∧hi1≤h)):tK w l h [.string (bs z0),.slice A1 n1 c1] ⟨z0,y1⟩:=by
 obtain rfl:=h1.1
 exact⟨A1,c1,lo1,hi1,rfl,h1,r0⟩
structure uQ where
 Vals:List QA
def sU:uQ:=⟨[]⟩
def dV(x:uQ):Prop:=(CR GM) x.Vals
def mS(x:uQ):Prop:=(WE sE) x.Vals
theorem pR:mS sU:=cE _
def VV:qJ uQ:=fun w S cs x=>∃A1 c1,cs=[.slice A1 x.Vals.length c1]∧IC w S (RF JC) 1 A1 x.Vals.length c1 x.Vals
def hU:cJ uQ:=fun w l h cs x=>∃A1 c1 lo1 hi1,cs=[.slice A1 x.Vals.length c1]∧lB w lo1 hi1 9 1 (RF JC) A1 x.Vals.length c1 x.Vals∧(l≤lo1∧lo1≤hi1∧hi1≤h)
theorem VW:Gd VV:=⟨fun⟨A1,c1,he,h0⟩ hk=>⟨A1,c1,he,OH gS h0 hk⟩,fun⟨A1,c1,he,h0⟩ hw=>⟨A1,c1,he,YD gS h0 hw⟩,fun⟨A1,c1,he,h0⟩=>by rw[he];rfl⟩
theorem IW:IK hU VV:=⟨fun⟨A1,c1,lo1,hi1,he,h1,r0⟩ hk=>⟨A1,c1,lo1,hi1,he,LH gS h1 (fun b b1 b2 b3=>hk b oM oM b3),r0⟩,fun⟨A1,c1,lo1,hi1,he,h1,r0⟩=>by rw[he];rfl,fun⟨A1,c1,lo1,hi1,he,h1,r0⟩=>⟨A1,c1,he,YD gS (NH gS h1) (fun b hb _=>⟨by have:=hb.1;omega,by have:=hb.2;omega⟩)⟩⟩
theorem fX{w:World}{l h:Nat}{lo1 hi1 n1 c1:Nat}{A1:Option Addr}{y1:List QA}(h1:lB w lo1 hi1 9 1 (RF JC) A1 n1 c1 y1)(r0:(l≤lo1∧lo1≤hi1∧hi1≤h)):hU w l h [.slice A1 n1 c1] ⟨y1⟩:=by
 obtain rfl:=h1.1
 exact⟨A1,c1,lo1,hi1,rfl,h1,r0⟩
structure EN where
 val:QA
 primary:QA
def tV:EN:=⟨[],[]⟩
def cX(x:EN):Prop:=GM x.val∧GM x.primary
def NU(x:EN):Prop:=sE x.val∧sE x.primary
theorem xW:NU tV:=⟨pE,pE⟩
def wV(x:EN):List Value:=[.string (bs x.val),.string (bs x.primary)]
theorem sW:Gd (RF wV):=EH fun _=>rfl
structure rK where
 x:Int
 y:Int
 signed:Bool
 code:Int
def nV:rK:=⟨0,0,false,0⟩
def bV(x:rK):Prop:=zR x.x∧zR x.y∧zR x.code
def KO(x:rK):List Value:=[.int .i64 x.x,.int .i64 x.y,.bool x.signed,.int .u8 x.code]
theorem tT:Gd (RF KO):=EH fun _=>rfl
structure zH where
 msg:QA
 addr:Int
def eL:zH:=⟨[],0⟩
def tQ(x:zH):Prop:=GM x.msg∧zR x.addr
def QK(x:zH):Prop:=sE x.msg
theorem qP:QK eL:=pE
def gL(x:zH):List Value:=[.string (bs x.msg),.int .u64 x.addr]
theorem fP:Gd (RF gL):=EH fun _=>rfl
structure xL where
 Kind:Int
 Old:uQ
 New:uQ
def RQ:xL:=⟨0,sU,sU⟩
def aU(x:xL):Prop:=zR x.Kind∧dV x.Old∧dV x.New
def pP(x:xL):Prop:=mS x.Old∧mS x.New
theorem qR:pP RQ:=⟨pR,pR⟩
def zQ:qJ xL:=fun w S cs x=>∃A1 c1 A2 c2,cs=[.int .i64 x.Kind,.slice A1 x.Old.Vals.length c1,.slice A2 x.New.Vals.length c2]∧IC w S (RF JC) 1 A1 x.Old.Vals.length c1 x.Old.Vals∧IC w S (RF JC) 1 A2 x.New.Vals.length c2 x.New.Vals
def UO:cJ xL:=fun w l h cs x=>∃A1 c1 lo1 hi1 A2 c2 lo2 hi2,cs=[.int .i64 x.Kind,.slice A1 x.Old.Vals.length c1,.slice A2 x.New.Vals.length c2]∧lB w lo1 hi1 9 1 (RF JC) A1 x.Old.Vals.length c1 x.Old.Vals∧lB w lo2 hi2 9 1 (RF JC) A2 x.New.Vals.length c2 x.New.Vals∧(l≤lo1∧lo1≤hi1∧hi1≤h)∧(l≤lo2∧lo2≤hi2∧hi2≤h)∧(hi1≤lo2∨hi2≤lo1)
theorem ZV:Gd zQ:=⟨fun⟨A1,c1,A2,c2,he,h0,h1⟩ hk=>⟨A1,c1,A2,c2,he,OH gS h0 hk,OH gS h1 hk⟩,fun⟨A1,c1,A2,c2,he,h0,h1⟩ hw=>⟨A1,c1,A2,c2,he,YD gS h0 hw,YD gS h1 hw⟩,fun⟨A1,c1,A2,c2,he,h0,h1⟩=>by rw[he];rfl⟩
theorem zV:IK UO zQ:=⟨fun⟨A1,c1,lo1,hi1,A2,c2,lo2,hi2,he,h1,h2,r0,r1,r2⟩ hk=>⟨A1,c1,lo1,hi1,A2,c2,lo2,hi2,he,LH gS h1 (fun b b1 b2 b3=>hk b oM oM b3),LH gS h2 (fun b b1 b2 b3=>hk b oM oM b3),r0,r1,r2⟩,fun⟨A1,c1,lo1,hi1,A2,c2,lo2,hi2,he,h1,h2,r0,r1,r2⟩=>by rw[he];rfl,fun⟨A1,c1,lo1,hi1,A2,c2,lo2,hi2,he,h1,h2,r0,r1,r2⟩=>⟨A1,c1,A2,c2,he,YD gS (NH gS h1) (fun b hb _=>⟨by have:=hb.1;omega,by have:=hb.2;omega⟩),YD gS (NH gS h2) (fun b hb _=>⟨by have:=hb.1;omega,by have:=hb.2;omega⟩)⟩⟩
theorem wW{w:World}{l h:Nat}{z0:Int}{lo1 hi1 n1 c1:Nat}{A1:Option Addr}{y1:List QA}{lo2 hi2 n2 c2:Nat}{A2:Option Addr}{y2:List QA}(h1:lB w lo1 hi1 9 1 (RF JC) A1 n1 c1 y1)(h2:lB w lo2 hi2 9 1 (RF JC) A2 n2 c2 y2)(r0:(l≤lo1∧lo1≤hi1∧hi1≤h))(r1:(l≤lo2∧lo2≤hi2∧hi2≤h))(r2:(hi1≤lo2∨hi2≤lo1)):UO w l h [.int .i64 z0,.slice A1 n1 c1,.slice A2 n2 c2] ⟨z0,⟨y1⟩,⟨y2⟩⟩:=by
 obtain rfl:=h1.1;obtain rfl:=h2.1
 exact⟨A1,c1,lo1,hi1,A2,c2,lo2,hi2,rfl,h1,h2,r0,r1,r2⟩
structure vQ where
 Kind:Int
 Act:xL
 Idx:QA
 Low:QA
 High:QA
def pW:vQ:=⟨0,RQ,[],[],[]⟩
def gX(x:vQ):Prop:=zR x.Kind∧aU x.Act∧GM x.Idx∧GM x.Low∧GM x.High
def GV(x:vQ):Prop:=pP x.Act∧sE x.Idx∧sE x.Low∧sE x.High
theorem OW:GV pW:=⟨qR,pE,pE,pE⟩
def jU:qJ vQ:=fun w S cs x=>∃A1 c1 A2 c2,cs=[.int .i64 x.Kind,.int .i64 x.Act.Kind,.slice A1 x.Act.Old.Vals.length c1,.slice A2 x.Act.New.Vals.length c2,.string (bs x.Idx),.string (bs x.Low),.string (bs x.High)]∧IC w S (RF JC) 1 A1 x.Act.Old.Vals.length c1 x.Act.Old.Vals∧IC w S (RF JC) 1 A2 x.Act.New.Vals.length c2 x.Act.New.Vals
def JS:cJ vQ:=fun w l h cs x=>∃A1 c1 lo1 hi1 A2 c2 lo2 hi2,cs=[.int .i64 x.Kind,.int .i64 x.Act.Kind,.slice A1 x.Act.Old.Vals.length c1,.slice A2 x.Act.New.Vals.length c2,.string (bs x.Idx),.string (bs x.Low),.string (bs x.High)]∧lB w lo1 hi1 9 1 (RF JC) A1 x.Act.Old.Vals.length c1 x.Act.Old.Vals∧lB w lo2 hi2 9 1 (RF JC) A2 x.Act.New.Vals.length c2 x.Act.New.Vals∧(l≤lo1∧lo1≤hi1∧hi1≤h)∧(l≤lo2∧lo2≤hi2∧hi2≤h)∧(hi1≤lo2∨hi2≤lo1)
theorem KW:Gd jU:=⟨fun⟨A1,c1,A2,c2,he,h0,h1⟩ hk=>⟨A1,c1,A2,c2,he,OH gS h0 hk,OH gS h1 hk⟩,fun⟨A1,c1,A2,c2,he,h0,h1⟩ hw=>⟨A1,c1,A2,c2,he,YD gS h0 hw,YD gS h1 hw⟩,fun⟨A1,c1,A2,c2,he,h0,h1⟩=>by rw[he];rfl⟩
theorem rW:IK JS jU:=⟨fun⟨A1,c1,lo1,hi1,A2,c2,lo2,hi2,he,h1,h2,r0,r1,r2⟩ hk=>⟨A1,c1,lo1,hi1,A2,c2,lo2,hi2,he,LH gS h1 (fun b b1 b2 b3=>hk b oM oM b3),LH gS h2 (fun b b1 b2 b3=>hk b oM oM b3),r0,r1,r2⟩,fun⟨A1,c1,lo1,hi1,A2,c2,lo2,hi2,he,h1,h2,r0,r1,r2⟩=>by rw[he];rfl,fun⟨A1,c1,lo1,hi1,A2,c2,lo2,hi2,he,h1,h2,r0,r1,r2⟩=>⟨A1,c1,A2,c2,he,YD gS (NH gS h1) (fun b hb _=>⟨by have:=hb.1;omega,by have:=hb.2;omega⟩),YD gS (NH gS h2) (fun b hb _=>⟨by have:=hb.1;omega,by have:=hb.2;omega⟩)⟩⟩
theorem XW{w:World}{l h:Nat}{z0:Int}{z1:Int}{lo1 hi1 n1 c1:Nat}{A1:Option Addr}{y1:List QA}{lo2 hi2 n2 c2:Nat}{A2:Option Addr}{y2:List QA}{z4:QA}{z5:QA}{z6:QA}(h1:lB w lo1 hi1 9 1 (RF JC) A1 n1 c1 y1)(h2:lB w lo2 hi2 9 1 (RF JC) A2 n2 c2 y2)(r0:(l≤lo1∧lo1≤hi1∧hi1≤h))(r1:(l≤lo2∧lo2≤hi2∧hi2≤h))(r2:(hi1≤lo2∨hi2≤lo1)):JS w l h [.int .i64 z0,.int .i64 z1,.slice A1 n1 c1,.slice A2 n2 c2,.string (bs z4),.string (bs z5),.string (bs z6)] ⟨z0,⟨z1,⟨y1⟩,⟨y2⟩⟩,z4,z5,z6⟩:=by
 obtain rfl:=h1.1;obtain rfl:=h2.1
 exact⟨A1,c1,lo1,hi1,A2,c2,lo2,hi2,rfl,h1,h2,r0,r1,r2⟩
structure qK where
 lo:Int
 hi:Int
def mV:qK:=⟨0,0⟩
def aV(x:qK):Prop:=zR x.lo∧zR x.hi
def JO(x:qK):List Value:=[.int .u8 x.lo,.int .u8 x.hi]
theorem sT:Gd (RF JO):=EH fun _=>rfl
structure sJ where
 s:QA
def HO:sJ:=⟨[]⟩
def cV(x:sJ):Prop:=GM x.s
def gO(x:sJ):Prop:=sE x.s
theorem IT:gO HO:=pE
def LO(x:sJ):List Value:=[.string (bs x.s)]
theorem uT:Gd (RF LO):=EH fun _=>rfl
def GG:List EG:=[]
def iU:qJ (List EG):=fun w S cs x=>∃A1 c1,cs=[.slice A1 x.length c1]∧IC w S (RF PK) 4 A1 x.length c1 x
theorem qM:Gd iU:=⟨fun⟨A1,c1,he,h0⟩ hk=>⟨A1,c1,he,OH KE h0 hk⟩,fun⟨A1,c1,he,h0⟩ hw=>⟨A1,c1,he,YD KE h0 hw⟩,fun⟨A1,c1,he,h0⟩=>by rw[he];rfl⟩
theorem oR:WE YJ GG:=cE _
def UE(OA:List QA)(FB:Int)(k3:Nat):Int→nH Int Int | (x4)=>bif decide ((IntKind.wrap .i64 (x4-((OA.getD k3 uB).length:Int)))<0)then .ret (-1)else .cont (IntKind.wrap .i64 (x4-((OA.getD k3 uB).length:Int)))
def mE(OA:List QA)(FB:Int):Int:=bif decide ((IntKind.wrap .i64 (FB-(OA.length:Int)))<0)then -1 else OC (BA (UE OA FB) (OA.length-0) 0 (IntKind.wrap .i64 (FB-(OA.length:Int)))) (fun r=>r) (fun x4=>x4)
def TH(OA:zE)(FB:Int):Int:=bif decide ((IntKind.wrap .i64 (FB-(OA.Name.length:Int)))<0)then -1 else IntKind.wrap .i64 (FB-(OA.Name.length:Int))
def UG(OA:List zE)(FB:Int)(k3:Nat):Int→nH Int Int | (x4)=>bif decide ((TH (OA.getD k3 IA) x4)<0)then .ret (-1)else .cont ((TH (OA.getD k3 IA) x4))
def IH(OA:List zE)(FB:Int):Int:=bif decide ((IntKind.wrap .i64 (FB-(OA.length:Int)))<0)then -1 else OC (BA (UG OA FB) (OA.length-0) 0 (IntKind.wrap .i64 (FB-(OA.length:Int)))) (fun r=>r) (fun x4=>x4)
def VD(OA:BB)(FB:Int):Int:=bif decide ((IntKind.wrap .i64 (FB-(OA.Name.length:Int)))<0)then -1 else bif decide ((mE OA.Cols (IntKind.wrap .i64 (FB-(OA.Name.length:Int))))<0)then -1 else bif decide ((IH OA.Idxs (mE OA.Cols (IntKind.wrap .i64 (FB-(OA.Name.length:Int)))))<0)then -1 else(IH OA.Idxs (mE OA.Cols (IntKind.wrap .i64 (FB-(OA.Name.length:Int)))))
def KF(OA:dA)(FB:Int):Int:=bif decide ((IntKind.wrap .i64 (FB-(OA.Key.length:Int)))<0)then -1 else bif decide ((IntKind.wrap .i64 ((IntKind.wrap .i64 (FB-(OA.Key.length:Int)))-(OA.Val.length:Int)))<0)then -1 else IntKind.wrap .i64 ((IntKind.wrap .i64 (FB-(OA.Key.length:Int)))-(OA.Val.length:Int))
def SF(OA:List dA)(FB:Int)(k3:Nat):Int→nH Int Int | (x4)=>bif decide ((KF (OA.getD k3 lA) x4)<0)then .ret (-1)else .cont ((KF (OA.getD k3 lA) x4))
def RE(OA:List dA)(FB:Int):Int:=bif decide ((IntKind.wrap .i64 (FB-(OA.length:Int)))<0)then -1 else OC (BA (SF OA FB) (OA.length-0) 0 (IntKind.wrap .i64 (FB-(OA.length:Int)))) (fun r=>r) (fun x4=>x4)
def oH(OA:List QA)(k10:Nat):(List QA)→nH (List QA) (List QA) | (x18)=>.cont ((x18.set k10 (OA.getD k10 uB)))
def hN(OA:List QA):List QA:=OC (BA (oH OA) (OA.length-0) 0 ((List.replicate OA.length uB))) (fun r=>r) (fun x18=>x18)
def MS(OA:zE):zE:=OA
def qI(OA:List zE)(k10:Nat):(List zE)→nH (List zE) (List zE) | (x21)=>.cont ((x21.set k10 (OA.getD k10 IA)))
def jR(OA:List zE):List zE:=OC (BA (qI OA) (OA.length-0) 0 ((List.replicate OA.length IA))) (fun r=>r) (fun x21=>x21)
def iP(OA:BB):BB:=OA
def jP(OA:dA):dA:=OA
def BH(OA:List dA)(k10:Nat):(List dA)→nH (List dA) (List dA) | (x21)=>.cont ((x21.set k10 (OA.getD k10 lA)))
def cO(OA:List dA):List dA:=OC (BA (BH OA) (OA.length-0) 0 ((List.replicate OA.length lA))) (fun r=>r) (fun x21=>x21)
def dG(OA:dA)(LD:dA):Bool:=bif OA.Key==LD.Key then bif OA.Val==LD.Val then bif OA.Gone==LD.Gone then true else false else false else false
def PF(OA:List dA)(LD:List dA)(k4:Nat):Unit→nH Bool Unit | ()=>bif dG (OA.getD k4 lA) (LD.getD k4 lA)then .cont ()else .ret false
def QG(OA:List dA)(LD:List dA):Bool:=bif decide ((OA.length:Int)=(LD.length:Int))then OC (BA (PF OA LD) (OA.length-0) 0 ()) (fun r=>r) (fun _=>true)else false
def zF(OA:List QA)(LD:List QA)(k4:Nat):Unit→nH Bool Unit | ()=>bif(OA.getD k4 uB)==(LD.getD k4 uB)then .cont ()else .ret false
def ZG(OA:List QA)(LD:List QA):Bool:=bif decide ((OA.length:Int)=(LD.length:Int))then OC (BA (zF OA LD) (OA.length-0) 0 ()) (fun r=>r) (fun _=>true)else false
def AH(OA:zE)(LD:zE):Bool:=bif OA.Name==LD.Name then bif decide (OA.Col=LD.Col)then bif decide (OA.Stage=LD.Stage)then true else false else false else false
def TG(OA:List zE)(LD:List zE)(k4:Nat):Unit→nH Bool Unit | ()=>bif AH (OA.getD k4 IA) (LD.getD k4 IA)then .cont ()else .ret false
def CI(OA:List zE)(LD:List zE):Bool:=bif decide ((OA.length:Int)=(LD.length:Int))then OC (BA (TG OA LD) (OA.length-0) 0 ()) (fun r=>r) (fun _=>true)else false
def nG(OA:BB)(LD:BB):Bool:=bif OA.Name==LD.Name then bif ZG OA.Cols LD.Cols then bif CI OA.Idxs LD.Idxs then true else false else false else false
def wG(XE:Int):Int×QA→nH QA (Int×QA) | (x15,x16)=>bif decide (0<x15)then .cont (IntKind.wrap .i64 (Int.tdiv x15 10),(dU ([IntKind.wrap .u8 (IntKind.wrap .i64 (48+(Int.tmod x15 10)))]:List Int))++x16)else .brk (x15,x16)
def LB(XE:Int):QA:=bif decide (XE≤0)then([109,48]:QA)else OC (BE (wG XE) ((((XE).toNat+1) / 2)+1) (XE,([]:QA))) (fun r=>r) (fun(x15,x16)=>([109]:QA)++x16)
def QF(OA:List QA)(XE:Int)(k3:Nat):Int×(List QA)→nH (Int×(List QA)) (Int×(List QA)) | (x14,x15)=>.cont (IntKind.wrap .i64 (x14+1),(x15.set k3 (LB x14)))
def wD(OA:List QA)(XE:Int):Int×(List QA):=OC (BA (QF OA XE) (OA.length-0) 0 (XE,OA)) (fun r=>r) (fun(x14,x15)=>(x14,x15))
def cH(OA:List zE)(XE:Int)(k3:Nat):Int×(List zE)→nH (Int×(List zE)) (Int×(List zE)) | (x26,x27)=>.cont (IntKind.wrap .i64 ((IntKind.wrap .i64 ((IntKind.wrap .i64 (x26+1))+1))+1),(x27.set k3 (⟨(LB x26),IntKind.wrap .i64 (x26+1),IntKind.wrap .i64 ((IntKind.wrap .i64 (x26+1))+1)⟩:zE)))
def kF(OA:List zE)(XE:Int):Int×(List zE):=OC (BA (cH OA XE) (OA.length-0) 0 (XE,OA)) (fun r=>r) (fun(x26,x27)=>(x26,x27))
def WD(OA:BB)(XE:Int):Int×BB:=((kF OA.Idxs ((wD OA.Cols XE).1)).1,(⟨OA.Name,(wD OA.Cols XE).2,(kF OA.Idxs ((wD OA.Cols XE).1)).2⟩:BB))
def lG(OA:List dA)(XE:Int)(k3:Nat):Int×(List dA)→nH (Int×(List dA)) (Int×(List dA)) | (x29,x30)=>.cont (IntKind.wrap .i64 ((IntKind.wrap .i64 ((IntKind.wrap .i64 (x29+1))+1))+1),(x30.set k3 (⟨(LB x29),(LB (IntKind.wrap .i64 (x29+1))),decide ((Int.tmod (IntKind.wrap .i64 ((IntKind.wrap .i64 (x29+1))+1)) 3)=0)⟩:dA)))
def HC(OA:List dA)(XE:Int):Int×(List dA):=OC (BA (lG OA XE) (OA.length-0) 0 (XE,OA)) (fun r=>r) (fun(x29,x30)=>(x29,x30))
def QC(OA:List dA)(XE:Int)(k2:Nat):Int→nH Int Int | (x3)=>bif((OA.getD k2 lA).Key)==(LB x3)then bif((OA.getD k2 lA).Val)==(LB (IntKind.wrap .i64 (x3+1)))then bif((OA.getD k2 lA).Gone)==(decide ((Int.tmod (IntKind.wrap .i64 ((IntKind.wrap .i64 (x3+1))+1)) 3)=0))then .cont (IntKind.wrap .i64 ((IntKind.wrap .i64 ((IntKind.wrap .i64 (x3+1))+1))+1))else .ret (-1)else .ret (-1)else .ret (-1)
def MD(OA:List dA)(XE:Int):Int:=OC (BA (QC OA XE) (OA.length-0) 0 (XE)) (fun r=>r) (fun x3=>x3)
def YH(OA:ND)(FB:Int):Int:=bif decide ((IntKind.wrap .i64 (FB-(OA.Last.length:Int)))<0)then -1 else IntKind.wrap .i64 (FB-(OA.Last.length:Int))
def fD(AI:Int)(pS:Int)(KT:Int):Bool:=bif decide (pS≤AI)then decide (AI≤KT)else false
def zB(zA:QA)(XA:QA)(k3:Nat)(k6:Nat):Bool→nH Bool Bool | (x7)=>bif x7 then .cont (true)else .cont (decide (((zA.getD k3 0).toNat:Int)=((XA.getD k6 0).toNat:Int)))
def cC(zA:QA)(XA:QA)(k3:Nat):Unit→nH Bool Unit | ()=>bif decide (97≤((zA.getD k3 0).toNat:Int))then bif decide (((zA.getD k3 0).toNat:Int)≤122)then OC (BA (zB zA XA k3) (XA.length-0) 0 (true)) (fun r=>nH.ret r) (fun x7=>bif x7 then .cont ()else .ret false)else bif decide (48≤((zA.getD k3 0).toNat:Int))then OC (BA (zB zA XA k3) (XA.length-0) 0 (decide (((zA.getD k3 0).toNat:Int)≤57))) (fun r=>nH.ret r) (fun x12=>bif x12 then .cont ()else .ret false)else OC (BA (zB zA XA k3) (XA.length-0) 0 (false)) (fun r=>nH.ret r) (fun x15=>bif x15 then .cont ()else .ret false)else bif decide (48≤((zA.getD k3 0).toNat:Int))then OC (BA (zB zA XA k3) (XA.length-0) 0 (decide (((zA.getD k3 0).toNat:Int)≤57))) (fun r=>nH.ret r) (fun x19=>bif x19 then .cont ()else .ret false)else OC (BA (zB zA XA k3) (XA.length-0) 0 (false)) (fun r=>nH.ret r) (fun x22=>bif x22 then .cont ()else .ret false)
def sF(zA:QA)(XA:QA):Bool:=OC (BA (cC zA XA) (zA.length-0) 0 ()) (fun r=>r) (fun _=>true)
def fE(zA:QA):Bool:=bif fD (zA.length:Int) 1 12 then(sF zA ([46,47]:QA))else false
def mH(zA:QA):Bool:=bif decide ((zA.length:Int)≤24)then(sF zA ([46,45,44,95]:QA))else false
def kD(VA:QA)(mD:QA)(eI:Bool):Bool:=bif fE VA then bif mH mD then bif eI then mD==([]:QA)else true else false else false
def JD(cB:List dA)(k3:Nat):Unit→nH Bool Unit | ()=>bif kD ((cB.getD k3 lA).Key) ((cB.getD k3 lA).Val) ((cB.getD k3 lA).Gone)then bif decide (0<(k3:Int))then bif aI ((cB.getD ((IntKind.wrap .i64 ((k3:Int)-1)).toNat) lA).Key) ((cB.getD k3 lA).Key)then .cont ()else .ret false else .cont ()else .ret false
def TE(cB:List dA):Bool:=OC (BA (JD cB) (cB.length-0) 0 ()) (fun r=>r) (fun _=>decide ((cB.length:Int)≤24))
def sG(cB:List dA)(k3:Nat):Unit→nH Bool Unit | ()=>bif(cB.getD k3 lA).Gone then .ret false else .cont ()
def lC(cB:List dA):Bool:=OC (BA (sG cB) (cB.length-0) 0 ()) (fun r=>r) (fun _=>(TE cB))
def HD(zA:QA)(xE:Int)(k2:Nat):Unit→nH Bool Unit | ()=>bif decide (((zA.getD k2 0).toNat:Int)<97)then .ret false else bif decide (122<((zA.getD k2 0).toNat:Int))then .ret false else .cont ()
def DB(zA:QA)(xE:Int):Bool:=OC (BA (HD zA xE) (zA.length-0) 0 ()) (fun r=>r) (fun _=>bif decide (1≤(zA.length:Int))then decide ((zA.length:Int)≤xE)else false)
def rH(cB:List QA)(zA:QA)(k4:Nat):Unit→nH Int Unit | ()=>bif(cB.getD k4 uB)==zA then .ret (k4:Int)else .cont ()
def zJ(cB:List QA)(zA:QA):Int:=OC (BA (rH cB zA) (cB.length-0) 0 ()) (fun r=>r) (fun _=>-1)
def EE(cB:List QA)(k3:Nat):Unit→nH Bool Unit | ()=>bif DB (cB.getD k3 uB) 3 then bif decide (0≤(zJ (cB.take k3) (cB.getD k3 uB)))then .ret false else .cont ()else .ret false
def bH(cB:List QA):Bool:=OC (BA (EE cB) (cB.length-0) 0 ()) (fun r=>r) (fun _=>(fD (cB.length:Int) 2 4))
def mC(DA:BB)(k19:Nat):Unit→nH Bool Unit | ()=>bif DB ((DA.Idxs.getD k19 IA).Name) 1 then bif fD ((DA.Idxs.getD k19 IA).Col) 1 (IntKind.wrap .i64 ((DA.Cols.length:Int)-1))then bif fD ((DA.Idxs.getD k19 IA).Stage) 0 3 then bif decide (0<(k19:Int))then bif aI ((DA.Idxs.getD ((IntKind.wrap .i64 ((k19:Int)-1)).toNat) IA).Name) ((DA.Idxs.getD k19 IA).Name)then .cont ()else .ret false else .cont ()else .ret false else .ret false else .ret false
def zC(DA:BB):Bool:=bif DB DA.Name 1 then bif bH DA.Cols then bif decide (3<(DA.Idxs.length:Int))then false else OC (BA (mC DA) (DA.Idxs.length-0) 0 ()) (fun r=>r) (fun _=>true)else false else false
def VG(rB:BB)(pn:QA)(k11:Nat):Unit→nH Int Unit | ()=>bif((rB.Idxs.getD k11 IA).Name)==pn then .ret (k11:Int)else .cont ()
def uE(rB:BB)(pn:QA):Int:=OC (BA (VG rB pn) (rB.Idxs.length-0) 0 ()) (fun r=>r) (fun _=>-1)
def lF(rB:BB)(pn:QA)(ps:List dA):Bool:=bif zC rB then bif decide (0≤(uE rB pn))then(lC ps)else false else false
def lH(bC:ND):Bool:=bif bC.Last==([]:QA)then true else(fE bC.Last)
def PI(AI:Int):Bool:=(fD AI 1 24)
def XD(qF:EG):Bool:=bif fE qF.Key then bif decide (qF.Kind=2)then bif mH qF.Val then decide (qF.By=0)else false else bif decide (qF.Kind=7)then bif mH qF.Val then decide (qF.By=0)else false else bif decide (qF.Kind=4)then bif qF.Val==([]:QA)then(fD qF.By (-9999) 9999)else false else bif decide (qF.Kind=5)then bif qF.Val==([]:QA)then(fD qF.By (-9999) 9999)else false else bif decide (qF.Kind=1)then bif qF.Val==([]:QA)then decide (qF.By=0)else false else bif decide (qF.Kind=3)then bif qF.Val==([]:QA)then decide (qF.By=0)else false else bif decide (qF.Kind=6)then bif qF.Val==([]:QA)then decide (qF.By=0)else false else false else false
def rG(cB:List EG)(k3:Nat):Unit→nH Bool Unit | ()=>bif XD (cB.getD k3 CB)then .cont ()else .ret false
def DG(cB:List EG):Bool:=OC (BA (rG cB) (cB.length-0) 0 ()) (fun r=>r) (fun _=>decide ((cB.length:Int)≤8))
def aF(cB:List dA)(oD:dA):Int→nH (List dA) Int | (x11)=>bif decide (0<x11)then bif pI ((cB.getD ((IntKind.wrap .i64 (x11-1)).toNat) lA).Key) oD.Key then .brk (x11)else .cont (IntKind.wrap .i64 (x11-1))else .brk (x11)
def FC(cB:List dA)(oD:dA):List dA:=OC (BE (aF cB oD) ((((cB.length:Int)).toNat)+1) ((cB.length:Int))) (fun r=>r) (fun x11=>bif decide (0<x11)then bif((cB.getD ((IntKind.wrap .i64 (x11-1)).toNat) lA).Key)==oD.Key then((([]:List dA)++cB).set ((IntKind.wrap .i64 (x11-1)).toNat) oD)else(((([]:List dA)++(cB.take ((x11).toNat)))++([oD]:List dA))++(([]:List dA)++(cB.drop ((x11).toNat))))else(((([]:List dA)++(cB.take ((x11).toNat)))++([oD]:List dA))++(([]:List dA)++(cB.drop ((x11).toNat)))))
def OE(jE:List dA)(jC:List ED)(VA:QA)(k6:Nat):Unit→nH (QA×Bool×Bool) Unit | ()=>bif((jE.getD k6 lA).Key)==VA then .ret ((jE.getD k6 lA).Val,!((jE.getD k6 lA).Gone),true)else .cont ()
def vF(jE:List dA)(jC:List ED)(VA:QA)(k29:Nat):Unit→nH (QA×Bool×Bool) Unit | ()=>bif((jC.getD k29 XF).Key)==VA then .ret ((jC.getD k29 XF).Val,(jC.getD k29 XF).There,true)else .cont ()
def pB(jE:List dA)(jC:List ED)(VA:QA):QA×Bool×Bool:=OC (BA (OE jE jC VA) (jE.length-0) 0 ()) (fun r=>r) (fun _=>OC (BA (vF jE jC VA) (jC.length-0) 0 ()) (fun r=>r) (fun _=>(([]:QA),false,false)))
def UC(zA:QA)(k8:Nat):Int→nH Int Int | (x9)=>bif decide (((zA.getD k8 0).toNat:Int)<48)then .ret (-1)else bif decide (57<((zA.getD k8 0).toNat:Int))then .ret (-1)else .cont (IntKind.wrap .i64 ((IntKind.wrap .i64 (10*x9))+(IntKind.wrap .i64 (IntKind.wrap .u8 (((zA.getD k8 0).toNat:Int)-48)))))
def kE(zA:QA):Int:=bif fD (zA.length:Int) 1 6 then bif decide (((zA.getD 0 0).toNat:Int)=48)then bif decide (1<(zA.length:Int))then -1 else OC (BA (UC zA) (zA.length-0) 0 (0)) (fun r=>r) (fun x9=>x9)else OC (BA (UC zA) (zA.length-0) 0 (0)) (fun r=>r) (fun x13=>x13)else -1
def iE(zA:QA):Int×Bool:=bif decide (0<(zA.length:Int))then bif decide (((zA.getD 0 0).toNat:Int)=45)then bif decide ((kE (zA.drop 1))<0)then(0,false)else bif decide ((kE (zA.drop 1))=0)then(0,false)else(IntKind.wrap .i64 (0-(kE (zA.drop 1))),true)else bif decide ((kE zA)<0)then(0,false)else((kE zA),true)else bif decide ((kE zA)<0)then(0,false)else((kE zA),true)
def SC(qF:EG)(mD:QA)(xD:Bool):Bool:=bif decide (qF.Kind=4)then bif xD then bif(iE mD).2 then !(fD (IntKind.wrap .i64 (((iE mD).1)+qF.By)) (-999999) 999999)else true else false else bif decide (qF.Kind=5)then bif xD then bif(iE mD).2 then decide (((iE mD).1)<qF.By)else true else true else bif decide (qF.Kind=6)then xD else bif decide (qF.Kind=7)then bif xD then !(mD==qF.Val)else true else false
def aJ(AI:Int):QA:=dU ([IntKind.wrap .u8 (IntKind.wrap .i64 (48+AI))]:List Int)
def eF(AI:Int):QA:=bif decide (AI<0)then([45]:QA)++(aJ (IntKind.wrap .i64 (0-AI)))else(aJ AI)
def UB(DA:List EG)(WB:List ED)(k5:Nat):(List dA)→nH (Int×QA×(List dA)) (List dA) | (x174)=>bif(pB x174 WB ((DA.getD k5 CB).Key)).2.2 then bif SC (DA.getD k5 CB) ((pB x174 WB ((DA.getD k5 CB).Key)).1) ((pB x174 WB ((DA.getD k5 CB).Key)).2.1)then .ret (2,([]:QA),([]:List dA))else bif decide (((DA.getD k5 CB).Kind)=2)then .cont ((FC x174 (⟨(DA.getD k5 CB).Key,(DA.getD k5 CB).Val,false⟩:dA)))else bif decide (((DA.getD k5 CB).Kind)=3)then .cont ((FC x174 (⟨(DA.getD k5 CB).Key,([]:QA),true⟩:dA)))else bif decide (((DA.getD k5 CB).Kind)=4)then bif(pB x174 WB ((DA.getD k5 CB).Key)).2.1 then .cont ((FC x174 (⟨(DA.getD k5 CB).Key,(eF (IntKind.wrap .i64 (((iE ((pB x174 WB ((DA.getD k5 CB).Key)).1)).1)+((DA.getD k5 CB).By)))),false⟩:dA)))else .cont ((FC x174 (⟨(DA.getD k5 CB).Key,(eF (IntKind.wrap .i64 (0+((DA.getD k5 CB).By)))),false⟩:dA)))else .cont (x174)else bif decide (((DA.getD k5 CB).Kind)=2)then bif SC (DA.getD k5 CB) ((pB x174 WB ((DA.getD k5 CB).Key)).1) ((pB x174 WB ((DA.getD k5 CB).Key)).2.1)then .ret (2,([]:QA),([]:List dA))else .cont ((FC x174 (⟨(DA.getD k5 CB).Key,(DA.getD k5 CB).Val,false⟩:dA)))else bif decide (((DA.getD k5 CB).Kind)=3)then bif SC (DA.getD k5 CB) ((pB x174 WB ((DA.getD k5 CB).Key)).1) ((pB x174 WB ((DA.getD k5 CB).Key)).2.1)then .ret (2,([]:QA),([]:List dA))else .cont ((FC x174 (⟨(DA.getD k5 CB).Key,([]:QA),true⟩:dA)))else .ret (1,(DA.getD k5 CB).Key,([]:List dA))
def BC(DA:List EG)(WB:List ED):Int×QA×(List dA):=OC (BA (UB DA WB) (DA.length-0) 0 (([]:List dA))) (fun r=>r) (fun x174=>(3,([]:QA),x174))
def TF(HA:List dA)(VA:QA)(k10:Nat):Unit→nH ED Unit | ()=>bif((HA.getD k10 lA).Key)==VA then .ret (⟨VA,(HA.getD k10 lA).Val,true⟩:ED)else .cont ()
def DE(HA:List dA)(VA:QA):ED:=OC (BA (TF HA VA) (HA.length-0) 0 ()) (fun r=>r) (fun _=>(⟨VA,([]:QA),false⟩:ED))
def VE(HA:List dA)(cB:List EG):(List ED)→nH ((List ED)×(List dA)×Bool) (List ED) | (x38)=>bif decide (((BC cB x38).1)=1)then .cont ((x38++([(DE HA ((BC cB x38).2.1))]:List ED)))else .ret (x38,(BC cB x38).2.2,decide (((BC cB x38).1)=3))
def OB(HA:List dA)(cB:List EG):(List ED)×(List dA)×Bool:=OC (BE (VE HA cB) (((cB.filter fun o=>!(([]:List ED).any fun g=>g.Key==o.Key)).length)+1) (([]:List ED))) (fun r=>r) (fun x38=>(([]:List ED),([]:List dA),false))
def LG(HA:List dA)(oD:List dA)(k26:Nat):(List dA)→nH (List dA) (List dA) | (x65)=>.cont ((FC x65 (oD.getD k26 lA)))
def AF(HA:List dA)(oD:List dA)(x65:List dA)(k88:Nat):(List dA)→nH (List dA) (List dA) | (x145)=>bif(x65.getD k88 lA).Gone then .cont (x145)else .cont ((x145++([(x65.getD k88 lA)]:List dA)))
def HB(HA:List dA)(oD:List dA):List dA:=OC (BA (LG HA oD) (oD.length-0) 0 ((([]:List dA)++HA))) (fun r=>r) (fun x65=>OC (BA (AF HA oD x65) (x65.length-0) 0 (([]:List dA))) (fun r=>r) (fun x145=>x145))
def ID(DA:List dA)(WB:List (List EG))(k10:Nat):Unit→nH ((List dA)×(List Bool)×Bool) Unit | ()=>bif DG (WB.getD k10 GG)then .cont ()else .ret (([]:List dA),([]:List Bool),false)
def DD(DA:List dA)(WB:List (List EG))(k38:Nat):(List dA)×(List Bool)→nH ((List dA)×(List Bool)×Bool) ((List dA)×(List Bool)) | (x119,x124)=>bif(OB x119 (WB.getD k38 GG)).2.2 then bif lC (HB x119 ((OB x119 (WB.getD k38 GG)).2.1))then .cont ((HB x119 ((OB x119 (WB.getD k38 GG)).2.1)),(x124++([(lC (HB x119 ((OB x119 (WB.getD k38 GG)).2.1)))]:List Bool)))else .cont (x119,(x124++([(lC (HB x119 ((OB x119 (WB.getD k38 GG)).2.1)))]:List Bool)))else .cont (x119,(x124++([false]:List Bool)))
def NB(DA:List dA)(WB:List (List EG)):(List dA)×(List Bool)×Bool:=bif lC DA then bif decide (20<(WB.length:Int))then(([]:List dA),([]:List Bool),false)else OC (BA (ID DA WB) (WB.length-0) 0 ()) (fun r=>r) (fun _=>OC (BA (DD DA WB) (WB.length-0) 0 ((([]:List dA)++DA),([]:List Bool))) (fun r=>r) (fun(x119,x124)=>(x119,x124,true)))else(([]:List dA),([]:List Bool),false)
def uG(ps:List dA)(PD:List EG):(List dA)×Bool:=bif decide ((((NB ps ([PD]:List (List EG))).2.1).length:Int)=1)then((NB ps ([PD]:List (List EG))).1,(((NB ps ([PD]:List (List EG))).2.1).getD 0 QN))else((NB ps ([PD]:List (List EG))).1,false)
def uF(zA:QA)(LD:Int)(k2:Nat):(List QA)×Int→nH (List QA) ((List QA)×Int) | (x20,x24)=>bif decide (((zA.getD k2 0).toNat:Int)=LD)then .cont ((x20++([((zA.take k2).drop ((x24).toNat))]:List QA)),((k2+1:Nat):Int))else .cont (x20,x24)
def iC(zA:QA)(LD:Int):List QA:=OC (BA (uF zA LD) (zA.length-0) 0 (([]:List QA),0)) (fun r=>r) (fun(x20,x24)=>(x20++([(zA.drop ((x24).toNat))]:List QA)))
def GF(zA:QA):Bool:=bif fD (zA.length:Int) 1 3 then(sF zA ([]:QA))else false
def LC(rB:BB)(pn:QA)(VA:QA):QA×QA×Bool:=bif decide (((iC VA 47).length:Int)=3)then bif((iC VA 47).getD 0 uB)==((rB.Name++([46]:QA))++pn)then bif GF ((iC VA 47).getD 1 uB)then bif GF ((iC VA 47).getD 2 uB)then(((iC VA 47).getD 1 uB),((iC VA 47).getD 2 uB),true)else(([]:QA),([]:QA),false)else(([]:QA),([]:QA),false)else(([]:QA),([]:QA),false)else(([]:QA),([]:QA),false)
def UD(rB:BB)(pn:QA)(ps:List dA)(k13:Nat):(List QA)→nH (List QA) (List QA) | (x75)=>bif(LC rB pn ((ps.getD k13 lA).Key)).2.2 then .cont ((x75++([(ps.getD k13 lA).Key]:List QA)))else .cont (x75)
def TA(rB:BB)(pn:QA)(ps:List dA):List QA:=OC (BA (UD rB pn ps) (ps.length-0) 0 (([]:List QA))) (fun r=>r) (fun x75=>x75)
def OF(rC:List QA)(UH:QA)(k4:Nat):Unit→nH Bool Unit | ()=>bif pI (rC.getD k4 uB) UH then .cont ()else .ret true
def pG(rC:List QA)(UH:QA):Bool:=OC (BA (OF rC UH) (rC.length-0) 0 ()) (fun r=>r) (fun _=>false)
def NE(rB:BB)(pn:QA)(ps:List dA)(bC:ND)(jB:Int)(k53:Nat):Int×(List dA)×QA→nH ((List dA)×ND) (Int×(List dA)×QA) | (x104,x105,x110)=>bif decide (x104=0)then .cont (x104,x105,x110)else bif pI ((TA rB pn ps).getD k53 uB) x110 then .cont (x104,x105,x110)else .cont (IntKind.wrap .i64 (x104-1),(uG x105 ([(⟨3,((TA rB pn ps).getD k53 uB),([]:QA),0⟩:EG)]:List EG)).1,((TA rB pn ps).getD k53 uB))
def rD(rB:BB)(pn:QA)(ps:List dA)(bC:ND)(jB:Int):(List dA)×ND:=OC (BA (NE rB pn ps bC jB) ((TA rB pn ps).length-0) 0 (jB,(([]:List dA)++ps),bC.Last)) (fun r=>r) (fun(x104,x105,x110)=>bif bC.Over then(x105,(⟨x110,true⟩:ND))else(x105,(⟨x110,!(pG (TA rB pn x105) x110)⟩:ND)))
def dB(rB:BB)(pn:QA)(ps:List dA)(bC:ND)(jB:Int):(List dA)×ND×Bool:=bif lF rB pn ps then bif lH bC then bif PI jB then((rD rB pn ps bC jB).1,(rD rB pn ps bC jB).2,true)else(([]:List dA),(⟨([]:QA),false⟩:ND),false)else(([]:List dA),(⟨([]:QA),false⟩:ND),false)else(([]:List dA),(⟨([]:QA),false⟩:ND),false)
def iR(OA:ND):ND:=OA
def NC(zA:List dA)(bC:dA→Bool)(k7:Nat):Unit→nH Int Unit | ()=>bif bC (zA.getD k7 lA)then .ret (k7:Int)else .cont ()
def bD(zA:List dA)(bC:dA→Bool):Int:=OC (BA (NC zA bC) (zA.length-0) 0 ()) (fun r=>r) (fun _=>-1)
def dE(zA:List dA)(bC:dA→Bool):Bool:=decide (0≤(bD zA bC))
def AC(AI:Int)(mK:Int)(pJ:Int):Bool:=bif decide (mK≤AI)then decide (AI≤pJ)else false
def iD(LD:Int):Bool:=bif decide (97≤LD)then bif decide (LD≤122)then true else bif decide (48≤LD)then decide (LD≤57)else false else bif decide (48≤LD)then decide (LD≤57)else false
def eD(zA:QA)(QS:Int):Int:=yT zA QS
def cG(zA:QA)(QS:Int):Int:=(eD zA QS)
def AE(zA:QA)(MF:QA)(k3:Nat):Unit→nH Bool Unit | ()=>bif iD ((zA.getD k3 0).toNat:Int)then .cont ()else bif decide ((cG MF ((zA.getD k3 0).toNat:Int))<0)then .ret false else .cont ()
def vH(zA:QA)(MF:QA):Bool:=OC (BA (AE zA MF) (zA.length-0) 0 ()) (fun r=>r) (fun _=>true)
def bI(zA:QA):Bool:=bif AC (zA.length:Int) 1 12 then(vH zA ([46,47]:QA))else false
def CD(rC:List QA)(k3:Nat):Unit→nH Bool Unit | ()=>bif bI (rC.getD k3 uB)then bif decide (0<(k3:Int))then bif pI (rC.getD k3 uB) (rC.getD ((IntKind.wrap .i64 ((k3:Int)-1)).toNat) uB)then .ret false else .cont ()else .cont ()else .ret false
def AG(rC:List QA):Bool:=OC (BA (CD rC) (rC.length-0) 0 ()) (fun r=>r) (fun _=>true)
def KG(cB:List dA)(k10:Nat):(List QA)→nH (List QA) (List QA) | (x60)=>.cont ((x60++([(cB.getD k10 lA).Key]:List QA)))
def BG(cB:List dA):List QA:=OC (BA (KG cB) (cB.length-0) 0 (([]:List QA))) (fun r=>r) (fun x60=>x60)
def tI(zA:QA):Bool:=bif decide ((zA.length:Int)≤24)then(vH zA ([46,45,44,95]:QA))else false
def FF(mD:QA)(eI:Bool):Bool:=bif tI mD then bif eI then !(!(mD==([]:QA)))else !false else false
def PG(oD:dA):Bool:=!(FF oD.Val oD.Gone)
def YF(cB:List dA):Bool:=bif decide ((cB.length:Int)≤24)then bif AG (BG cB)then !(dE cB (fun y0=>PG y0))else false else false
def hJ(oD:dA):Bool:=oD.Gone
def HH(HA:List dA):Bool:=bif YF HA then !(dE HA (fun y0=>hJ y0))else false
def TD(zA:QA)(xE:Int)(k2:Nat):Unit→nH Bool Unit | ()=>bif decide (((zA.getD k2 0).toNat:Int)<97)then .ret false else bif decide (122<((zA.getD k2 0).toNat:Int))then .ret false else .cont ()
def oC(zA:QA)(xE:Int):Bool:=OC (BA (TD zA xE) (zA.length-0) 0 ()) (fun r=>r) (fun _=>(AC (zA.length:Int) 1 xE))
def nD(zA:List QA)(TM:QA)(k4:Nat):Unit→nH Int Unit | ()=>bif TM==(zA.getD k4 uB)then .ret (k4:Int)else .cont ()
def pF(zA:List QA)(TM:QA):Int:=OC (BA (nD zA TM) (zA.length-0) 0 ()) (fun r=>r) (fun _=>-1)
def FE(zA:List QA)(TM:QA):Bool:=decide (0≤(pF zA TM))
def bF(DL:Int):Bool:=(AC DL 0 3)
def SD(DA:BB)(k19:Nat):Unit→nH Bool Unit | ()=>bif oC (DA.Cols.getD k19 uB) 3 then bif FE (DA.Cols.take k19) (DA.Cols.getD k19 uB)then .ret false else .cont ()else .ret false
def vC(DA:BB)(k35:Nat):Unit→nH Bool Unit | ()=>bif oC ((DA.Idxs.getD k35 IA).Name) 1 then bif AC ((DA.Idxs.getD k35 IA).Col) 1 (IntKind.wrap .i64 ((DA.Cols.length:Int)-1))then bif bF ((DA.Idxs.getD k35 IA).Stage)then bif decide (0<(k35:Int))then bif pI ((DA.Idxs.getD k35 IA).Name) ((DA.Idxs.getD ((IntKind.wrap .i64 ((k35:Int)-1)).toNat) IA).Name)then .ret false else .cont ()else .cont ()else .ret false else .ret false else .ret false
def ZC(DA:BB):Bool:=bif oC DA.Name 1 then bif AC (DA.Cols.length:Int) 2 4 then bif decide (3<(DA.Idxs.length:Int))then false else OC (BA (SD DA) (DA.Cols.length-0) 0 ()) (fun r=>r) (fun _=>OC (BA (vC DA) (DA.Idxs.length-0) 0 ()) (fun r=>r) (fun _=>true))else false else false
def dD(zA:List zE)(bC:zE→Bool)(k7:Nat):Unit→nH Int Unit | ()=>bif bC (zA.getD k7 IA)then .ret (k7:Int)else .cont ()
def vE(zA:List zE)(bC:zE→Bool):Int:=OC (BA (dD zA bC) (zA.length-0) 0 ()) (fun r=>r) (fun _=>-1)
def aE(rF:zE)(yI:QA):Bool:=rF.Name==yI
def vD(rB:BB)(pn:QA):Int:=(vE rB.Idxs (fun y0=>aE y0 pn))
def IF(rB:BB)(pn:QA):Bool:=bif ZC rB then decide (0≤(vD rB pn))else false
def CF(rB:BB)(pn:QA)(ps:List dA):Bool:=bif IF rB pn then(HH ps)else false
def uH(bC:ND):Bool:=bif bC.Last==([]:QA)then true else(bI bC.Last)
def PE(rB:BB)(pn:QA)(ps:List dA)(bC:ND)(jB:Int):Bool:=bif CF rB pn ps then bif uH bC then(AC jB 1 24)else false else false
def tB(rF:List dA)(dF:QA)(jJ:dA→QA→Int):Int×Int→nH (Int×Bool) (Int×Int) | (x9,x10)=>bif decide (x9<x10)then bif decide ((jJ (rF.getD ((IntKind.wrap .i64 (Int.fdiv (IntKind.wrap .u64 (IntKind.wrap .i64 (x9+x10))) 2)).toNat) lA) dF)<0)then .cont (IntKind.wrap .i64 ((IntKind.wrap .i64 (Int.fdiv (IntKind.wrap .u64 (IntKind.wrap .i64 (x9+x10))) 2))+1),x10)else .cont (x9,IntKind.wrap .i64 (Int.fdiv (IntKind.wrap .u64 (IntKind.wrap .i64 (x9+x10))) 2))else .brk (x9,x10)
def wB(rF:List dA)(dF:QA)(jJ:dA→QA→Int):Int×Bool:=OC (BE (tB rF dF jJ) ((((rF.length:Int)-0).toNat)+1) (0,(rF.length:Int))) (fun r=>r) (fun(x9,x10)=>bif decide (x9<(rF.length:Int))then(x9,decide ((jJ (rF.getD ((x9).toNat) lA) dF)=0))else(x9,false))
def ZD(rF:QA):Bool:=!(rF==rF)
def uC(rF:QA)(OO:QA):Int:=bif ZD rF then bif ZD OO then 0 else -1 else bif ZD OO then 1 else bif aI rF OO then -1 else bif pI rF OO then 0 else 1
def kH(oD:dA)(VA:QA):Int:=(uC oD.Key VA)
def KB(cB:List dA)(VA:QA):Int×Bool:=((wB cB VA (fun y0 y1=>kH y0 y1)).1,(wB cB VA (fun y0 y1=>kH y0 y1)).2)
def XH(zA:List dA)(aH:Nat)(rF:dA):List dA:=zA.take aH++rF::zA.drop aH
def fG(zA:List dA)(aH:Int)(rF:dA):List dA:=XH zA aH.toNat rF
def GD(cB:List dA)(oD:dA):List dA:=bif(KB cB oD.Key).2 then(cB.set (((KB cB oD.Key).1).toNat) oD)else(fG cB ((KB cB oD.Key).1) oD)
def NF(VA:QA)(CC:List dA)(jC:List ED)(k12:Nat):Unit→nH (QA×Bool×Bool) Unit | ()=>bif((jC.getD k12 XF).Key)==VA then .ret ((jC.getD k12 XF).Val,(jC.getD k12 XF).There,true)else .cont ()
def qD(VA:QA)(CC:List dA)(jC:List ED):QA×Bool×Bool:=bif(KB CC VA).2 then((CC.getD (((KB CC VA).1).toNat) lA).Val,!((CC.getD (((KB CC VA).1).toNat) lA).Gone),true)else OC (BA (NF VA CC jC) (jC.length-0) 0 ()) (fun r=>r) (fun _=>(([]:QA),false,false))
def jF(zA:QA):Int×Bool:=match Go.Lib.atoiAll zA with
 | .ok n=>bif AC n (-999999) 999999&&(Go.Lib.itoa n==zA)then(n,true)else(0,false)
 | _=>(0,false)
def lD(qF:EG)(mD:QA)(xD:Bool):Bool:=bif decide (qF.Kind=4)then bif xD then bif(jF mD).2 then(AC (IntKind.wrap .i64 (((jF mD).1)+qF.By)) (-999999) 999999)else false else true else bif decide (qF.Kind=5)then bif xD then bif(jF mD).2 then decide (qF.By≤((jF mD).1))else false else false else bif decide (qF.Kind=6)then !xD else bif decide (qF.Kind=7)then bif xD then mD==qF.Val else false else true
def kL(aH:Int):QA:=[(48+aH).toNat.toUInt8]
def xC(DA:List EG)(WB:List ED)(k12:Nat):(List dA)→nH (Int×QA×(List dA)) (List dA) | (x86)=>bif decide (((DA.getD k12 CB).Kind)=2)then .cont ((GD x86 (⟨(DA.getD k12 CB).Key,(DA.getD k12 CB).Val,false⟩:dA)))else bif decide (((DA.getD k12 CB).Kind)=3)then .cont ((GD x86 (⟨(DA.getD k12 CB).Key,([]:QA),true⟩:dA)))else bif(qD ((DA.getD k12 CB).Key) x86 WB).2.2 then bif lD (DA.getD k12 CB) ((qD ((DA.getD k12 CB).Key) x86 WB).1) ((qD ((DA.getD k12 CB).Key) x86 WB).2.1)then .cont (x86)else .ret (2,([]:QA),([]:List dA))else .ret (1,(DA.getD k12 CB).Key,([]:List dA))
def qC(DA:List EG)(WB:List ED):Int×QA×(List dA):=OC (BA (xC DA WB) (DA.length-0) 0 (([]:List dA))) (fun r=>r) (fun x86=>(3,([]:QA),x86))
def BF(HA:List dA)(VA:QA):ED:=bif(KB HA VA).2 then(⟨VA,(HA.getD (((KB HA VA).1).toNat) lA).Val,true⟩:ED)else(⟨VA,([]:QA),false⟩:ED)
def tF(HA:List dA)(cB:List EG):(List ED)→nH ((List ED)×(List dA)×Bool) (List ED) | (x45)=>bif decide (((qC cB x45).1)=1)then .cont ((x45++([(BF HA ((qC cB x45).2.1))]:List ED)))else .ret (x45,(qC cB x45).2.2,decide (((qC cB x45).1)=3))
def QD(HA:List dA)(cB:List EG):(List ED)×(List dA)×Bool:=OC (BE (tF HA cB) (((cB.filter fun o=>!((([]:List ED):List ED).any fun g=>g.Key==o.Key)).length)+1) (([]:List ED))) (fun r=>r) (fun x45=>(([]:List ED),([]:List dA),false))
def NA(zA:List dA):List dA:=(([]:List dA)++zA)
def wC(zA:List dA)(bC:dA→Bool):List dA:=zA.filter fun y=>!bC y
def WG(rF:dA):Bool:=rF.Gone
def sH(HA:List dA)(oD:List dA)(k12:Nat):(List dA)→nH ((List dA)×Bool) (List dA) | (x48)=>.cont ((GD x48 (oD.getD k12 lA)))
def JF(HA:List dA)(oD:List dA):(List dA)×Bool:=OC (BA (sH HA oD) (oD.length-0) 0 ((NA HA))) (fun r=>r) (fun x48=>bif decide (24<((wC x48 (fun y0=>WG y0)).length:Int))then(([]:List dA),false)else((wC x48 (fun y0=>WG y0)),true))
def QE(ps:List dA)(PD:List EG):(List dA)×Bool:=bif(QD ps PD).2.2 then bif(JF ps ((QD ps PD).2.1)).2 then((JF ps ((QD ps PD).2.1)).1,true)else((([]:List dA)++ps),false)else((([]:List dA)++ps),false)
def TC(zA:List rE)(bC:rE→Bool)(k8:Nat):Unit→nH Int Unit | ()=>bif bC (zA.getD k8 yG)then .ret (k8:Int)else .cont ()
def BD(zA:List rE)(bC:rE→Bool):Int:=OC (BA (TC zA bC) (zA.length-0) 0 ()) (fun r=>r) (fun _=>-1)
def vA(zA:List rE)(bC:rE→Bool):List rE:=zA.filter fun y=>!bC y
def MA(zA:List rE):List rE:=(([]:List rE)++zA)
def aC(XE:rE)(yI:ND):Bool:=pI XE.key yI.Last
def ME(fC:List rE)(ps:List dA)(bC:ND)(jB:Int):(List dA)×Int×QA→nH ((List dA)×ND) ((List dA)×Int×QA) | (x61,x64,x65)=>bif decide (x64<(min jB ((vA (MA fC) (fun y0=>aC y0 bC)).length:Int)))then bif(QE x61 (((vA (MA fC) (fun y0=>aC y0 bC)).getD ((x64).toNat) yG).ops)).2 then .cont ((QE x61 (((vA (MA fC) (fun y0=>aC y0 bC)).getD ((x64).toNat) yG).ops)).1,IntKind.wrap .i64 (x64+1),((vA (MA fC) (fun y0=>aC y0 bC)).getD ((x64).toNat) yG).key)else .brk (x61,x64,x65)else .brk (x61,x64,x65)
def GC(fC:List rE)(ps:List dA)(bC:ND)(jB:Int):(List dA)×ND:=OC (BE (ME fC ps bC jB) (((((vA (MA fC) (fun y0=>aC y0 bC)).length:Int)-0).toNat)+1) (ps,0,bC.Last)) (fun r=>r) (fun(x61,x64,x65)=>bif bC.Over then((NA x61),(⟨x65,true⟩:ND))else((NA x61),(⟨x65,decide (x64=((vA (MA fC) (fun y0=>aC y0 bC)).length:Int))⟩:ND)))
def EC(rB:BB)(pn:QA):QA:=((rB.Name++([46]:QA))++pn)++([47]:QA)
def GH(zA:QA):Bool:=bif AC (zA.length:Int) 1 3 then(vH zA ([]:QA))else false
def YB(zA:QA)(KC:QA):Bool:=bif decide ((KC.length:Int)≤(zA.length:Int))then(zA.take KC.length)==KC else false
def gC(zA:QA)(KC:QA):QA×Bool:=bif YB zA KC then((zA.drop KC.length),true)else(zA,false)
def IB(zA:QA)(KC:QA):QA×Bool:=((gC zA KC).1,(gC zA KC).2)
def jH(AI:Int):Int:=IntKind.wrap .i64 (Int.tdiv (IntKind.wrap .i64 (AI+16)) 8)
def WA(DA:QA)(WB:QA):Int:=bif WB==DA then 0 else(eD DA ((WB.getD 0 0).toNat:Int))
def XB(zA:QA)(CE:QA):QA×QA×Bool:=bif decide (0≤(WA zA CE))then((zA.take (((WA zA CE)).toNat)),(zA.drop ((IntKind.wrap .i64 ((WA zA CE)+(CE.length:Int))).toNat)),true)else(zA,([]:QA),false)
def cD(zA:QA)(CE:QA):QA×QA×Bool:=((XB zA CE).1,(XB zA CE).2.1,(XB zA CE).2.2)
def ZB(rB:BB)(pn:QA)(VA:QA):QA×QA×Bool:=bif(IB VA (EC rB pn)).2 then bif(cD ((IB VA (EC rB pn)).1) ([47]:QA)).2.2 then bif GH ((cD ((IB VA (EC rB pn)).1) ([47]:QA)).1)then bif GH ((cD ((IB VA (EC rB pn)).1) ([47]:QA)).2.1)then((cD ((IB VA (EC rB pn)).1) ([47]:QA)).1,(cD ((IB VA (EC rB pn)).1) ([47]:QA)).2.1,true)else(([]:QA),([]:QA),false)else(([]:QA),([]:QA),false)else(([]:QA),([]:QA),false)else(([]:QA),([]:QA),false)
def XC(rB:BB)(pn:QA)(ps:List dA)(k20:Nat):(List QA)→nH (List QA) (List QA) | (x82)=>bif(ZB rB pn ((ps.getD k20 lA).Key)).2.2 then .cont ((x82++([(ps.getD k20 lA).Key]:List QA)))else .cont (x82)
def eB(rB:BB)(pn:QA)(ps:List dA):List QA:=OC (BA (XC rB pn ps) (ps.length-0) 0 (([]:List QA))) (fun r=>r) (fun x82=>x82)
def kG(rB:BB)(pn:QA)(ps:List dA)(k26:Nat):(List rE)→nH (List rE) (List rE) | (x51)=>.cont ((x51++([(⟨((eB rB pn ps).getD k26 uB),([(⟨3,((eB rB pn ps).getD k26 uB),([]:QA),0⟩:EG)]:List EG)⟩:rE)]:List rE)))
def aB(rB:BB)(pn:QA)(ps:List dA):List rE:=OC (BA (kG rB pn ps) ((eB rB pn ps).length-0) 0 (([]:List rE))) (fun r=>r) (fun x51=>x51)
def CA(rB:BB)(pn:QA)(ps:List dA)(bC:ND)(jB:Int):(List dA)×ND×Bool:=bif PE rB pn ps bC jB then((GC (aB rB pn ps) ps bC jB).1,(GC (aB rB pn ps) ps bC jB).2,true)else(([]:List dA),(⟨([]:QA),false⟩:ND),false)
def nI(OA:ND)(LD:ND):Bool:=bif OA.Last==LD.Last then bif OA.Over==LD.Over then true else false else false
def qB(DA:BB)(WB:QA)(lE:List dA)(wE:ND)(SE:Int):Bool:=bif decide (1048576<(WB.length:Int))then true else bif decide ((VD DA 1048576)<0)then true else bif decide ((RE lE (VD DA 1048576))<0)then true else bif decide ((YH wE (RE lE (VD DA 1048576)))<0)then true else bif QG ((CA DA WB lE wE SE).1) ((dB DA WB lE wE SE).1)then bif nI ((CA DA WB lE wE SE).2.1) ((dB DA WB lE wE SE).2.1)then bif((CA DA WB lE wE SE).2.2)==((dB DA WB lE wE SE).2.2)then bif nG DA DA then bif QG lE lE then bif decide (((HC lE ((WD DA 1).1)).1)<0)then false else bif decide ((MD ((HC ((CA DA WB lE wE SE).1) 1).2) 1)<0)then false else bif decide ((MD ((HC ((CA DA WB lE wE SE).1) 1).2) 1)=((HC ((CA DA WB lE wE SE).1) 1).1))then true else false else false else false else false else false else false
abbrev DR:=(Option Addr×Nat)×rE
def QP(p:DR):List Value:=[.string (bs p.2.key),.slice p.1.1 p.2.ops.length p.1.2]
def FH:DR:=((none,0),yG)
theorem RH:Gd (RF QP):=EH fun _=>rfl
/-- what an element names lies below K -/
def uL(w:World)(K:Nat)(p:DR):Prop:=IC w (Iv 0 K) (RF PK) 4 p.1.1 p.2.ops.length p.1.2 p.2.ops
theorem bW{w:World}{K:Nat}:∀{cells:List Value}{xs:List rE},AD (SI w (Iv 0 K)) 2 cells xs→∃ps:List DR,ps.map (·.2)=xs∧AD (RF QP w (Iv 0 K)) 2 cells ps∧∀p∈ps,uL w K p
 | _,_,.nil=>⟨[],rfl,.nil,fun _ h=>by cases h⟩
 | _,_,.cons (x:=x) hl h hs=>by
  obtain⟨ps,h1,h2,h3⟩:=bW hs
  obtain⟨A,c,rfl,hr⟩:=h
  refine⟨((A,c),x)::ps,by rw[List.map_cons,h1],.cons hl rfl h2,fun p hp=>?_⟩
  rcases List.mem_cons.1 hp with rfl | hp
  ·exact hr
  ·exact h3 p hp
theorem cW{w:World}{K:Nat}{S S':Nat→Prop}(hS:∀b,Iv 0 K b→S b):∀{cells:List Value}{ps:List DR},AD (RF QP w S') 2 cells ps→(∀p∈ps,uL w K p)→AD (SI w S) 2 cells (ps.map (·.2))
 | _,_,.nil,_=>.nil
 | _,_,.cons (x:=x) hl h hs,hp=>.cons hl ⟨x.1.1,x.1.2,h,YD KE (hp x (List.mem_cons_self ..)) fun b hb _=>hS b hb⟩ (cW hS hs fun p h=>hp p (List.mem_cons_of_mem _ h))
theorem ZW{w:World}{K n c:Nat}{A:Option Addr}{xs:List rE}(h:IC w (Iv 0 K) SI 2 A n c xs):∃ps:List DR,ps.map (·.2)=xs∧IC w (Iv 0 K) (RF QP) 2 A n c ps∧∀p∈ps,uL w K p:=by
 obtain⟨h1,h2,h3,cells,he,hc⟩:=h
 obtain⟨ps,rfl,h5,h6⟩:=bW he
 refine⟨ps,rfl,⟨by rw[h1,List.length_map],h2,h3,cells,h5,?_⟩,h6⟩
 rcases hc with h | h
 ·exact .inl (List.map_eq_nil_iff.1 h)
 ·exact .inr h
theorem SU{w:World}{K lo hi n c:Nat}{A:Option Addr}{ps:List DR}(h:lB w lo hi 135 2 (RF QP) A n c ps)(hs:∀p∈ps,uL w K p):IC w (fun q=>Iv 0 K q∨Iv lo hi q) SI 2 A n c (ps.map (·.2)):=by
 obtain⟨h1,h2,h3,cells,he,hc⟩:=NH RH h
 refine⟨by rw[h1,List.length_map],h2,h3,cells,cW (fun b hb=>.inl hb) he hs,?_⟩
 rcases hc with h | ⟨b,off,hA,hS,hb,hc⟩
 ·exact .inl (by rw[h];rfl)
 ·exact .inr ⟨b,off,hA,.inr hS,hb,hc⟩
def QW(K:Nat)(w:World)(lo hi:Nat)(A:Option Addr)(n c:Nat)(xs:List rE):Prop:=∃ps:List DR,ps.map (·.2)=xs∧lB w lo hi 135 2 (RF QP) A n c ps∧(∀p∈ps,uL w K p)∧K≤lo
theorem uL.ex{w w':World}{K:Nat}{p:DR}(h:uL w K p)(e:Ex w w'):uL w' K p:=FA KE h e
theorem uL.mut{w w':World}{K lo hi:Nat}{p:DR}(h:uL w K p)(e:jG [(lo,hi)] w w')(hk:K≤lo):uL w' K p:=IC.mut KE h e fun k hk=>by simp only[JK,or_false,Iv]at hk ⊢;omega

def HF(rB:BB)(pn:QA):zE:=(rB.Idxs.getD (((vD rB pn)).toNat) IA)
def ZI(rB:BB)(pn:QA):zE×Bool:=bif zC rB then bif decide ((uE rB pn)<0)then((⟨([]:QA),0,0⟩:zE),false)else((rB.Idxs.getD (((uE rB pn)).toNat) IA),true)else((⟨([]:QA),0,0⟩:zE),false)
def SJ(OA:List QA)(XE:Int)(k2:Nat):Int→nH Int Int | (x3)=>bif(OA.getD k2 uB)==(LB x3)then .cont (IntKind.wrap .i64 (x3+1))else .ret (-1)
def cI(OA:List QA)(XE:Int):Int:=OC (BA (SJ OA XE) (OA.length-0) 0 (XE)) (fun r=>r) (fun x3=>x3)
def RK(OA:List zE)(XE:Int)(k2:Nat):Int→nH Int Int | (x3)=>bif((OA.getD k2 IA).Name)==(LB x3)then bif decide (((OA.getD k2 IA).Col)=(IntKind.wrap .i64 (x3+1)))then bif decide (((OA.getD k2 IA).Stage)=(IntKind.wrap .i64 ((IntKind.wrap .i64 (x3+1))+1)))then .cont (IntKind.wrap .i64 ((IntKind.wrap .i64 ((IntKind.wrap .i64 (x3+1))+1))+1))else .ret (-1)else .ret (-1)else .ret (-1)
def MJ(OA:List zE)(XE:Int):Int:=OC (BA (RK OA XE) (OA.length-0) 0 (XE)) (fun r=>r) (fun x3=>x3)
def nL(OA:BB)(XE:Int):Int:=bif decide ((cI OA.Cols XE)<0)then -1 else bif decide ((MJ OA.Idxs (cI OA.Cols XE))<0)then -1 else(MJ OA.Idxs (cI OA.Cols XE))
def cS(x y:QA):Int:=bif aI x y then -1 else bif pI x y then 0 else 1
end Go.Proofs.YtoimdjojffkefaaGreatDoor
