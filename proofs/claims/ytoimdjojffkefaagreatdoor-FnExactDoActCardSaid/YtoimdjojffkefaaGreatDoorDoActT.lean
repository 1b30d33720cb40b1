/- Do Act: the plain forms of the values, and plain models of the functions. -/
import Derived.Test.YtoimdjojffkefaaGreatDoorE32
set_option linter.unusedVariables false
set_option linter.unusedSimpArgs false
namespace Go.Proofs.YtoimdjojffkefaaGreatDoor
open Go.RowKit Go.X
structure XD where
 Name:KA
 Col:Int
 Stage:Int
def AA:XD:=⟨[],0,0⟩
def zO(x:XD):Prop:=xN x.Name∧ZS x.Col∧ZS x.Stage
def bJ(x:XD):Prop:=PF x.Name
theorem XF:bJ AA:=FC
def yE(x:XD):List Value:=[.string (bs x.Name),.int .i64 x.Col,.int .i64 x.Stage]
theorem gI:Gd (RF yE):=YH fun _=>rfl
structure YA where
 Name:KA
 Cols:List KA
 Idxs:List XD
def VV:YA:=⟨[],[],[]⟩
def AL(x:YA):Prop:=xN x.Name∧(YR xN) x.Cols∧(YR zO) x.Idxs
def BE(x:YA):Prop:=PF x.Name∧(SF PF) x.Cols∧(SF bJ) x.Idxs
theorem aX:BE VV:=⟨FC,XC _,XC _⟩
def TP:tJ YA:=fun w S cs x=>∃A1 c1 A2 c2,cs=[.string (bs x.Name),.slice A1 x.Cols.length c1,.slice A2 x.Idxs.length c2]∧rC w S (RF NB) 1 A1 x.Cols.length c1 x.Cols∧rC w S (RF yE) 3 A2 x.Idxs.length c2 x.Idxs
def OQ:fJ YA:=fun w l h cs x=>∃A1 c1 lo1 hi1 A2 c2 lo2 hi2,cs=[.string (bs x.Name),.slice A1 x.Cols.length c1,.slice A2 x.Idxs.length c2]∧fB w lo1 hi1 9 1 (RF NB) A1 x.Cols.length c1 x.Cols∧fB w lo2 hi2 111 3 (RF yE) A2 x.Idxs.length c2 x.Idxs∧(l≤lo1∧lo1≤hi1∧hi1≤h)∧(l≤lo2∧lo2≤hi2∧hi2≤h)∧(hi1≤lo2∨hi2≤lo1)
theorem XW:Gd TP:=⟨fun⟨A1,c1,A2,c2,he,h0,h1⟩ hk=>⟨A1,c1,A2,c2,he,PH gS h0 hk,PH gI h1 hk⟩,fun⟨A1,c1,A2,c2,he,h0,h1⟩ hw=>⟨A1,c1,A2,c2,he,zE gS h0 hw,zE gI h1 hw⟩,fun⟨A1,c1,A2,c2,he,h0,h1⟩=>by rw[he];rfl⟩
theorem EW:ML OQ TP:=⟨fun⟨A1,c1,lo1,hi1,A2,c2,lo2,hi2,he,h1,h2,r0,r1,r2⟩ hk=>⟨A1,c1,lo1,hi1,A2,c2,lo2,hi2,he,LH gS h1 (fun b b1 b2 b3=>hk b oM oM b3),LH gI h2 (fun b b1 b2 b3=>hk b oM oM b3),r0,r1,r2⟩,fun⟨A1,c1,lo1,hi1,A2,c2,lo2,hi2,he,h1,h2,r0,r1,r2⟩=>by rw[he];rfl,fun⟨A1,c1,lo1,hi1,A2,c2,lo2,hi2,he,h1,h2,r0,r1,r2⟩=>⟨A1,c1,A2,c2,he,zE gS (fB.rdI gS h1) (fun b hb _=>⟨by have:=hb.1;omega,by have:=hb.2;omega⟩),zE gI (fB.rdI gI h2) (fun b hb _=>⟨by have:=hb.1;omega,by have:=hb.2;omega⟩)⟩⟩
theorem nX{w:World}{l h:Nat}{z0:KA}{lo1 hi1 n1 c1:Nat}{A1:Option Addr}{y1:List KA}{lo2 hi2 n2 c2:Nat}{A2:Option Addr}{y2:List XD}(h1:fB w lo1 hi1 9 1 (RF NB) A1 n1 c1 y1)(h2:fB w lo2 hi2 111 3 (RF yE) A2 n2 c2 y2)(r0:(l≤lo1∧lo1≤hi1∧hi1≤h))(r1:(l≤lo2∧lo2≤hi2∧hi2≤h))(r2:(hi1≤lo2∨hi2≤lo1)):OQ w l h [.string (bs z0),.slice A1 n1 c1,.slice A2 n2 c2] ⟨z0,y1,y2⟩:=by
 obtain rfl:=h1.1;obtain rfl:=h2.1
 exact⟨A1,c1,lo1,hi1,A2,c2,lo2,hi2,rfl,h1,h2,r0,r1,r2⟩
structure lA where
 Key:KA
 Val:KA
 Gone:Bool
def pA:lA:=⟨[],[],false⟩
def wK(x:lA):Prop:=xN x.Key∧xN x.Val
def JB(x:lA):Prop:=PF x.Key∧PF x.Val
theorem pE:JB pA:=⟨FC,FC⟩
def ZA(x:lA):List Value:=[.string (bs x.Key),.string (bs x.Val),.bool x.Gone]
theorem gW:Gd (RF ZA):=YH fun _=>rfl
structure PE where
 Vals:List KA
def RU:PE:=⟨[]⟩
def EQ(x:PE):Prop:=(YR xN) x.Vals
def QJ(x:PE):Prop:=(SF PF) x.Vals
theorem LR:QJ RU:=XC _
def HU:tJ PE:=fun w S cs x=>∃A1 c1,cs=[.slice A1 x.Vals.length c1]∧rC w S (RF NB) 1 A1 x.Vals.length c1 x.Vals
def FU:fJ PE:=fun w l h cs x=>∃A1 c1 lo1 hi1,cs=[.slice A1 x.Vals.length c1]∧fB w lo1 hi1 9 1 (RF NB) A1 x.Vals.length c1 x.Vals∧(l≤lo1∧lo1≤hi1∧hi1≤h)
theorem uX:Gd HU:=⟨fun⟨A1,c1,he,h0⟩ hk=>⟨A1,c1,he,PH gS h0 hk⟩,fun⟨A1,c1,he,h0⟩ hw=>⟨A1,c1,he,zE gS h0 hw⟩,fun⟨A1,c1,he,h0⟩=>by rw[he];rfl⟩
theorem jX:ML FU HU:=⟨fun⟨A1,c1,lo1,hi1,he,h1,r0⟩ hk=>⟨A1,c1,lo1,hi1,he,LH gS h1 (fun b b1 b2 b3=>hk b oM oM b3),r0⟩,fun⟨A1,c1,lo1,hi1,he,h1,r0⟩=>by rw[he];rfl,fun⟨A1,c1,lo1,hi1,he,h1,r0⟩=>⟨A1,c1,he,zE gS (fB.rdI gS h1) (fun b hb _=>⟨by have:=hb.1;omega,by have:=hb.2;omega⟩)⟩⟩
theorem BX{w:World}{l h:Nat}{lo1 hi1 n1 c1:Nat}{A1:Option Addr}{y1:List KA}(h1:fB w lo1 hi1 9 1 (RF NB) A1 n1 c1 y1)(r0:(l≤lo1∧lo1≤hi1∧hi1≤h)):FU w l h [.slice A1 n1 c1] ⟨y1⟩:=by
 obtain rfl:=h1.1
 exact⟨A1,c1,lo1,hi1,rfl,h1,r0⟩
structure DB where
 Kind:Int
 Old:PE
 New:PE
def qR:DB:=⟨0,RU,RU⟩
def vK(x:DB):Prop:=ZS x.Kind∧EQ x.Old∧EQ x.New
def uG(x:DB):Prop:=QJ x.Old∧QJ x.New
theorem MR:uG qR:=⟨LR,LR⟩
def JN:tJ DB:=fun w S cs x=>∃A1 c1 A2 c2,cs=[.int .i64 x.Kind,.slice A1 x.Old.Vals.length c1,.slice A2 x.New.Vals.length c2]∧rC w S (RF NB) 1 A1 x.Old.Vals.length c1 x.Old.Vals∧rC w S (RF NB) 1 A2 x.New.Vals.length c2 x.New.Vals
def dP:fJ DB:=fun w l h cs x=>∃A1 c1 lo1 hi1 A2 c2 lo2 hi2,cs=[.int .i64 x.Kind,.slice A1 x.Old.Vals.length c1,.slice A2 x.New.Vals.length c2]∧fB w lo1 hi1 9 1 (RF NB) A1 x.Old.Vals.length c1 x.Old.Vals∧fB w lo2 hi2 9 1 (RF NB) A2 x.New.Vals.length c2 x.New.Vals∧(l≤lo1∧lo1≤hi1∧hi1≤h)∧(l≤lo2∧lo2≤hi2∧hi2≤h)∧(hi1≤lo2∨hi2≤lo1)
theorem FW:Gd JN:=⟨fun⟨A1,c1,A2,c2,he,h0,h1⟩ hk=>⟨A1,c1,A2,c2,he,PH gS h0 hk,PH gS h1 hk⟩,fun⟨A1,c1,A2,c2,he,h0,h1⟩ hw=>⟨A1,c1,A2,c2,he,zE gS h0 hw,zE gS h1 hw⟩,fun⟨A1,c1,A2,c2,he,h0,h1⟩=>by rw[he];rfl⟩
theorem YV:ML dP JN:=⟨fun⟨A1,c1,lo1,hi1,A2,c2,lo2,hi2,he,h1,h2,r0,r1,r2⟩ hk=>⟨A1,c1,lo1,hi1,A2,c2,lo2,hi2,he,LH gS h1 (fun b b1 b2 b3=>hk b oM oM b3),LH gS h2 (fun b b1 b2 b3=>hk b oM oM b3),r0,r1,r2⟩,fun⟨A1,c1,lo1,hi1,A2,c2,lo2,hi2,he,h1,h2,r0,r1,r2⟩=>by rw[he];rfl,fun⟨A1,c1,lo1,hi1,A2,c2,lo2,hi2,he,h1,h2,r0,r1,r2⟩=>⟨A1,c1,A2,c2,he,zE gS (fB.rdI gS h1) (fun b hb _=>⟨by have:=hb.1;omega,by have:=hb.2;omega⟩),zE gS (fB.rdI gS h2) (fun b hb _=>⟨by have:=hb.1;omega,by have:=hb.2;omega⟩)⟩⟩
theorem YW{w:World}{l h:Nat}{z0:Int}{lo1 hi1 n1 c1:Nat}{A1:Option Addr}{y1:List KA}{lo2 hi2 n2 c2:Nat}{A2:Option Addr}{y2:List KA}(h1:fB w lo1 hi1 9 1 (RF NB) A1 n1 c1 y1)(h2:fB w lo2 hi2 9 1 (RF NB) A2 n2 c2 y2)(r0:(l≤lo1∧lo1≤hi1∧hi1≤h))(r1:(l≤lo2∧lo2≤hi2∧hi2≤h))(r2:(hi1≤lo2∨hi2≤lo1)):dP w l h [.int .i64 z0,.slice A1 n1 c1,.slice A2 n2 c2] ⟨z0,⟨y1⟩,⟨y2⟩⟩:=by
 obtain rfl:=h1.1;obtain rfl:=h2.1
 exact⟨A1,c1,lo1,hi1,A2,c2,lo2,hi2,rfl,h1,h2,r0,r1,r2⟩
structure YC where
 Kind:Int
 Key:KA
 Val:KA
 By:Int
def AB:YC:=⟨0,[],[],0⟩
def AX(x:YC):Prop:=ZS x.Kind∧xN x.Key∧xN x.Val∧ZS x.By
def PI(x:YC):Prop:=PF x.Key∧PF x.Val
theorem vG:PI AB:=⟨FC,FC⟩
def EG(x:YC):List Value:=[.int .i64 x.Kind,.string (bs x.Key),.string (bs x.Val),.int .i64 x.By]
theorem iB:Gd (RF EG):=YH fun _=>rfl
structure yD where
 Key:KA
 Val:KA
 There:Bool
def EF:yD:=⟨[],[],false⟩
def JX(x:yD):Prop:=xN x.Key∧xN x.Val
def PJ(x:yD):Prop:=PF x.Key∧PF x.Val
theorem JR:PJ EF:=⟨FC,FC⟩
def YJ(x:yD):List Value:=[.string (bs x.Key),.string (bs x.Val),.bool x.There]
theorem TE:Gd (RF YJ):=YH fun _=>rfl
structure LQ where
 key:KA
 ops:List YC
def PW:LQ:=⟨[],[]⟩
def EX(x:LQ):Prop:=xN x.key∧(YR AX) x.ops
def jW(x:LQ):Prop:=PF x.key∧(SF PI) x.ops
theorem rX:jW PW:=⟨FC,XC _⟩
def JU:tJ LQ:=fun w S cs x=>∃A1 c1,cs=[.string (bs x.key),.slice A1 x.ops.length c1]∧rC w S (RF EG) 4 A1 x.ops.length c1 x.ops
def iT:fJ LQ:=fun w l h cs x=>∃A1 c1 lo1 hi1,cs=[.string (bs x.key),.slice A1 x.ops.length c1]∧fB w lo1 hi1 122 4 (RF EG) A1 x.ops.length c1 x.ops∧(l≤lo1∧lo1≤hi1∧hi1≤h)
theorem mX:Gd JU:=⟨fun⟨A1,c1,he,h0⟩ hk=>⟨A1,c1,he,PH iB h0 hk⟩,fun⟨A1,c1,he,h0⟩ hw=>⟨A1,c1,he,zE iB h0 hw⟩,fun⟨A1,c1,he,h0⟩=>by rw[he];rfl⟩
theorem VW:ML iT JU:=⟨fun⟨A1,c1,lo1,hi1,he,h1,r0⟩ hk=>⟨A1,c1,lo1,hi1,he,LH iB h1 (fun b b1 b2 b3=>hk b oM oM b3),r0⟩,fun⟨A1,c1,lo1,hi1,he,h1,r0⟩=>by rw[he];rfl,fun⟨A1,c1,lo1,hi1,he,h1,r0⟩=>⟨A1,c1,he,zE iB (fB.rdI iB h1) (fun b hb _=>⟨by have:=hb.1;omega,by have:=hb.2;omega⟩)⟩⟩
theorem xX{w:World}{l h:Nat}{z0:KA}{lo1 hi1 n1 c1:Nat}{A1:Option Addr}{y1:List YC}(h1:fB w lo1 hi1 122 4 (RF EG) A1 n1 c1 y1)(r0:(l≤lo1∧lo1≤hi1∧hi1≤h)):iT w l h [.string (bs z0),.slice A1 n1 c1] ⟨z0,y1⟩:=by
 obtain rfl:=h1.1
 exact⟨A1,c1,lo1,hi1,rfl,h1,r0⟩
structure GN where
 val:KA
 primary:KA
def UV:GN:=⟨[],[]⟩
def zX(x:GN):Prop:=xN x.val∧xN x.primary
def qV(x:GN):Prop:=PF x.val∧PF x.primary
theorem ZW:qV UV:=⟨FC,FC⟩
def WV(x:GN):List Value:=[.string (bs x.val),.string (bs x.primary)]
theorem WW:Gd (RF WV):=YH fun _=>rfl
structure yK where
 x:Int
 y:Int
 signed:Bool
 code:Int
def LV:yK:=⟨0,0,false,0⟩
def DV(x:yK):Prop:=ZS x.x∧ZS x.y∧ZS x.code
def TO(x:yK):List Value:=[.int .i64 x.x,.int .i64 x.y,.bool x.signed,.int .u8 x.code]
theorem WT:Gd (RF TO):=YH fun _=>rfl
structure DH where
 msg:KA
 addr:Int
def jL:DH:=⟨[],0⟩
def JQ(x:DH):Prop:=xN x.msg∧ZS x.addr
def WK(x:DH):Prop:=PF x.msg
theorem GP:WK jL:=FC
def lL(x:DH):List Value:=[.string (bs x.msg),.int .u64 x.addr]
theorem vP:Gd (RF lL):=YH fun _=>rfl
structure eT where
 Last:KA
 Over:Bool
def NW:eT:=⟨[],false⟩
def CX(x:eT):Prop:=xN x.Last
def fW(x:eT):Prop:=PF x.Last
theorem pX:fW NW:=FC
def QW(x:eT):List Value:=[.string (bs x.Last),.bool x.Over]
theorem kX:Gd (RF QW):=YH fun _=>rfl
structure KQ where
 Kind:Int
 Act:DB
 Idx:KA
 Low:KA
 High:KA
def OW:KQ:=⟨0,qR,[],[],[]⟩
def DX(x:KQ):Prop:=ZS x.Kind∧vK x.Act∧xN x.Idx∧xN x.Low∧xN x.High
def iW(x:KQ):Prop:=uG x.Act∧PF x.Idx∧PF x.Low∧PF x.High
theorem qX:iW OW:=⟨MR,FC,FC,FC⟩
def IU:tJ KQ:=fun w S cs x=>∃A1 c1 A2 c2,cs=[.int .i64 x.Kind,.int .i64 x.Act.Kind,.slice A1 x.Act.Old.Vals.length c1,.slice A2 x.Act.New.Vals.length c2,.string (bs x.Idx),.string (bs x.Low),.string (bs x.High)]∧rC w S (RF NB) 1 A1 x.Act.Old.Vals.length c1 x.Act.Old.Vals∧rC w S (RF NB) 1 A2 x.Act.New.Vals.length c2 x.Act.New.Vals
def gT:fJ KQ:=fun w l h cs x=>∃A1 c1 lo1 hi1 A2 c2 lo2 hi2,cs=[.int .i64 x.Kind,.int .i64 x.Act.Kind,.slice A1 x.Act.Old.Vals.length c1,.slice A2 x.Act.New.Vals.length c2,.string (bs x.Idx),.string (bs x.Low),.string (bs x.High)]∧fB w lo1 hi1 9 1 (RF NB) A1 x.Act.Old.Vals.length c1 x.Act.Old.Vals∧fB w lo2 hi2 9 1 (RF NB) A2 x.Act.New.Vals.length c2 x.Act.New.Vals∧(l≤lo1∧lo1≤hi1∧hi1≤h)∧(l≤lo2∧lo2≤hi2∧hi2≤h)∧(hi1≤lo2∨hi2≤lo1)
theorem lX:Gd IU:=⟨fun⟨A1,c1,A2,c2,he,h0,h1⟩ hk=>⟨A1,c1,A2,c2,he,PH gS h0 hk,PH gS h1 hk⟩,fun⟨A1,c1,A2,c2,he,h0,h1⟩ hw=>⟨A1,c1,A2,c2,he,zE gS h0 hw,zE gS h1 hw⟩,fun⟨A1,c1,A2,c2,he,h0,h1⟩=>by rw[he];rfl⟩
theorem UW:ML gT IU:=⟨fun⟨A1,c1,lo1,hi1,A2,c2,lo2,hi2,he,h1,h2,r0,r1,r2⟩ hk=>⟨A1,c1,lo1,hi1,A2,c2,lo2,hi2,he,LH gS h1 (fun b b1 b2 b3=>hk b oM oM b3),LH gS h2 (fun b b1 b2 b3=>hk b oM oM b3),r0,r1,r2⟩,fun⟨A1,c1,lo1,hi1,A2,c2,lo2,hi2,he,h1,h2,r0,r1,r2⟩=>by rw[he];rfl,fun⟨A1,c1,lo1,hi1,A2,c2,lo2,hi2,he,h1,h2,r0,r1,r2⟩=>⟨A1,c1,A2,c2,he,zE gS (fB.rdI gS h1) (fun b hb _=>⟨by have:=hb.1;omega,by have:=hb.2;omega⟩),zE gS (fB.rdI gS h2) (fun b hb _=>⟨by have:=hb.1;omega,by have:=hb.2;omega⟩)⟩⟩
theorem wX{w:World}{l h:Nat}{z0:Int}{z1:Int}{lo1 hi1 n1 c1:Nat}{A1:Option Addr}{y1:List KA}{lo2 hi2 n2 c2:Nat}{A2:Option Addr}{y2:List KA}{z4:KA}{z5:KA}{z6:KA}(h1:fB w lo1 hi1 9 1 (RF NB) A1 n1 c1 y1)(h2:fB w lo2 hi2 9 1 (RF NB) A2 n2 c2 y2)(r0:(l≤lo1∧lo1≤hi1∧hi1≤h))(r1:(l≤lo2∧lo2≤hi2∧hi2≤h))(r2:(hi1≤lo2∨hi2≤lo1)):gT w l h [.int .i64 z0,.int .i64 z1,.slice A1 n1 c1,.slice A2 n2 c2,.string (bs z4),.string (bs z5),.string (bs z6)] ⟨z0,⟨z1,⟨y1⟩,⟨y2⟩⟩,z4,z5,z6⟩:=by
 obtain rfl:=h1.1;obtain rfl:=h2.1
 exact⟨A1,c1,lo1,hi1,A2,c2,lo2,hi2,rfl,h1,h2,r0,r1,r2⟩
structure xK where
 lo:Int
 hi:Int
def KV:xK:=⟨0,0⟩
def CV(x:xK):Prop:=ZS x.lo∧ZS x.hi
def SO(x:xK):List Value:=[.int .u8 x.lo,.int .u8 x.hi]
theorem VT:Gd (RF SO):=YH fun _=>rfl
structure wJ where
 s:KA
def QO:wJ:=⟨[]⟩
def EV(x:wJ):Prop:=xN x.s
def mO(x:wJ):Prop:=PF x.s
theorem kU:mO QO:=FC
def UO(x:wJ):List Value:=[.string (bs x.s)]
theorem XT:Gd (RF UO):=YH fun _=>rfl
def rG:List YC:=[]
def GU:tJ (List YC):=fun w S cs x=>∃A1 c1,cs=[.slice A1 x.length c1]∧rC w S (RF EG) 4 A1 x.length c1 x
theorem zM:Gd GU:=⟨fun⟨A1,c1,he,h0⟩ hk=>⟨A1,c1,he,PH iB h0 hk⟩,fun⟨A1,c1,he,h0⟩ hw=>⟨A1,c1,he,zE iB h0 hw⟩,fun⟨A1,c1,he,h0⟩=>by rw[he];rfl⟩
theorem KR:SF PI rG:=XC _
def ME(wA:List KA)(qB:Int)(k3:Nat):Int→CH Int Int | (x4)=>bif decide ((IntKind.wrap .i64 (x4-((wA.getD k3 WA).length:Int)))<0)then .ret (-1)else .cont (IntKind.wrap .i64 (x4-((wA.getD k3 WA).length:Int)))
def AD(wA:List KA)(qB:Int):Int:=bif decide ((IntKind.wrap .i64 (qB-(wA.length:Int)))<0)then -1 else SC (GA (ME wA qB) (wA.length-0) 0 (IntKind.wrap .i64 (qB-(wA.length:Int)))) (fun r=>r) (fun x4=>x4)
def SH(wA:XD)(qB:Int):Int:=bif decide ((IntKind.wrap .i64 (qB-(wA.Name.length:Int)))<0)then -1 else IntKind.wrap .i64 (qB-(wA.Name.length:Int))
def LG(wA:List XD)(qB:Int)(k3:Nat):Int→CH Int Int | (x4)=>bif decide ((SH (wA.getD k3 AA) x4)<0)then .ret (-1)else .cont ((SH (wA.getD k3 AA) x4))
def IH(wA:List XD)(qB:Int):Int:=bif decide ((IntKind.wrap .i64 (qB-(wA.length:Int)))<0)then -1 else SC (GA (LG wA qB) (wA.length-0) 0 (IntKind.wrap .i64 (qB-(wA.length:Int)))) (fun r=>r) (fun x4=>x4)
def UD(wA:YA)(qB:Int):Int:=bif decide ((IntKind.wrap .i64 (qB-(wA.Name.length:Int)))<0)then -1 else bif decide ((AD wA.Cols (IntKind.wrap .i64 (qB-(wA.Name.length:Int))))<0)then -1 else bif decide ((IH wA.Idxs (AD wA.Cols (IntKind.wrap .i64 (qB-(wA.Name.length:Int)))))<0)then -1 else(IH wA.Idxs (AD wA.Cols (IntKind.wrap .i64 (qB-(wA.Name.length:Int)))))
def rF(wA:lA)(qB:Int):Int:=bif decide ((IntKind.wrap .i64 (qB-(wA.Key.length:Int)))<0)then -1 else bif decide ((IntKind.wrap .i64 ((IntKind.wrap .i64 (qB-(wA.Key.length:Int)))-(wA.Val.length:Int)))<0)then -1 else IntKind.wrap .i64 ((IntKind.wrap .i64 (qB-(wA.Key.length:Int)))-(wA.Val.length:Int))
def AF(wA:List lA)(qB:Int)(k3:Nat):Int→CH Int Int | (x4)=>bif decide ((rF (wA.getD k3 pA) x4)<0)then .ret (-1)else .cont ((rF (wA.getD k3 pA) x4))
def JE(wA:List lA)(qB:Int):Int:=bif decide ((IntKind.wrap .i64 (qB-(wA.length:Int)))<0)then -1 else SC (GA (AF wA qB) (wA.length-0) 0 (IntKind.wrap .i64 (qB-(wA.length:Int)))) (fun r=>r) (fun x4=>x4)
def eH(wA:PE)(qB:Int):Int:=bif decide ((AD wA.Vals qB)<0)then -1 else(AD wA.Vals qB)
def KF(wA:DB)(qB:Int):Int:=bif decide ((eH wA.Old qB)<0)then -1 else bif decide ((eH wA.New (eH wA.Old qB))<0)then -1 else(eH wA.New (eH wA.Old qB))
def gD(sJ:Int)(KS:Int)(nU:Int):Bool:=bif decide (KS≤sJ)then decide (sJ≤nU)else false
def BD(NA:KA)(qE:Int)(k2:Nat):Unit→CH Bool Unit | ()=>bif decide (((NA.getD k2 0).toNat:Int)<97)then .ret false else bif decide (122<((NA.getD k2 0).toNat:Int))then .ret false else .cont ()
def tB(NA:KA)(qE:Int):Bool:=SC (GA (BD NA qE) (NA.length-0) 0 ()) (fun r=>r) (fun _=>bif decide (1≤(NA.length:Int))then decide ((NA.length:Int)≤qE)else false)
def nH(bB:List KA)(NA:KA)(k4:Nat):Unit→CH Int Unit | ()=>bif(bB.getD k4 WA)==NA then .ret (k4:Int)else .cont ()
def EJ(bB:List KA)(NA:KA):Int:=SC (GA (nH bB NA) (bB.length-0) 0 ()) (fun r=>r) (fun _=>-1)
def wE(bB:List KA)(k3:Nat):Unit→CH Bool Unit | ()=>bif tB (bB.getD k3 WA) 3 then bif decide (0≤(EJ (bB.take k3) (bB.getD k3 WA)))then .ret false else .cont ()else .ret false
def VG(bB:List KA):Bool:=SC (GA (wE bB) (bB.length-0) 0 ()) (fun r=>r) (fun _=>(gD (bB.length:Int) 2 4))
def mC(zA:YA)(k19:Nat):Unit→CH Bool Unit | ()=>bif tB ((zA.Idxs.getD k19 AA).Name) 1 then bif gD ((zA.Idxs.getD k19 AA).Col) 1 (IntKind.wrap .i64 ((zA.Cols.length:Int)-1))then bif gD ((zA.Idxs.getD k19 AA).Stage) 0 3 then bif decide (0<(k19:Int))then bif uI ((zA.Idxs.getD ((IntKind.wrap .i64 ((k19:Int)-1)).toNat) AA).Name) ((zA.Idxs.getD k19 AA).Name)then .cont ()else .ret false else .cont ()else .ret false else .ret false else .ret false
def RB(zA:YA):Bool:=bif tB zA.Name 1 then bif VG zA.Cols then bif decide (3<(zA.Idxs.length:Int))then false else SC (GA (mC zA) (zA.Idxs.length-0) 0 ()) (fun r=>r) (fun _=>true)else false else false
def wB(NA:KA)(XA:KA)(k3:Nat)(k6:Nat):Bool→CH Bool Bool | (x7)=>bif x7 then .cont (true)else .cont (decide (((NA.getD k3 0).toNat:Int)=((XA.getD k6 0).toNat:Int)))
def bC(NA:KA)(XA:KA)(k3:Nat):Unit→CH Bool Unit | ()=>bif decide (97≤((NA.getD k3 0).toNat:Int))then bif decide (((NA.getD k3 0).toNat:Int)≤122)then SC (GA (wB NA XA k3) (XA.length-0) 0 (true)) (fun r=>CH.ret r) (fun x7=>bif x7 then .cont ()else .ret false)else bif decide (48≤((NA.getD k3 0).toNat:Int))then SC (GA (wB NA XA k3) (XA.length-0) 0 (decide (((NA.getD k3 0).toNat:Int)≤57))) (fun r=>CH.ret r) (fun x12=>bif x12 then .cont ()else .ret false)else SC (GA (wB NA XA k3) (XA.length-0) 0 (false)) (fun r=>CH.ret r) (fun x15=>bif x15 then .cont ()else .ret false)else bif decide (48≤((NA.getD k3 0).toNat:Int))then SC (GA (wB NA XA k3) (XA.length-0) 0 (decide (((NA.getD k3 0).toNat:Int)≤57))) (fun r=>CH.ret r) (fun x19=>bif x19 then .cont ()else .ret false)else SC (GA (wB NA XA k3) (XA.length-0) 0 (false)) (fun r=>CH.ret r) (fun x22=>bif x22 then .cont ()else .ret false)
def cF(NA:KA)(XA:KA):Bool:=SC (GA (bC NA XA) (NA.length-0) 0 ()) (fun r=>r) (fun _=>true)
def HD(NA:KA):Bool:=bif gD (NA.length:Int) 1 3 then(cF NA ([]:KA))else false
def iG(TA:YA)(KD:PE)(k18:Nat):Unit→CH Bool Unit | ()=>bif HD (KD.Vals.getD k18 WA)then .cont ()else .ret false
def tD(TA:YA)(KD:PE):Bool:=SC (GA (iG TA KD) (KD.Vals.length-0) 0 ()) (fun r=>r) (fun _=>decide ((KD.Vals.length:Int)=(TA.Cols.length:Int)))
def FE(TA:YA)(wA:DB):Bool:=bif decide (wA.Kind=1)then bif decide ((wA.Old.Vals.length:Int)=0)then(tD TA wA.New)else false else bif decide (wA.Kind=2)then bif decide ((wA.New.Vals.length:Int)=0)then(tD TA wA.Old)else false else bif decide (wA.Kind=3)then bif tD TA wA.Old then bif tD TA wA.New then(wA.Old.Vals.getD 0 WA)==(wA.New.Vals.getD 0 WA)else false else false else false
def mH(TA:YA)(wA:DB):Bool:=bif RB TA then(FE TA wA)else false
def cE(NA:KA):Bool:=bif gD (NA.length:Int) 1 12 then(cF NA ([46,47]:KA))else false
def CE(NA:KA):Bool:=bif decide ((NA.length:Int)≤24)then(cF NA ([46,45,44,95]:KA))else false
def lD(lB:KA)(kD:KA)(cI:Bool):Bool:=bif cE lB then bif CE kD then bif cI then kD==([]:KA)else true else false else false
def FD(bB:List lA)(k3:Nat):Unit→CH Bool Unit | ()=>bif lD ((bB.getD k3 pA).Key) ((bB.getD k3 pA).Val) ((bB.getD k3 pA).Gone)then bif decide (0<(k3:Int))then bif uI ((bB.getD ((IntKind.wrap .i64 ((k3:Int)-1)).toNat) pA).Key) ((bB.getD k3 pA).Key)then .cont ()else .ret false else .cont ()else .ret false
def ZE(bB:List lA):Bool:=SC (GA (FD bB) (bB.length-0) 0 ()) (fun r=>r) (fun _=>decide ((bB.length:Int)≤24))
def kG(bB:List lA)(k3:Nat):Unit→CH Bool Unit | ()=>bif(bB.getD k3 pA).Gone then .ret false else .cont ()
def EC(bB:List lA):Bool:=SC (GA (kG bB) (bB.length-0) 0 ()) (fun r=>r) (fun _=>(ZE bB))
def wD(bF:YC):Bool:=bif cE bF.Key then bif decide (bF.Kind=2)then bif CE bF.Val then decide (bF.By=0)else false else bif decide (bF.Kind=7)then bif CE bF.Val then decide (bF.By=0)else false else bif decide (bF.Kind=4)then bif bF.Val==([]:KA)then(gD bF.By (-9999) 9999)else false else bif decide (bF.Kind=5)then bif bF.Val==([]:KA)then(gD bF.By (-9999) 9999)else false else bif decide (bF.Kind=1)then bif bF.Val==([]:KA)then decide (bF.By=0)else false else bif decide (bF.Kind=3)then bif bF.Val==([]:KA)then decide (bF.By=0)else false else bif decide (bF.Kind=6)then bif bF.Val==([]:KA)then decide (bF.By=0)else false else false else false
def jG(bB:List YC)(k3:Nat):Unit→CH Bool Unit | ()=>bif wD (bB.getD k3 AB)then .cont ()else .ret false
def pG(bB:List YC):Bool:=SC (GA (jG bB) (bB.length-0) 0 ()) (fun r=>r) (fun _=>decide ((bB.length:Int)≤8))
def OE(bB:List lA)(pD:lA):Int→CH (List lA) Int | (x11)=>bif decide (0<x11)then bif pM ((bB.getD ((IntKind.wrap .i64 (x11-1)).toNat) pA).Key) pD.Key then .brk (x11)else .cont (IntKind.wrap .i64 (x11-1))else .brk (x11)
def GC(bB:List lA)(pD:lA):List lA:=SC (EE (OE bB pD) ((((bB.length:Int)).toNat)+1) ((bB.length:Int))) (fun r=>r) (fun x11=>bif decide (0<x11)then bif((bB.getD ((IntKind.wrap .i64 (x11-1)).toNat) pA).Key)==pD.Key then((([]:List lA)++bB).set ((IntKind.wrap .i64 (x11-1)).toNat) pD)else(((([]:List lA)++(bB.take ((x11).toNat)))++([pD]:List lA))++(([]:List lA)++(bB.drop ((x11).toNat))))else(((([]:List lA)++(bB.take ((x11).toNat)))++([pD]:List lA))++(([]:List lA)++(bB.drop ((x11).toNat)))))
def GE(eE:List lA)(lC:List yD)(lB:KA)(k6:Nat):Unit→CH (KA×Bool×Bool) Unit | ()=>bif((eE.getD k6 pA).Key)==lB then .ret ((eE.getD k6 pA).Val,!((eE.getD k6 pA).Gone),true)else .cont ()
def eF(eE:List lA)(lC:List yD)(lB:KA)(k29:Nat):Unit→CH (KA×Bool×Bool) Unit | ()=>bif((lC.getD k29 EF).Key)==lB then .ret ((lC.getD k29 EF).Val,(lC.getD k29 EF).There,true)else .cont ()
def nB(eE:List lA)(lC:List yD)(lB:KA):KA×Bool×Bool:=SC (GA (GE eE lC lB) (eE.length-0) 0 ()) (fun r=>r) (fun _=>SC (GA (eF eE lC lB) (lC.length-0) 0 ()) (fun r=>r) (fun _=>(([]:KA),false,false)))
def VC(NA:KA)(k8:Nat):Int→CH Int Int | (x9)=>bif decide (((NA.getD k8 0).toNat:Int)<48)then .ret (-1)else bif decide (57<((NA.getD k8 0).toNat:Int))then .ret (-1)else .cont (IntKind.wrap .i64 ((IntKind.wrap .i64 (10*x9))+(IntKind.wrap .i64 (IntKind.wrap .u8 (((NA.getD k8 0).toNat:Int)-48)))))
def fE(NA:KA):Int:=bif gD (NA.length:Int) 1 6 then bif decide (((NA.getD 0 0).toNat:Int)=48)then bif decide (1<(NA.length:Int))then -1 else SC (GA (VC NA) (NA.length-0) 0 (0)) (fun r=>r) (fun x9=>x9)else SC (GA (VC NA) (NA.length-0) 0 (0)) (fun r=>r) (fun x13=>x13)else -1
def dE(NA:KA):Int×Bool:=bif decide (0<(NA.length:Int))then bif decide (((NA.getD 0 0).toNat:Int)=45)then bif decide ((fE (NA.drop 1))<0)then(0,false)else bif decide ((fE (NA.drop 1))=0)then(0,false)else(IntKind.wrap .i64 (0-(fE (NA.drop 1))),true)else bif decide ((fE NA)<0)then(0,false)else((fE NA),true)else bif decide ((fE NA)<0)then(0,false)else((fE NA),true)
def UC(bF:YC)(kD:KA)(sD:Bool):Bool:=bif decide (bF.Kind=4)then bif sD then bif(dE kD).2 then !(gD (IntKind.wrap .i64 (((dE kD).1)+bF.By)) (-999999) 999999)else true else false else bif decide (bF.Kind=5)then bif sD then bif(dE kD).2 then decide (((dE kD).1)<bF.By)else true else true else bif decide (bF.Kind=6)then sD else bif decide (bF.Kind=7)then bif sD then !(kD==bF.Val)else true else false
def eJ(sJ:Int):KA:=DU ([IntKind.wrap .u8 (IntKind.wrap .i64 (48+sJ))]:List Int)
def VE(sJ:Int):KA:=bif decide (sJ<0)then([45]:KA)++(eJ (IntKind.wrap .i64 (0-sJ)))else(eJ sJ)
def WB(zA:List YC)(cB:List yD)(k5:Nat):(List lA)→CH (Int×KA×(List lA)) (List lA) | (x174)=>bif(nB x174 cB ((zA.getD k5 AB).Key)).2.2 then bif UC (zA.getD k5 AB) ((nB x174 cB ((zA.getD k5 AB).Key)).1) ((nB x174 cB ((zA.getD k5 AB).Key)).2.1)then .ret (2,([]:KA),([]:List lA))else bif decide (((zA.getD k5 AB).Kind)=2)then .cont ((GC x174 (⟨(zA.getD k5 AB).Key,(zA.getD k5 AB).Val,false⟩:lA)))else bif decide (((zA.getD k5 AB).Kind)=3)then .cont ((GC x174 (⟨(zA.getD k5 AB).Key,([]:KA),true⟩:lA)))else bif decide (((zA.getD k5 AB).Kind)=4)then bif(nB x174 cB ((zA.getD k5 AB).Key)).2.1 then .cont ((GC x174 (⟨(zA.getD k5 AB).Key,(VE (IntKind.wrap .i64 (((dE ((nB x174 cB ((zA.getD k5 AB).Key)).1)).1)+((zA.getD k5 AB).By)))),false⟩:lA)))else .cont ((GC x174 (⟨(zA.getD k5 AB).Key,(VE (IntKind.wrap .i64 (0+((zA.getD k5 AB).By)))),false⟩:lA)))else .cont (x174)else bif decide (((zA.getD k5 AB).Kind)=2)then bif UC (zA.getD k5 AB) ((nB x174 cB ((zA.getD k5 AB).Key)).1) ((nB x174 cB ((zA.getD k5 AB).Key)).2.1)then .ret (2,([]:KA),([]:List lA))else .cont ((GC x174 (⟨(zA.getD k5 AB).Key,(zA.getD k5 AB).Val,false⟩:lA)))else bif decide (((zA.getD k5 AB).Kind)=3)then bif UC (zA.getD k5 AB) ((nB x174 cB ((zA.getD k5 AB).Key)).1) ((nB x174 cB ((zA.getD k5 AB).Key)).2.1)then .ret (2,([]:KA),([]:List lA))else .cont ((GC x174 (⟨(zA.getD k5 AB).Key,([]:KA),true⟩:lA)))else .ret (1,(zA.getD k5 AB).Key,([]:List lA))
def AC(zA:List YC)(cB:List yD):Int×KA×(List lA):=SC (GA (WB zA cB) (zA.length-0) 0 (([]:List lA))) (fun r=>r) (fun x174=>(3,([]:KA),x174))
def BF(OA:List lA)(lB:KA)(k10:Nat):Unit→CH yD Unit | ()=>bif((OA.getD k10 pA).Key)==lB then .ret (⟨lB,(OA.getD k10 pA).Val,true⟩:yD)else .cont ()
def vE(OA:List lA)(lB:KA):yD:=SC (GA (BF OA lB) (OA.length-0) 0 ()) (fun r=>r) (fun _=>(⟨lB,([]:KA),false⟩:yD))
def NE(OA:List lA)(bB:List YC):(List yD)→CH ((List yD)×(List lA)×Bool) (List yD) | (x38)=>bif decide (((AC bB x38).1)=1)then .cont ((x38++([(vE OA ((AC bB x38).2.1))]:List yD)))else .ret (x38,(AC bB x38).2.2,decide (((AC bB x38).1)=3))
def SB(OA:List lA)(bB:List YC):(List yD)×(List lA)×Bool:=SC (EE (NE OA bB) (((bB.filter fun o=>!(([]:List yD).any fun g=>g.Key==o.Key)).length)+1) (([]:List yD))) (fun r=>r) (fun x38=>(([]:List yD),([]:List lA),false))
def yG(OA:List lA)(pD:List lA)(k26:Nat):(List lA)→CH (List lA) (List lA) | (x65)=>.cont ((GC x65 (pD.getD k26 pA)))
def jF(OA:List lA)(pD:List lA)(x65:List lA)(k88:Nat):(List lA)→CH (List lA) (List lA) | (x145)=>bif(x65.getD k88 pA).Gone then .cont (x145)else .cont ((x145++([(x65.getD k88 pA)]:List lA)))
def KB(OA:List lA)(pD:List lA):List lA:=SC (GA (yG OA pD) (pD.length-0) 0 ((([]:List lA)++OA))) (fun r=>r) (fun x65=>SC (GA (jF OA pD x65) (x65.length-0) 0 (([]:List lA))) (fun r=>r) (fun x145=>x145))
def CD(zA:List lA)(cB:List (List YC))(k10:Nat):Unit→CH ((List lA)×(List Bool)×Bool) Unit | ()=>bif pG (cB.getD k10 rG)then .cont ()else .ret (([]:List lA),([]:List Bool),false)
def vD(zA:List lA)(cB:List (List YC))(k38:Nat):(List lA)×(List Bool)→CH ((List lA)×(List Bool)×Bool) ((List lA)×(List Bool)) | (x119,x124)=>bif(SB x119 (cB.getD k38 rG)).2.2 then bif EC (KB x119 ((SB x119 (cB.getD k38 rG)).2.1))then .cont ((KB x119 ((SB x119 (cB.getD k38 rG)).2.1)),(x124++([(EC (KB x119 ((SB x119 (cB.getD k38 rG)).2.1)))]:List Bool)))else .cont (x119,(x124++([(EC (KB x119 ((SB x119 (cB.getD k38 rG)).2.1)))]:List Bool)))else .cont (x119,(x124++([false]:List Bool)))
def QB(zA:List lA)(cB:List (List YC)):(List lA)×(List Bool)×Bool:=bif EC zA then bif decide (20<(cB.length:Int))then(([]:List lA),([]:List Bool),false)else SC (GA (CD zA cB) (cB.length-0) 0 ()) (fun r=>r) (fun _=>SC (GA (vD zA cB) (cB.length-0) 0 ((([]:List lA)++zA),([]:List Bool))) (fun r=>r) (fun(x119,x124)=>(x119,x124,true)))else(([]:List lA),([]:List Bool),false)
def sH(ps:List lA)(ND:List YC):(List lA)×Bool:=bif decide ((((QB ps ([ND]:List (List YC))).2.1).length:Int)=1)then((QB ps ([ND]:List (List YC))).1,(((QB ps ([ND]:List (List YC))).2.1).getD 0 SN))else((QB ps ([ND]:List (List YC))).1,false)
def gG(bB:List KA)(gK:KA)(k4:Nat):KA→CH KA KA | (x12)=>bif decide (0<(k4:Int))then .cont ((x12++gK)++(bB.getD k4 WA))else .cont (x12++(bB.getD k4 WA))
def aI(bB:List KA)(gK:KA):KA:=SC (GA (gG bB gK) (bB.length-0) 0 (([]:KA))) (fun r=>r) (fun x12=>x12)
def jB(TA:YA)(KD:PE):lA:=(⟨(TA.Name++([47]:KA))++(KD.Vals.getD 0 WA),(aI (KD.Vals.drop 1) ([44]:KA)),false⟩:lA)
def SE(TA:YA)(wA:DB):List YC:=bif decide (wA.Kind=1)then([(⟨6,(jB TA wA.New).Key,([]:KA),0⟩:YC),(⟨2,(jB TA wA.New).Key,(jB TA wA.New).Val,0⟩:YC)]:List YC)else bif decide (wA.Kind=2)then([(⟨7,(jB TA wA.Old).Key,(jB TA wA.Old).Val,0⟩:YC),(⟨3,(jB TA wA.Old).Key,([]:KA),0⟩:YC)]:List YC)else([(⟨7,(jB TA wA.Old).Key,(jB TA wA.Old).Val,0⟩:YC),(⟨2,(jB TA wA.Old).Key,(jB TA wA.New).Val,0⟩:YC)]:List YC)
def aB(TA:YA)(iC:XD)(KD:PE):KA:=(((((TA.Name++([46]:KA))++iC.Name)++([47]:KA))++(KD.Vals.getD ((iC.Col).toNat) WA))++([47]:KA))++(KD.Vals.getD 0 WA)
def fC(TA:YA)(iC:XD)(wA:DB):List YC:=bif decide (wA.Kind=1)then bif decide (wA.Kind=2)then([]:List YC)else bif(aB TA iC wA.New)==([]:KA)then([]:List YC)else bif decide (2≤iC.Stage)then(([]:List YC)++([(⟨2,(aB TA iC wA.New),([]:KA),0⟩:YC)]:List YC))else([]:List YC)else bif decide (wA.Kind=2)then bif(aB TA iC wA.Old)==([]:KA)then([]:List YC)else bif decide (1≤iC.Stage)then(([]:List YC)++([(⟨3,(aB TA iC wA.Old),([]:KA),0⟩:YC)]:List YC))else([]:List YC)else bif(aB TA iC wA.Old)==([]:KA)then bif(aB TA iC wA.New)==([]:KA)then([]:List YC)else bif decide (2≤iC.Stage)then(([]:List YC)++([(⟨2,(aB TA iC wA.New),([]:KA),0⟩:YC)]:List YC))else([]:List YC)else bif(aB TA iC wA.Old)==(aB TA iC wA.New)then bif(aB TA iC wA.New)==([]:KA)then([]:List YC)else bif decide (2≤iC.Stage)then(([]:List YC)++([(⟨2,(aB TA iC wA.New),([]:KA),0⟩:YC)]:List YC))else([]:List YC)else bif decide (1≤iC.Stage)then bif(aB TA iC wA.New)==([]:KA)then(([]:List YC)++([(⟨3,(aB TA iC wA.Old),([]:KA),0⟩:YC)]:List YC))else bif decide (2≤iC.Stage)then((([]:List YC)++([(⟨3,(aB TA iC wA.Old),([]:KA),0⟩:YC)]:List YC))++([(⟨2,(aB TA iC wA.New),([]:KA),0⟩:YC)]:List YC))else(([]:List YC)++([(⟨3,(aB TA iC wA.Old),([]:KA),0⟩:YC)]:List YC))else bif(aB TA iC wA.New)==([]:KA)then([]:List YC)else bif decide (2≤iC.Stage)then(([]:List YC)++([(⟨2,(aB TA iC wA.New),([]:KA),0⟩:YC)]:List YC))else([]:List YC)
def OH(TA:YA)(wA:DB)(k26:Nat):(List YC)→CH (List YC) (List YC) | (x88)=>.cont ((x88++(fC TA (TA.Idxs.getD k26 AA) wA)))
def vF(TA:YA)(wA:DB):List YC:=SC (GA (OH TA wA) (TA.Idxs.length-0) 0 ((SE TA wA))) (fun r=>r) (fun x88=>x88)
def nD(TA:YA)(ps:List lA)(wA:DB):(List lA)×Bool×Bool:=bif mH TA wA then bif EC ps then((sH ps (vF TA wA)).1,(sH ps (vF TA wA)).2,true)else(([]:List lA),false,false)else(([]:List lA),false,false)
def iH(wA:List KA)(k10:Nat):(List KA)→CH (List KA) (List KA) | (x18)=>.cont ((x18.set k10 (wA.getD k10 WA)))
def rN(wA:List KA):List KA:=SC (GA (iH wA) (wA.length-0) 0 ((List.replicate wA.length WA))) (fun r=>r) (fun x18=>x18)
def lT(wA:XD):XD:=wA
def lI(wA:List XD)(k10:Nat):(List XD)→CH (List XD) (List XD) | (x21)=>.cont ((x21.set k10 (wA.getD k10 AA)))
def HR(wA:List XD):List XD:=SC (GA (lI wA) (wA.length-0) 0 ((List.replicate wA.length AA))) (fun r=>r) (fun x21=>x21)
def zP(wA:YA):YA:=wA
def AP(wA:lA):lA:=wA
def GH(wA:List lA)(k10:Nat):(List lA)→CH (List lA) (List lA) | (x21)=>.cont ((x21.set k10 (wA.getD k10 pA)))
def dO(wA:List lA):List lA:=SC (GA (GH wA) (wA.length-0) 0 ((List.replicate wA.length pA))) (fun r=>r) (fun x21=>x21)
def mT(wA:PE):PE:=wA
def cO(wA:DB):DB:=wA
def LC(sJ:Int)(uK:Int)(vJ:Int):Bool:=bif decide (uK≤sJ)then decide (sJ≤vJ)else false
def SD(NA:KA)(qE:Int)(k2:Nat):Unit→CH Bool Unit | ()=>bif decide (((NA.getD k2 0).toNat:Int)<97)then .ret false else bif decide (122<((NA.getD k2 0).toNat:Int))then .ret false else .cont ()
def nC(NA:KA)(qE:Int):Bool:=SC (GA (SD NA qE) (NA.length-0) 0 ()) (fun r=>r) (fun _=>(LC (NA.length:Int) 1 qE))
def mD(NA:List KA)(bN:KA)(k4:Nat):Unit→CH Int Unit | ()=>bif bN==(NA.getD k4 WA)then .ret (k4:Int)else .cont ()
def aF(NA:List KA)(bN:KA):Int:=SC (GA (mD NA bN) (NA.length-0) 0 ()) (fun r=>r) (fun _=>-1)
def xE(NA:List KA)(bN:KA):Bool:=decide (0≤(aF NA bN))
def RE(fH:Int):Bool:=(LC fH 0 3)
def RD(zA:YA)(k19:Nat):Unit→CH Bool Unit | ()=>bif nC (zA.Cols.getD k19 WA) 3 then bif xE (zA.Cols.take k19) (zA.Cols.getD k19 WA)then .ret false else .cont ()else .ret false
def vC(zA:YA)(k35:Nat):Unit→CH Bool Unit | ()=>bif nC ((zA.Idxs.getD k35 AA).Name) 1 then bif LC ((zA.Idxs.getD k35 AA).Col) 1 (IntKind.wrap .i64 ((zA.Cols.length:Int)-1))then bif RE ((zA.Idxs.getD k35 AA).Stage)then bif decide (0<(k35:Int))then bif pM ((zA.Idxs.getD k35 AA).Name) ((zA.Idxs.getD ((IntKind.wrap .i64 ((k35:Int)-1)).toNat) AA).Name)then .ret false else .cont ()else .cont ()else .ret false else .ret false else .ret false
def MC(zA:YA):Bool:=bif nC zA.Name 1 then bif LC (zA.Cols.length:Int) 2 4 then bif decide (3<(zA.Idxs.length:Int))then false else SC (GA (RD zA) (zA.Cols.length-0) 0 ()) (fun r=>r) (fun _=>SC (GA (vC zA) (zA.Idxs.length-0) 0 ()) (fun r=>r) (fun _=>true))else false else false
def KC(NA:List KA)(FH:KA→Bool)(k7:Nat):Unit→CH Int Unit | ()=>bif FH (NA.getD k7 WA)then .ret (k7:Int)else .cont ()
def nE(NA:List KA)(FH:KA→Bool):Int:=SC (GA (KC NA FH) (NA.length-0) 0 ()) (fun r=>r) (fun _=>-1)
def tE(NA:List KA)(FH:KA→Bool):Bool:=decide (0≤(nE NA FH))
def RC(ED:Int):Bool:=bif decide (97≤ED)then bif decide (ED≤122)then true else bif decide (48≤ED)then decide (ED≤57)else false else bif decide (48≤ED)then decide (ED≤57)else false
def eD(NA:KA)(rT:Int):Int:=bU NA rT
def NF(NA:KA)(rT:Int):Int:=(eD NA rT)
def sE(NA:KA)(tF:KA)(k3:Nat):Unit→CH Bool Unit | ()=>bif RC ((NA.getD k3 0).toNat:Int)then .cont ()else bif decide ((NF tF ((NA.getD k3 0).toNat:Int))<0)then .ret false else .cont ()
def AH(NA:KA)(tF:KA):Bool:=SC (GA (sE NA tF) (NA.length-0) 0 ()) (fun r=>r) (fun _=>true)
def ZH(NA:KA):Bool:=bif LC (NA.length:Int) 1 3 then(AH NA ([]:KA))else false
def TG(NA:KA):Bool:=!(ZH NA)
def cC(TA:YA)(KD:PE):Bool:=bif decide ((KD.Vals.length:Int)=(TA.Cols.length:Int))then !(tE KD.Vals (fun y0=>TG y0))else false
def PB(TA:YA)(wA:DB):Bool:=bif decide (wA.Kind=1)then bif decide ((wA.Old.Vals.length:Int)=0)then(cC TA wA.New)else false else bif decide (wA.Kind=2)then bif cC TA wA.Old then decide ((wA.New.Vals.length:Int)=0)else false else bif decide (wA.Kind=3)then bif cC TA wA.Old then bif cC TA wA.New then(wA.Old.Vals.getD 0 WA)==(wA.New.Vals.getD 0 WA)else false else false else false
def DE(TA:YA)(wA:DB):Bool:=bif MC TA then(PB TA wA)else false
def NC(NA:List lA)(FH:lA→Bool)(k7:Nat):Unit→CH Int Unit | ()=>bif FH (NA.getD k7 pA)then .ret (k7:Int)else .cont ()
def ZC(NA:List lA)(FH:lA→Bool):Int:=SC (GA (NC NA FH) (NA.length-0) 0 ()) (fun r=>r) (fun _=>-1)
def aE(NA:List lA)(FH:lA→Bool):Bool:=decide (0≤(ZC NA FH))
def qI(NA:KA):Bool:=bif LC (NA.length:Int) 1 12 then(AH NA ([46,47]:KA))else false
def uD(VD:List KA)(k3:Nat):Unit→CH Bool Unit | ()=>bif qI (VD.getD k3 WA)then bif decide (0<(k3:Int))then bif pM (VD.getD k3 WA) (VD.getD ((IntKind.wrap .i64 ((k3:Int)-1)).toNat) WA)then .ret false else .cont ()else .cont ()else .ret false
def nG(VD:List KA):Bool:=SC (GA (uD VD) (VD.length-0) 0 ()) (fun r=>r) (fun _=>true)
def xG(bB:List lA)(k10:Nat):(List KA)→CH (List KA) (List KA) | (x60)=>.cont ((x60++([(bB.getD k10 pA).Key]:List KA)))
def oG(bB:List lA):List KA:=SC (GA (xG bB) (bB.length-0) 0 (([]:List KA))) (fun r=>r) (fun x60=>x60)
def rI(NA:KA):Bool:=bif decide ((NA.length:Int)≤24)then(AH NA ([46,45,44,95]:KA))else false
def lF(kD:KA)(cI:Bool):Bool:=bif rI kD then bif cI then !(!(kD==([]:KA)))else !false else false
def FG(pD:lA):Bool:=!(lF pD.Val pD.Gone)
def JF(bB:List lA):Bool:=bif decide ((bB.length:Int)≤24)then bif nG (oG bB)then !(aE bB (fun y0=>FG y0))else false else false
def oJ(pD:lA):Bool:=pD.Gone
def WH(OA:List lA):Bool:=bif JF OA then !(aE OA (fun y0=>oJ y0))else false
def rB(iC:List lA)(UE:KA)(rJ:lA→KA→Int):Int×Int→CH (Int×Bool) (Int×Int) | (x9,x10)=>bif decide (x9<x10)then bif decide ((rJ (iC.getD ((IntKind.wrap .i64 (Int.fdiv (IntKind.wrap .u64 (IntKind.wrap .i64 (x9+x10))) 2)).toNat) pA) UE)<0)then .cont (IntKind.wrap .i64 ((IntKind.wrap .i64 (Int.fdiv (IntKind.wrap .u64 (IntKind.wrap .i64 (x9+x10))) 2))+1),x10)else .cont (x9,IntKind.wrap .i64 (Int.fdiv (IntKind.wrap .u64 (IntKind.wrap .i64 (x9+x10))) 2))else .brk (x9,x10)
def vB(iC:List lA)(UE:KA)(rJ:lA→KA→Int):Int×Bool:=SC (EE (rB iC UE rJ) ((((iC.length:Int)-0).toNat)+1) (0,(iC.length:Int))) (fun r=>r) (fun(x9,x10)=>bif decide (x9<(iC.length:Int))then(x9,decide ((rJ (iC.getD ((x9).toNat) pA) UE)=0))else(x9,false))
def YD(iC:KA):Bool:=!(iC==iC)
def qC(iC:KA)(XO:KA):Int:=bif YD iC then bif YD XO then 0 else -1 else bif YD XO then 1 else bif uI iC XO then -1 else bif pM iC XO then 0 else 1
def cH(pD:lA)(lB:KA):Int:=(qC pD.Key lB)
def HB(bB:List lA)(lB:KA):Int×Bool:=((vB bB lB (fun y0 y1=>cH y0 y1)).1,(vB bB lB (fun y0 y1=>cH y0 y1)).2)
def XH(NA:List lA)(SG:Nat)(iC:lA):List lA:=NA.take SG++iC::NA.drop SG
def VF(NA:List lA)(SG:Int)(iC:lA):List lA:=XH NA SG.toNat iC
def zD(bB:List lA)(pD:lA):List lA:=bif(HB bB pD.Key).2 then(bB.set (((HB bB pD.Key).1).toNat) pD)else(VF bB ((HB bB pD.Key).1) pD)
def xF(lB:KA)(DC:List lA)(lC:List yD)(k12:Nat):Unit→CH (KA×Bool×Bool) Unit | ()=>bif((lC.getD k12 EF).Key)==lB then .ret ((lC.getD k12 EF).Val,(lC.getD k12 EF).There,true)else .cont ()
def qD(lB:KA)(DC:List lA)(lC:List yD):KA×Bool×Bool:=bif(HB DC lB).2 then((DC.getD (((HB DC lB).1).toNat) pA).Val,!((DC.getD (((HB DC lB).1).toNat) pA).Gone),true)else SC (GA (xF lB DC lC) (lC.length-0) 0 ()) (fun r=>r) (fun _=>(([]:KA),false,false))
def XE(NA:KA):Int×Bool:=match Go.Lib.atoiAll NA with
 | .ok n=>bif LC n (-999999) 999999&&(Go.Lib.itoa n==NA)then(n,true)else(0,false)
 | _=>(0,false)
def iD(bF:YC)(kD:KA)(sD:Bool):Bool:=bif decide (bF.Kind=4)then bif sD then bif(XE kD).2 then(LC (IntKind.wrap .i64 (((XE kD).1)+bF.By)) (-999999) 999999)else false else true else bif decide (bF.Kind=5)then bif sD then bif(XE kD).2 then decide (bF.By≤((XE kD).1))else false else false else bif decide (bF.Kind=6)then !sD else bif decide (bF.Kind=7)then bif sD then kD==bF.Val else false else true
def oL(SG:Int):KA:=[(48+SG).toNat.toUInt8]
def xC(zA:List YC)(cB:List yD)(k12:Nat):(List lA)→CH (Int×KA×(List lA)) (List lA) | (x86)=>bif decide (((zA.getD k12 AB).Kind)=2)then .cont ((zD x86 (⟨(zA.getD k12 AB).Key,(zA.getD k12 AB).Val,false⟩:lA)))else bif decide (((zA.getD k12 AB).Kind)=3)then .cont ((zD x86 (⟨(zA.getD k12 AB).Key,([]:KA),true⟩:lA)))else bif(qD ((zA.getD k12 AB).Key) x86 cB).2.2 then bif iD (zA.getD k12 AB) ((qD ((zA.getD k12 AB).Key) x86 cB).1) ((qD ((zA.getD k12 AB).Key) x86 cB).2.1)then .cont (x86)else .ret (2,([]:KA),([]:List lA))else .ret (1,(zA.getD k12 AB).Key,([]:List lA))
def pC(zA:List YC)(cB:List yD):Int×KA×(List lA):=SC (GA (xC zA cB) (zA.length-0) 0 (([]:List lA))) (fun r=>r) (fun x86=>(3,([]:KA),x86))
def kF(OA:List lA)(lB:KA):yD:=bif(HB OA lB).2 then(⟨lB,(OA.getD (((HB OA lB).1).toNat) pA).Val,true⟩:yD)else(⟨lB,([]:KA),false⟩:yD)
def dF(OA:List lA)(bB:List YC):(List yD)→CH ((List yD)×(List lA)×Bool) (List yD) | (x45)=>bif decide (((pC bB x45).1)=1)then .cont ((x45++([(kF OA ((pC bB x45).2.1))]:List yD)))else .ret (x45,(pC bB x45).2.2,decide (((pC bB x45).1)=3))
def QD(OA:List lA)(bB:List YC):(List yD)×(List lA)×Bool:=SC (EE (dF OA bB) (((bB.filter fun o=>!((([]:List yD):List yD).any fun g=>g.Key==o.Key)).length)+1) (([]:List yD))) (fun r=>r) (fun x45=>(([]:List yD),([]:List lA),false))
def CC(NA:List lA):List lA:=(([]:List lA)++NA)
def wC(NA:List lA)(FH:lA→Bool):List lA:=NA.filter fun y=>!FH y
def MG(iC:lA):Bool:=iC.Gone
def uH(OA:List lA)(pD:List lA)(k12:Nat):(List lA)→CH ((List lA)×Bool) (List lA) | (x48)=>.cont ((zD x48 (pD.getD k12 pA)))
def qF(OA:List lA)(pD:List lA):(List lA)×Bool:=SC (GA (uH OA pD) (pD.length-0) 0 ((CC OA))) (fun r=>r) (fun x48=>bif decide (24<((wC x48 (fun y0=>MG y0)).length:Int))then(([]:List lA),false)else((wC x48 (fun y0=>MG y0)),true))
def WF(ps:List lA)(ND:List YC):(List lA)×Bool:=bif(QD ps ND).2.2 then bif(qF ps ((QD ps ND).2.1)).2 then((qF ps ((QD ps ND).2.1)).1,true)else((([]:List lA)++ps),false)else((([]:List lA)++ps),false)
def fD(dI:List KA)(QI:KA):KA:=QI.intercalate dI
def FA(TA:YA)(KD:PE):lA:=(⟨(TA.Name++([47]:KA))++(KD.Vals.getD 0 WA),(fD (KD.Vals.drop 1) ([44]:KA)),false⟩:lA)
def HC(TA:YA)(pn:KA):KA:=((TA.Name++([46]:KA))++pn)++([47]:KA)
def cD(NA:List XD)(FH:XD→Bool)(k7:Nat):Unit→CH Int Unit | ()=>bif FH (NA.getD k7 AA)then .ret (k7:Int)else .cont ()
def oE(NA:List XD)(FH:XD→Bool):Int:=SC (GA (cD NA FH) (NA.length-0) 0 ()) (fun r=>r) (fun _=>-1)
def ZD(iC:XD)(lM:KA):Bool:=iC.Name==lM
def LB(TA:YA)(pn:KA):Int:=(oE TA.Idxs (fun y0=>ZD y0 pn))
def zB(TA:YA)(pn:KA):XD:=(TA.Idxs.getD (((LB TA pn)).toNat) AA)
def EA(TA:YA)(pn:KA)(KD:PE):KA:=(((HC TA pn)++(KD.Vals.getD (((zB TA pn).Col).toNat) WA))++([47]:KA))++(KD.Vals.getD 0 WA)
def NI(fH:Int):Bool:=decide (1≤fH)
def tG(fH:Int):Bool:=decide (2≤fH)
def SA(zA:YA)(cB:DB)(k106:Nat):(List YC)→CH (List YC) (List YC) | (x149)=>bif decide (cB.Kind=1)then bif(EA zA ((zA.Idxs.getD k106 AA).Name) cB.New)==([]:KA)then .cont (x149)else bif tG ((zA.Idxs.getD k106 AA).Stage)then .cont ((x149++([(⟨2,(EA zA ((zA.Idxs.getD k106 AA).Name) cB.New),([]:KA),0⟩:YC)]:List YC)))else .cont (x149)else bif decide (cB.Kind=2)then bif(EA zA ((zA.Idxs.getD k106 AA).Name) cB.Old)==([]:KA)then .cont (x149)else bif NI ((zA.Idxs.getD k106 AA).Stage)then .cont ((x149++([(⟨3,(EA zA ((zA.Idxs.getD k106 AA).Name) cB.Old),([]:KA),0⟩:YC)]:List YC)))else .cont (x149)else bif(EA zA ((zA.Idxs.getD k106 AA).Name) cB.Old)==([]:KA)then bif(EA zA ((zA.Idxs.getD k106 AA).Name) cB.New)==([]:KA)then .cont (x149)else bif tG ((zA.Idxs.getD k106 AA).Stage)then .cont ((x149++([(⟨2,(EA zA ((zA.Idxs.getD k106 AA).Name) cB.New),([]:KA),0⟩:YC)]:List YC)))else .cont (x149)else bif(EA zA ((zA.Idxs.getD k106 AA).Name) cB.Old)==(EA zA ((zA.Idxs.getD k106 AA).Name) cB.New)then bif(EA zA ((zA.Idxs.getD k106 AA).Name) cB.New)==([]:KA)then .cont (x149)else bif tG ((zA.Idxs.getD k106 AA).Stage)then .cont ((x149++([(⟨2,(EA zA ((zA.Idxs.getD k106 AA).Name) cB.New),([]:KA),0⟩:YC)]:List YC)))else .cont (x149)else bif NI ((zA.Idxs.getD k106 AA).Stage)then bif(EA zA ((zA.Idxs.getD k106 AA).Name) cB.New)==([]:KA)then .cont ((x149++([(⟨3,(EA zA ((zA.Idxs.getD k106 AA).Name) cB.Old),([]:KA),0⟩:YC)]:List YC)))else bif tG ((zA.Idxs.getD k106 AA).Stage)then .cont (((x149++([(⟨3,(EA zA ((zA.Idxs.getD k106 AA).Name) cB.Old),([]:KA),0⟩:YC)]:List YC))++([(⟨2,(EA zA ((zA.Idxs.getD k106 AA).Name) cB.New),([]:KA),0⟩:YC)]:List YC)))else .cont ((x149++([(⟨3,(EA zA ((zA.Idxs.getD k106 AA).Name) cB.Old),([]:KA),0⟩:YC)]:List YC)))else bif(EA zA ((zA.Idxs.getD k106 AA).Name) cB.New)==([]:KA)then .cont (x149)else bif tG ((zA.Idxs.getD k106 AA).Stage)then .cont ((x149++([(⟨2,(EA zA ((zA.Idxs.getD k106 AA).Name) cB.New),([]:KA),0⟩:YC)]:List YC)))else .cont (x149)
def oD(zA:YA)(cB:DB):List YC:=bif decide (cB.Kind=1)then SC (GA (SA zA cB) (zA.Idxs.length-0) 0 (((([]:List YC)++([(⟨6,(FA zA cB.New).Key,([]:KA),0⟩:YC)]:List YC))++([(⟨2,(FA zA cB.New).Key,(FA zA cB.New).Val,0⟩:YC)]:List YC)))) (fun r=>r) (fun x149=>x149)else bif decide (cB.Kind=2)then SC (GA (SA zA cB) (zA.Idxs.length-0) 0 (((([]:List YC)++([(⟨7,(FA zA cB.Old).Key,(FA zA cB.Old).Val,0⟩:YC)]:List YC))++([(⟨3,(FA zA cB.Old).Key,([]:KA),0⟩:YC)]:List YC)))) (fun r=>r) (fun x470=>x470)else SC (GA (SA zA cB) (zA.Idxs.length-0) 0 (((([]:List YC)++([(⟨7,(FA zA cB.Old).Key,(FA zA cB.Old).Val,0⟩:YC)]:List YC))++([(⟨2,(FA zA cB.New).Key,(FA zA cB.New).Val,0⟩:YC)]:List YC)))) (fun r=>r) (fun x663=>x663)
def zC(TA:YA)(ps:List lA)(wA:DB):(List lA)×Bool×Bool:=bif DE TA wA then bif WH ps then((WF ps (oD TA wA)).1,(WF ps (oD TA wA)).2,true)else(([]:List lA),false,false)else(([]:List lA),false,false)
def OF(wA:lA)(ED:lA):Bool:=bif wA.Key==ED.Key then bif wA.Val==ED.Val then bif wA.Gone==ED.Gone then true else false else false else false
def yF(wA:List lA)(ED:List lA)(k4:Nat):Unit→CH Bool Unit | ()=>bif OF (wA.getD k4 pA) (ED.getD k4 pA)then .cont ()else .ret false
def GG(wA:List lA)(ED:List lA):Bool:=bif decide ((wA.length:Int)=(ED.length:Int))then SC (GA (yF wA ED) (wA.length-0) 0 ()) (fun r=>r) (fun _=>true)else false
def iF(wA:List KA)(ED:List KA)(k4:Nat):Unit→CH Bool Unit | ()=>bif(wA.getD k4 WA)==(ED.getD k4 WA)then .cont ()else .ret false
def QF(wA:List KA)(ED:List KA):Bool:=bif decide ((wA.length:Int)=(ED.length:Int))then SC (GA (iF wA ED) (wA.length-0) 0 ()) (fun r=>r) (fun _=>true)else false
def EH(wA:XD)(ED:XD):Bool:=bif wA.Name==ED.Name then bif decide (wA.Col=ED.Col)then bif decide (wA.Stage=ED.Stage)then true else false else false else false
def KG(wA:List XD)(ED:List XD)(k4:Nat):Unit→CH Bool Unit | ()=>bif EH (wA.getD k4 AA) (ED.getD k4 AA)then .cont ()else .ret false
def xI(wA:List XD)(ED:List XD):Bool:=bif decide ((wA.length:Int)=(ED.length:Int))then SC (GA (KG wA ED) (wA.length-0) 0 ()) (fun r=>r) (fun _=>true)else false
def bG(wA:YA)(ED:YA):Bool:=bif wA.Name==ED.Name then bif QF wA.Cols ED.Cols then bif xI wA.Idxs ED.Idxs then true else false else false else false
def SI(wA:PE)(ED:PE):Bool:=bif QF wA.Vals ED.Vals then true else false
def mF(wA:DB)(ED:DB):Bool:=bif decide (wA.Kind=ED.Kind)then bif SI wA.Old ED.Old then bif SI wA.New ED.New then true else false else false else false
def mG(lE:Int):Int×KA→CH KA (Int×KA) | (x15,x16)=>bif decide (0<x15)then .cont (IntKind.wrap .i64 (Int.tdiv x15 10),(DU ([IntKind.wrap .u8 (IntKind.wrap .i64 (48+(Int.tmod x15 10)))]:List Int))++x16)else .brk (x15,x16)
def IB(lE:Int):KA:=bif decide (lE≤0)then([109,48]:KA)else SC (EE (mG lE) ((((lE).toNat+1) / 2)+1) (lE,([]:KA))) (fun r=>r) (fun(x15,x16)=>([109]:KA)++x16)
def zF(wA:List KA)(lE:Int)(k3:Nat):Int×(List KA)→CH (Int×(List KA)) (Int×(List KA)) | (x14,x15)=>.cont (IntKind.wrap .i64 (x14+1),(x15.set k3 (IB x14)))
def bD(wA:List KA)(lE:Int):Int×(List KA):=SC (GA (zF wA lE) (wA.length-0) 0 (lE,wA)) (fun r=>r) (fun(x14,x15)=>(x14,x15))
def XG(wA:List XD)(lE:Int)(k3:Nat):Int×(List XD)→CH (Int×(List XD)) (Int×(List XD)) | (x26,x27)=>.cont (IntKind.wrap .i64 ((IntKind.wrap .i64 ((IntKind.wrap .i64 (x26+1))+1))+1),(x27.set k3 (⟨(IB x26),IntKind.wrap .i64 (x26+1),IntKind.wrap .i64 ((IntKind.wrap .i64 (x26+1))+1)⟩:XD)))
def YE(wA:List XD)(lE:Int):Int×(List XD):=SC (GA (XG wA lE) (wA.length-0) 0 (lE,wA)) (fun r=>r) (fun(x26,x27)=>(x26,x27))
def xD(wA:YA)(lE:Int):Int×YA:=((YE wA.Idxs ((bD wA.Cols lE).1)).1,(⟨wA.Name,(bD wA.Cols lE).2,(YE wA.Idxs ((bD wA.Cols lE).1)).2⟩:YA))
def ZF(wA:List lA)(lE:Int)(k3:Nat):Int×(List lA)→CH (Int×(List lA)) (Int×(List lA)) | (x29,x30)=>.cont (IntKind.wrap .i64 ((IntKind.wrap .i64 ((IntKind.wrap .i64 (x29+1))+1))+1),(x30.set k3 (⟨(IB x29),(IB (IntKind.wrap .i64 (x29+1))),decide ((Int.tmod (IntKind.wrap .i64 ((IntKind.wrap .i64 (x29+1))+1)) 3)=0)⟩:lA)))
def tC(wA:List lA)(lE:Int):Int×(List lA):=SC (GA (ZF wA lE) (wA.length-0) 0 (lE,wA)) (fun r=>r) (fun(x29,x30)=>(x29,x30))
def bE(wA:PE)(lE:Int):Int×PE:=((bD wA.Vals lE).1,(⟨(bD wA.Vals lE).2⟩:PE))
def iE(wA:DB)(lE:Int):Int×DB:=((bE wA.New ((bE wA.Old lE).1)).1,(⟨wA.Kind,(bE wA.Old lE).2,(bE wA.New ((bE wA.Old lE).1)).2⟩:DB))
def QC(wA:List lA)(lE:Int)(k2:Nat):Int→CH Int Int | (x3)=>bif((wA.getD k2 pA).Key)==(IB x3)then bif((wA.getD k2 pA).Val)==(IB (IntKind.wrap .i64 (x3+1)))then bif((wA.getD k2 pA).Gone)==(decide ((Int.tmod (IntKind.wrap .i64 ((IntKind.wrap .i64 (x3+1))+1)) 3)=0))then .cont (IntKind.wrap .i64 ((IntKind.wrap .i64 ((IntKind.wrap .i64 (x3+1))+1))+1))else .ret (-1)else .ret (-1)else .ret (-1)
def JD(wA:List lA)(lE:Int):Int:=SC (GA (QC wA lE) (wA.length-0) 0 (lE)) (fun r=>r) (fun x3=>x3)
def VB(zA:YA)(cB:List lA)(uE:DB):Bool:=bif decide ((UD zA 1048576)<0)then true else bif decide ((JE cB (UD zA 1048576))<0)then true else bif decide ((KF uE (JE cB (UD zA 1048576)))<0)then true else bif GG ((zC zA cB uE).1) ((nD zA cB uE).1)then bif((zC zA cB uE).2.1)==((nD zA cB uE).2.1)then bif((zC zA cB uE).2.2)==((nD zA cB uE).2.2)then bif bG zA zA then bif GG cB cB then bif mF uE uE then bif decide (((iE uE ((tC cB ((xD zA 1).1)).1)).1)<0)then false else bif decide ((JD ((tC ((zC zA cB uE).1) 1).2) 1)<0)then false else bif decide ((JD ((tC ((zC zA cB uE).1) 1).2) 1)=((tC ((zC zA cB uE).1) 1).1))then true else false else false else false else false else false else false else false
def HH(TA:YA)(pn:KA):Bool:=bif MC TA then decide (0≤(LB TA pn))else false
def HF(NA:KA)(TI:KA):Bool:=bif decide ((TI.length:Int)≤(NA.length:Int))then(NA.take TI.length)==TI else false
def GF(NA:KA)(TI:KA):KA×Bool:=bif HF NA TI then((NA.drop TI.length),true)else(NA,false)
def OD(NA:KA)(TI:KA):KA×Bool:=((GF NA TI).1,(GF NA TI).2)
def RP(TA:YA)(pn:KA)(k11:Nat):Unit→CH Int Unit | ()=>bif((TA.Idxs.getD k11 AA).Name)==pn then .ret (k11:Int)else .cont ()
def uF(TA:YA)(pn:KA):Int:=SC (GA (RP TA pn) (TA.Idxs.length-0) 0 ()) (fun r=>r) (fun _=>-1)
def TD(zA:KA)(cB:KA):Int:=bif cB==zA then 0 else(eD zA ((cB.getD 0 0).toNat:Int))
def FF(NA:KA)(QI:KA):KA×KA×Bool:=bif decide (0≤(TD NA QI))then((NA.take (((TD NA QI)).toNat)),(NA.drop ((IntKind.wrap .i64 ((TD NA QI)+(QI.length:Int))).toNat)),true)else(NA,([]:KA),false)
def zH(NA:KA)(QI:KA):KA×KA×Bool:=((FF NA QI).1,(FF NA QI).2.1,(FF NA QI).2.2)
def bH(TA:YA)(pn:KA)(lB:KA):KA×KA×Bool:=bif(OD lB (HC TA pn)).2 then bif(zH ((OD lB (HC TA pn)).1) ([47]:KA)).2.2 then bif ZH ((zH ((OD lB (HC TA pn)).1) ([47]:KA)).1)then bif ZH ((zH ((OD lB (HC TA pn)).1) ([47]:KA)).2.1)then((zH ((OD lB (HC TA pn)).1) ([47]:KA)).1,(zH ((OD lB (HC TA pn)).1) ([47]:KA)).2.1,true)else(([]:KA),([]:KA),false)else(([]:KA),([]:KA),false)else(([]:KA),([]:KA),false)else(([]:KA),([]:KA),false)
def IL(TA:YA)(KD:PE):Bool:=bif RB TA then(tD TA KD)else false
def sG(TA:YA)(KD:PE):Bool:=bif MC TA then(cC TA KD)else false
def dJ(TA:YA)(pn:KA):XD×Bool:=bif RB TA then bif decide ((uF TA pn)<0)then((⟨([]:KA),0,0⟩:XD),false)else((TA.Idxs.getD (((uF TA pn)).toNat) AA),true)else((⟨([]:KA),0,0⟩:XD),false)
def UJ(wA:List KA)(lE:Int)(k2:Nat):Int→CH Int Int | (x3)=>bif(wA.getD k2 WA)==(IB x3)then .cont (IntKind.wrap .i64 (x3+1))else .ret (-1)
def QG(wA:List KA)(lE:Int):Int:=SC (GA (UJ wA lE) (wA.length-0) 0 (lE)) (fun r=>r) (fun x3=>x3)
def XK(wA:List XD)(lE:Int)(k2:Nat):Int→CH Int Int | (x3)=>bif((wA.getD k2 AA).Name)==(IB x3)then bif decide (((wA.getD k2 AA).Col)=(IntKind.wrap .i64 (x3+1)))then bif decide (((wA.getD k2 AA).Stage)=(IntKind.wrap .i64 ((IntKind.wrap .i64 (x3+1))+1)))then .cont (IntKind.wrap .i64 ((IntKind.wrap .i64 ((IntKind.wrap .i64 (x3+1))+1))+1))else .ret (-1)else .ret (-1)else .ret (-1)
def MJ(wA:List XD)(lE:Int):Int:=SC (GA (XK wA lE) (wA.length-0) 0 (lE)) (fun r=>r) (fun x3=>x3)
def sL(wA:YA)(lE:Int):Int:=bif decide ((QG wA.Cols lE)<0)then -1 else bif decide ((MJ wA.Idxs (QG wA.Cols lE))<0)then -1 else(MJ wA.Idxs (QG wA.Cols lE))
def cS(x y:KA):Int:=bif uI x y then -1 else bif pM x y then 0 else 1
def AM(TA:YA)(pn:KA)(lB:KA):KA×KA×Bool:=bif HH TA pn then((bH TA pn lB).1,(bH TA pn lB).2.1,(bH TA pn lB).2.2)else(([]:KA),([]:KA),false)
def OI(wA:PE)(lE:Int):Int:=bif decide ((QG wA.Vals lE)<0)then -1 else(QG wA.Vals lE)
def NK(wA:DB)(lE:Int):Int:=bif decide ((OI wA.Old lE)<0)then -1 else bif decide ((OI wA.New (OI wA.Old lE))<0)then -1 else(OI wA.New (OI wA.Old lE))
end Go.Proofs.YtoimdjojffkefaaGreatDoor
