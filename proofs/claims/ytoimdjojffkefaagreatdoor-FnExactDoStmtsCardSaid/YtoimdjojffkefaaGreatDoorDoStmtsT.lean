/- Do Stmts: the plain forms of the values, and plain models of the functions. -/
import Derived.Test.YtoimdjojffkefaaGreatDoorE31
set_option linter.unusedVariables false
set_option linter.unusedSimpArgs false
namespace Go.Proofs.YtoimdjojffkefaaGreatDoor
open Go.RowKit Go.X
structure AF where
 Name:vA
 Col:Int
 Stage:Int
def MA:AF:=⟨[],0,0⟩
def xS(x:AF):Prop:=eQ x.Name∧VX x.Col∧VX x.Stage
def AL(x:AF):Prop:=QE x.Name
theorem YH:AL MA:=gC
def YE(x:AF):List Value:=[.string (bs x.Name),.int .i64 x.Col,.int .i64 x.Stage]
theorem gI:Gd (RF YE):=eK fun _=>rfl
structure VA where
 Name:vA
 Cols:List vA
 Idxs:List AF
def Ic:VA:=⟨[],[],[]⟩
def HO(x:VA):Prop:=eQ x.Name∧(TU eQ) x.Cols∧(TU xS) x.Idxs
def YD(x:VA):Prop:=QE x.Name∧(jG QE) x.Cols∧(jG AL) x.Idxs
theorem Pe:YD Ic:=⟨gC,fB _,fB _⟩
def TT:JM VA:=fun w S cs x=>∃A1 c1 A2 c2,cs=[.string (bs x.Name),.slice A1 x.Cols.length c1,.slice A2 x.Idxs.length c2]∧oD w S (RF PB) 1 A1 x.Cols.length c1 x.Cols∧oD w S (RF YE) 3 A2 x.Idxs.length c2 x.Idxs
def ZU:YN VA:=fun w l h cs x=>∃A1 c1 lo1 hi1 A2 c2 lo2 hi2,cs=[.string (bs x.Name),.slice A1 x.Cols.length c1,.slice A2 x.Idxs.length c2]∧KB w lo1 hi1 9 1 (RF PB) A1 x.Cols.length c1 x.Cols∧KB w lo2 hi2 111 3 (RF YE) A2 x.Idxs.length c2 x.Idxs∧(l≤lo1∧lo1≤hi1∧hi1≤h)∧(l≤lo2∧lo2≤hi2∧hi2≤h)∧(hi1≤lo2∨hi2≤lo1)
theorem Je:Gd TT:=⟨fun⟨A1,c1,A2,c2,he,h0,h1⟩ hk=>⟨A1,c1,A2,c2,he,TJ gS h0 hk,TJ gI h1 hk⟩,fun⟨A1,c1,A2,c2,he,h0,h1⟩ hw=>⟨A1,c1,A2,c2,he,rF gS h0 hw,rF gI h1 hw⟩,fun⟨A1,c1,A2,c2,he,h0,h1⟩=>by rw[he];rfl⟩
theorem Qd:uR ZU TT:=⟨fun⟨A1,c1,lo1,hi1,A2,c2,lo2,hi2,he,h1,h2,r0,r1,r2⟩ hk=>⟨A1,c1,lo1,hi1,A2,c2,lo2,hi2,he,NJ gS h1 (fun b b1 b2 b3=>hk b oM oM b3),NJ gI h2 (fun b b1 b2 b3=>hk b oM oM b3),r0,r1,r2⟩,fun⟨A1,c1,lo1,hi1,A2,c2,lo2,hi2,he,h1,h2,r0,r1,r2⟩=>by rw[he];rfl,fun⟨A1,c1,lo1,hi1,A2,c2,lo2,hi2,he,h1,h2,r0,r1,r2⟩=>⟨A1,c1,A2,c2,he,rF gS (XI gS h1) (fun b hb _=>⟨by have:=hb.1;omega,by have:=hb.2;omega⟩),rF gI (XI gI h2) (fun b hb _=>⟨by have:=hb.1;omega,by have:=hb.2;omega⟩)⟩⟩
theorem Bf{w:World}{l h:Nat}{z0:vA}{lo1 hi1 n1 c1:Nat}{A1:Option Addr}{y1:List vA}{lo2 hi2 n2 c2:Nat}{A2:Option Addr}{y2:List AF}(h1:KB w lo1 hi1 9 1 (RF PB) A1 n1 c1 y1)(h2:KB w lo2 hi2 111 3 (RF YE) A2 n2 c2 y2)(r0:(l≤lo1∧lo1≤hi1∧hi1≤h))(r1:(l≤lo2∧lo2≤hi2∧hi2≤h))(r2:(hi1≤lo2∨hi2≤lo1)):ZU w l h [.string (bs z0),.slice A1 n1 c1,.slice A2 n2 c2] ⟨z0,y1,y2⟩:=by
 obtain rfl:=h1.1;obtain rfl:=h2.1
 exact⟨A1,c1,lo1,hi1,A2,c2,lo2,hi2,rfl,h1,h2,r0,r1,r2⟩
structure pA where
 Key:vA
 Val:vA
 Gone:Bool
def zA:pA:=⟨[],[],false⟩
def xN(x:pA):Prop:=eQ x.Key∧eQ x.Val
def nC(x:pA):Prop:=QE x.Key∧QE x.Val
theorem WE:nC zA:=⟨gC,gC⟩
def zB(x:pA):List Value:=[.string (bs x.Key),.string (bs x.Val),.bool x.Gone]
theorem gW:Gd (RF zB):=eK fun _=>rfl
structure rE where
 Kind:Int
 Key:vA
 Val:vA
 By:Int
def EC:rE:=⟨0,[],[],0⟩
def Rf(x:rE):Prop:=VX x.Kind∧eQ x.Key∧eQ x.Val∧VX x.By
def dL(x:rE):Prop:=QE x.Key∧QE x.Val
theorem xI:dL EC:=⟨gC,gC⟩
def DI(x:rE):List Value:=[.int .i64 x.Kind,.string (bs x.Key),.string (bs x.Val),.int .i64 x.By]
theorem aC:Gd (RF DI):=eK fun _=>rfl
structure aF where
 Key:vA
 Val:vA
 There:Bool
def GH:aF:=⟨[],[],false⟩
def Cg(x:aF):Prop:=eQ x.Key∧eQ x.Val
def EM(x:aF):Prop:=QE x.Key∧QE x.Val
theorem sW:EM GH:=⟨gC,gC⟩
def TM(x:aF):List Value:=[.string (bs x.Key),.string (bs x.Val),.bool x.There]
theorem KG:Gd (RF TM):=eK fun _=>rfl
structure nB where
 Vals:List vA
def XC:nB:=⟨[]⟩
def Rb(x:nB):Prop:=(TU eQ) x.Vals
def tF(x:nB):Prop:=(jG QE) x.Vals
theorem MK:tF XC:=fB _
def GK:JM nB:=fun w S cs x=>∃A1 c1,cs=[.slice A1 x.Vals.length c1]∧oD w S (RF PB) 1 A1 x.Vals.length c1 x.Vals
def HJ:YN nB:=fun w l h cs x=>∃A1 c1 lo1 hi1,cs=[.slice A1 x.Vals.length c1]∧KB w lo1 hi1 9 1 (RF PB) A1 x.Vals.length c1 x.Vals∧(l≤lo1∧lo1≤hi1∧hi1≤h)
theorem KC:Gd GK:=⟨fun⟨A1,c1,he,h0⟩ hk=>⟨A1,c1,he,TJ gS h0 hk⟩,fun⟨A1,c1,he,h0⟩ hw=>⟨A1,c1,he,rF gS h0 hw⟩,fun⟨A1,c1,he,h0⟩=>by rw[he];rfl⟩
theorem cD:uR HJ GK:=⟨fun⟨A1,c1,lo1,hi1,he,h1,r0⟩ hk=>⟨A1,c1,lo1,hi1,he,NJ gS h1 (fun b b1 b2 b3=>hk b oM oM b3),r0⟩,fun⟨A1,c1,lo1,hi1,he,h1,r0⟩=>by rw[he];rfl,fun⟨A1,c1,lo1,hi1,he,h1,r0⟩=>⟨A1,c1,he,rF gS (XI gS h1) (fun b hb _=>⟨by have:=hb.1;omega,by have:=hb.2;omega⟩)⟩⟩
theorem mR{w:World}{l h:Nat}{lo1 hi1 n1 c1:Nat}{A1:Option Addr}{y1:List vA}(h1:KB w lo1 hi1 9 1 (RF PB) A1 n1 c1 y1)(r0:(l≤lo1∧lo1≤hi1∧hi1≤h)):HJ w l h [.slice A1 n1 c1] ⟨y1⟩:=by
 obtain rfl:=h1.1
 exact⟨A1,c1,lo1,hi1,rfl,h1,r0⟩
structure MB where
 Kind:Int
 Old:nB
 New:nB
def LV:MB:=⟨0,XC,XC⟩
def EZ(x:MB):Prop:=VX x.Kind∧Rb x.Old∧Rb x.New
def gK(x:MB):Prop:=tF x.Old∧tF x.New
theorem uW:gK LV:=⟨MK,MK⟩
def aV:JM MB:=fun w S cs x=>∃A1 c1 A2 c2,cs=[.int .i64 x.Kind,.slice A1 x.Old.Vals.length c1,.slice A2 x.New.Vals.length c2]∧oD w S (RF PB) 1 A1 x.Old.Vals.length c1 x.Old.Vals∧oD w S (RF PB) 1 A2 x.New.Vals.length c2 x.New.Vals
def YS:YN MB:=fun w l h cs x=>∃A1 c1 lo1 hi1 A2 c2 lo2 hi2,cs=[.int .i64 x.Kind,.slice A1 x.Old.Vals.length c1,.slice A2 x.New.Vals.length c2]∧KB w lo1 hi1 9 1 (RF PB) A1 x.Old.Vals.length c1 x.Old.Vals∧KB w lo2 hi2 9 1 (RF PB) A2 x.New.Vals.length c2 x.New.Vals∧(l≤lo1∧lo1≤hi1∧hi1≤h)∧(l≤lo2∧lo2≤hi2∧hi2≤h)∧(hi1≤lo2∨hi2≤lo1)
theorem Sd:Gd aV:=⟨fun⟨A1,c1,A2,c2,he,h0,h1⟩ hk=>⟨A1,c1,A2,c2,he,TJ gS h0 hk,TJ gS h1 hk⟩,fun⟨A1,c1,A2,c2,he,h0,h1⟩ hw=>⟨A1,c1,A2,c2,he,rF gS h0 hw,rF gS h1 hw⟩,fun⟨A1,c1,A2,c2,he,h0,h1⟩=>by rw[he];rfl⟩
theorem Lc:uR YS aV:=⟨fun⟨A1,c1,lo1,hi1,A2,c2,lo2,hi2,he,h1,h2,r0,r1,r2⟩ hk=>⟨A1,c1,lo1,hi1,A2,c2,lo2,hi2,he,NJ gS h1 (fun b b1 b2 b3=>hk b oM oM b3),NJ gS h2 (fun b b1 b2 b3=>hk b oM oM b3),r0,r1,r2⟩,fun⟨A1,c1,lo1,hi1,A2,c2,lo2,hi2,he,h1,h2,r0,r1,r2⟩=>by rw[he];rfl,fun⟨A1,c1,lo1,hi1,A2,c2,lo2,hi2,he,h1,h2,r0,r1,r2⟩=>⟨A1,c1,A2,c2,he,rF gS (XI gS h1) (fun b hb _=>⟨by have:=hb.1;omega,by have:=hb.2;omega⟩),rF gS (XI gS h2) (fun b hb _=>⟨by have:=hb.1;omega,by have:=hb.2;omega⟩)⟩⟩
theorem Me{w:World}{l h:Nat}{z0:Int}{lo1 hi1 n1 c1:Nat}{A1:Option Addr}{y1:List vA}{lo2 hi2 n2 c2:Nat}{A2:Option Addr}{y2:List vA}(h1:KB w lo1 hi1 9 1 (RF PB) A1 n1 c1 y1)(h2:KB w lo2 hi2 9 1 (RF PB) A2 n2 c2 y2)(r0:(l≤lo1∧lo1≤hi1∧hi1≤h))(r1:(l≤lo2∧lo2≤hi2∧hi2≤h))(r2:(hi1≤lo2∨hi2≤lo1)):YS w l h [.int .i64 z0,.slice A1 n1 c1,.slice A2 n2 c2] ⟨z0,⟨y1⟩,⟨y2⟩⟩:=by
 obtain rfl:=h1.1;obtain rfl:=h2.1
 exact⟨A1,c1,lo1,hi1,A2,c2,lo2,hi2,rfl,h1,h2,r0,r1,r2⟩
structure iD where
 Kind:Int
 Act:MB
 Idx:vA
 Low:vA
 High:vA
def Ce:iD:=⟨0,LV,[],[],[]⟩
def Uf(x:iD):Prop:=VX x.Kind∧EZ x.Act∧eQ x.Idx∧eQ x.Low∧eQ x.High
def CL(x:iD):Prop:=gK x.Act∧QE x.Idx∧QE x.Low∧QE x.High
theorem Ef:CL Ce:=⟨uW,gC,gC,gC⟩
def MZ:JM iD:=fun w S cs x=>∃A1 c1 A2 c2,cs=[.int .i64 x.Kind,.int .i64 x.Act.Kind,.slice A1 x.Act.Old.Vals.length c1,.slice A2 x.Act.New.Vals.length c2,.string (bs x.Idx),.string (bs x.Low),.string (bs x.High)]∧oD w S (RF PB) 1 A1 x.Act.Old.Vals.length c1 x.Act.Old.Vals∧oD w S (RF PB) 1 A2 x.Act.New.Vals.length c2 x.Act.New.Vals
def eY:YN iD:=fun w l h cs x=>∃A1 c1 lo1 hi1 A2 c2 lo2 hi2,cs=[.int .i64 x.Kind,.int .i64 x.Act.Kind,.slice A1 x.Act.Old.Vals.length c1,.slice A2 x.Act.New.Vals.length c2,.string (bs x.Idx),.string (bs x.Low),.string (bs x.High)]∧KB w lo1 hi1 9 1 (RF PB) A1 x.Act.Old.Vals.length c1 x.Act.Old.Vals∧KB w lo2 hi2 9 1 (RF PB) A2 x.Act.New.Vals.length c2 x.Act.New.Vals∧(l≤lo1∧lo1≤hi1∧hi1≤h)∧(l≤lo2∧lo2≤hi2∧hi2≤h)∧(hi1≤lo2∨hi2≤lo1)
theorem Ze:Gd MZ:=⟨fun⟨A1,c1,A2,c2,he,h0,h1⟩ hk=>⟨A1,c1,A2,c2,he,TJ gS h0 hk,TJ gS h1 hk⟩,fun⟨A1,c1,A2,c2,he,h0,h1⟩ hw=>⟨A1,c1,A2,c2,he,rF gS h0 hw,rF gS h1 hw⟩,fun⟨A1,c1,A2,c2,he,h0,h1⟩=>by rw[he];rfl⟩
theorem He:uR eY MZ:=⟨fun⟨A1,c1,lo1,hi1,A2,c2,lo2,hi2,he,h1,h2,r0,r1,r2⟩ hk=>⟨A1,c1,lo1,hi1,A2,c2,lo2,hi2,he,NJ gS h1 (fun b b1 b2 b3=>hk b oM oM b3),NJ gS h2 (fun b b1 b2 b3=>hk b oM oM b3),r0,r1,r2⟩,fun⟨A1,c1,lo1,hi1,A2,c2,lo2,hi2,he,h1,h2,r0,r1,r2⟩=>by rw[he];rfl,fun⟨A1,c1,lo1,hi1,A2,c2,lo2,hi2,he,h1,h2,r0,r1,r2⟩=>⟨A1,c1,A2,c2,he,rF gS (XI gS h1) (fun b hb _=>⟨by have:=hb.1;omega,by have:=hb.2;omega⟩),rF gS (XI gS h2) (fun b hb _=>⟨by have:=hb.1;omega,by have:=hb.2;omega⟩)⟩⟩
theorem Nf{w:World}{l h:Nat}{z0:Int}{z1:Int}{lo1 hi1 n1 c1:Nat}{A1:Option Addr}{y1:List vA}{lo2 hi2 n2 c2:Nat}{A2:Option Addr}{y2:List vA}{z4:vA}{z5:vA}{z6:vA}(h1:KB w lo1 hi1 9 1 (RF PB) A1 n1 c1 y1)(h2:KB w lo2 hi2 9 1 (RF PB) A2 n2 c2 y2)(r0:(l≤lo1∧lo1≤hi1∧hi1≤h))(r1:(l≤lo2∧lo2≤hi2∧hi2≤h))(r2:(hi1≤lo2∨hi2≤lo1)):eY w l h [.int .i64 z0,.int .i64 z1,.slice A1 n1 c1,.slice A2 n2 c2,.string (bs z4),.string (bs z5),.string (bs z6)] ⟨z0,⟨z1,⟨y1⟩,⟨y2⟩⟩,z4,z5,z6⟩:=by
 obtain rfl:=h1.1;obtain rfl:=h2.1
 exact⟨A1,c1,lo1,hi1,A2,c2,lo2,hi2,rfl,h1,h2,r0,r1,r2⟩
structure RE where
 val:vA
 primary:vA
def EJ:RE:=⟨[],[]⟩
def Qf(x:RE):Prop:=eQ x.val∧eQ x.primary
def uN(x:RE):Prop:=QE x.val∧QE x.primary
theorem wX:uN EJ:=⟨gC,gC⟩
def jL(x:RE):List Value:=[.string (bs x.val),.string (bs x.primary)]
theorem pH:Gd (RF jL):=eK fun _=>rfl
structure WU where
 key:vA
 ops:List rE
def De:WU:=⟨[],[]⟩
def Vf(x:WU):Prop:=eQ x.key∧(TU Rf) x.ops
def Vc(x:WU):Prop:=QE x.key∧(jG dL) x.ops
theorem Ff:Vc De:=⟨gC,fB _⟩
def NZ:JM WU:=fun w S cs x=>∃A1 c1,cs=[.string (bs x.key),.slice A1 x.ops.length c1]∧oD w S (RF DI) 4 A1 x.ops.length c1 x.ops
def fY:YN WU:=fun w l h cs x=>∃A1 c1 lo1 hi1,cs=[.string (bs x.key),.slice A1 x.ops.length c1]∧KB w lo1 hi1 122 4 (RF DI) A1 x.ops.length c1 x.ops∧(l≤lo1∧lo1≤hi1∧hi1≤h)
theorem Af:Gd NZ:=⟨fun⟨A1,c1,he,h0⟩ hk=>⟨A1,c1,he,TJ aC h0 hk⟩,fun⟨A1,c1,he,h0⟩ hw=>⟨A1,c1,he,rF aC h0 hw⟩,fun⟨A1,c1,he,h0⟩=>by rw[he];rfl⟩
theorem Ie:uR fY NZ:=⟨fun⟨A1,c1,lo1,hi1,he,h1,r0⟩ hk=>⟨A1,c1,lo1,hi1,he,NJ aC h1 (fun b b1 b2 b3=>hk b oM oM b3),r0⟩,fun⟨A1,c1,lo1,hi1,he,h1,r0⟩=>by rw[he];rfl,fun⟨A1,c1,lo1,hi1,he,h1,r0⟩=>⟨A1,c1,he,rF aC (XI aC h1) (fun b hb _=>⟨by have:=hb.1;omega,by have:=hb.2;omega⟩)⟩⟩
theorem Of{w:World}{l h:Nat}{z0:vA}{lo1 hi1 n1 c1:Nat}{A1:Option Addr}{y1:List rE}(h1:KB w lo1 hi1 122 4 (RF DI) A1 n1 c1 y1)(r0:(l≤lo1∧lo1≤hi1∧hi1≤h)):fY w l h [.string (bs z0),.slice A1 n1 c1] ⟨z0,y1⟩:=by
 obtain rfl:=h1.1
 exact⟨A1,c1,lo1,hi1,rfl,h1,r0⟩
structure AN where
 x:Int
 y:Int
 signed:Bool
 code:Int
def Zb:AN:=⟨0,0,false,0⟩
def Pb(x:AN):Prop:=VX x.x∧VX x.y∧VX x.code
def MS(x:AN):List Value:=[.int .i64 x.x,.int .i64 x.y,.bool x.signed,.int .u8 x.code]
theorem UY:Gd (RF MS):=eK fun _=>rfl
structure DJ where
 msg:vA
 addr:Int
def mO:DJ:=⟨[],0⟩
def UU(x:DJ):Prop:=eQ x.msg∧VX x.addr
def WN(x:DJ):Prop:=QE x.msg
theorem HT:WN mO:=gC
def pO(x:DJ):List Value:=[.string (bs x.msg),.int .u64 x.addr]
theorem sT:Gd (RF pO):=eK fun _=>rfl
structure dY where
 Last:vA
 Over:Bool
def Be:dY:=⟨[],false⟩
def Tf(x:dY):Prop:=eQ x.Last
def Uc(x:dY):Prop:=QE x.Last
theorem Df:Uc Be:=gC
def Ee(x:dY):List Value:=[.string (bs x.Last),.bool x.Over]
theorem Ye:Gd (RF Ee):=eK fun _=>rfl
structure zN where
 lo:Int
 hi:Int
def Yb:zN:=⟨0,0⟩
def Ob(x:zN):Prop:=VX x.lo∧VX x.hi
def LS(x:zN):List Value:=[.int .u8 x.lo,.int .u8 x.hi]
theorem TY:Gd (RF LS):=eK fun _=>rfl
structure ZL where
 s:vA
def KS:ZL:=⟨[]⟩
def Qb(x:ZL):Prop:=eQ x.s
def eS(x:ZL):Prop:=QE x.s
theorem hZ:eS KS:=gC
def NS(x:ZL):List Value:=[.string (bs x.s)]
theorem VY:Gd (RF NS):=eK fun _=>rfl
def tI:List rE:=[]
def LZ:JM (List rE):=fun w S cs x=>∃A1 c1,cs=[.slice A1 x.length c1]∧oD w S (RF DI) 4 A1 x.length c1 x
theorem LP:Gd LZ:=⟨fun⟨A1,c1,he,h0⟩ hk=>⟨A1,c1,he,TJ aC h0 hk⟩,fun⟨A1,c1,he,h0⟩ hw=>⟨A1,c1,he,rF aC h0 hw⟩,fun⟨A1,c1,he,h0⟩=>by rw[he];rfl⟩
theorem tW:jG dL tI:=fB _
def CG(SA:List vA)(TC:Int)(k3:Nat):Int→aI Int Int | (x4)=>bif decide ((IntKind.wrap .i64 (x4-((SA.getD k3 wA).length:Int)))<0)then .ret (-1)else .cont (IntKind.wrap .i64 (x4-((SA.getD k3 wA).length:Int)))
def fF(SA:List vA)(TC:Int):Int:=bif decide ((IntKind.wrap .i64 (TC-(SA.length:Int)))<0)then -1 else ED (UA (CG SA TC) (SA.length-0) 0 (IntKind.wrap .i64 (TC-(SA.length:Int)))) (fun r=>r) (fun x4=>x4)
def aK(SA:AF)(TC:Int):Int:=bif decide ((IntKind.wrap .i64 (TC-(SA.Name.length:Int)))<0)then -1 else IntKind.wrap .i64 (TC-(SA.Name.length:Int))
def KI(SA:List AF)(TC:Int)(k3:Nat):Int→aI Int Int | (x4)=>bif decide ((aK (SA.getD k3 MA) x4)<0)then .ret (-1)else .cont ((aK (SA.getD k3 MA) x4))
def MJ(SA:List AF)(TC:Int):Int:=bif decide ((IntKind.wrap .i64 (TC-(SA.length:Int)))<0)then -1 else ED (UA (KI SA TC) (SA.length-0) 0 (IntKind.wrap .i64 (TC-(SA.length:Int)))) (fun r=>r) (fun x4=>x4)
def xF(SA:VA)(TC:Int):Int:=bif decide ((IntKind.wrap .i64 (TC-(SA.Name.length:Int)))<0)then -1 else bif decide ((fF SA.Cols (IntKind.wrap .i64 (TC-(SA.Name.length:Int))))<0)then -1 else bif decide ((MJ SA.Idxs (fF SA.Cols (IntKind.wrap .i64 (TC-(SA.Name.length:Int)))))<0)then -1 else(MJ SA.Idxs (fF SA.Cols (IntKind.wrap .i64 (TC-(SA.Name.length:Int)))))
def wH(SA:pA)(TC:Int):Int:=bif decide ((IntKind.wrap .i64 (TC-(SA.Key.length:Int)))<0)then -1 else bif decide ((IntKind.wrap .i64 ((IntKind.wrap .i64 (TC-(SA.Key.length:Int)))-(SA.Val.length:Int)))<0)then -1 else IntKind.wrap .i64 ((IntKind.wrap .i64 (TC-(SA.Key.length:Int)))-(SA.Val.length:Int))
def EH(SA:List pA)(TC:Int)(k3:Nat):Int→aI Int Int | (x4)=>bif decide ((wH (SA.getD k3 zA) x4)<0)then .ret (-1)else .cont ((wH (SA.getD k3 zA) x4))
def zG(SA:List pA)(TC:Int):Int:=bif decide ((IntKind.wrap .i64 (TC-(SA.length:Int)))<0)then -1 else ED (UA (EH SA TC) (SA.length-0) 0 (IntKind.wrap .i64 (TC-(SA.length:Int)))) (fun r=>r) (fun x4=>x4)
def fJ(SA:List vA)(k10:Nat):(List vA)→aI (List vA) (List vA) | (x18)=>.cont ((x18.set k10 (SA.getD k10 wA)))
def QQ(SA:List vA):List vA:=ED (UA (fJ SA) (SA.length-0) 0 ((List.replicate SA.length wA))) (fun r=>r) (fun x18=>x18)
def nY(SA:AF):AF:=SA
def tK(SA:List AF)(k10:Nat):(List AF)→aI (List AF) (List AF) | (x21)=>.cont ((x21.set k10 (SA.getD k10 MA)))
def jW(SA:List AF):List AF:=ED (UA (tK SA) (SA.length-0) 0 ((List.replicate SA.length MA))) (fun r=>r) (fun x21=>x21)
def yT(SA:VA):VA:=SA
def zT(SA:pA):pA:=SA
def GJ(SA:List pA)(k10:Nat):(List pA)→aI (List pA) (List pA) | (x21)=>.cont ((x21.set k10 (SA.getD k10 zA)))
def XR(SA:List pA):List pA:=ED (UA (GJ SA) (SA.length-0) 0 ((List.replicate SA.length zA))) (fun r=>r) (fun x21=>x21)
def NH(SA:pA)(DE:pA):Bool:=bif SA.Key==DE.Key then bif SA.Val==DE.Val then bif SA.Gone==DE.Gone then true else false else false else false
def CH(SA:List pA)(DE:List pA)(k4:Nat):Unit→aI Bool Unit | ()=>bif NH (SA.getD k4 zA) (DE.getD k4 zA)then .cont ()else .ret false
def GI(SA:List pA)(DE:List pA):Bool:=bif decide ((SA.length:Int)=(DE.length:Int))then ED (UA (CH SA DE) (SA.length-0) 0 ()) (fun r=>r) (fun _=>true)else false
def jH(SA:List vA)(DE:List vA)(k4:Nat):Unit→aI Bool Unit | ()=>bif(SA.getD k4 wA)==(DE.getD k4 wA)then .cont ()else .ret false
def VG(SA:List vA)(DE:List vA):Bool:=bif decide ((SA.length:Int)=(DE.length:Int))then ED (UA (jH SA DE) (SA.length-0) 0 ()) (fun r=>r) (fun _=>true)else false
def FJ(SA:AF)(DE:AF):Bool:=bif SA.Name==DE.Name then bif decide (SA.Col=DE.Col)then bif decide (SA.Stage=DE.Stage)then true else false else false else false
def JI(SA:List AF)(DE:List AF)(k4:Nat):Unit→aI Bool Unit | ()=>bif FJ (SA.getD k4 MA) (DE.getD k4 MA)then .cont ()else .ret false
def JK(SA:List AF)(DE:List AF):Bool:=bif decide ((SA.length:Int)=(DE.length:Int))then ED (UA (JI SA DE) (SA.length-0) 0 ()) (fun r=>r) (fun _=>true)else false
def bI(SA:VA)(DE:VA):Bool:=bif SA.Name==DE.Name then bif VG SA.Cols DE.Cols then bif JK SA.Idxs DE.Idxs then true else false else false else false
def nI(pG:Int):Int×vA→aI vA (Int×vA) | (x15,x16)=>bif decide (0<x15)then .cont (IntKind.wrap .i64 (Int.tdiv x15 10),(IZ ([IntKind.wrap .u8 (IntKind.wrap .i64 (48+(Int.tmod x15 10)))]:List Int))++x16)else .brk (x15,x16)
def BC(pG:Int):vA:=bif decide (pG≤0)then([109,48]:vA)else ED (cG (nI pG) ((((pG).toNat+1) / 2)+1) (pG,([]:vA))) (fun r=>r) (fun(x15,x16)=>([109]:vA)++x16)
def DH(SA:List vA)(pG:Int)(k3:Nat):Int×(List vA)→aI (Int×(List vA)) (Int×(List vA)) | (x14,x15)=>.cont (IntKind.wrap .i64 (x14+1),(x15.set k3 (BC x14)))
def lD(SA:List vA)(pG:Int):Int×(List vA):=ED (UA (DH SA pG) (SA.length-0) 0 (pG,SA)) (fun r=>r) (fun(x14,x15)=>(x14,x15))
def WI(SA:List AF)(pG:Int)(k3:Nat):Int×(List AF)→aI (Int×(List AF)) (Int×(List AF)) | (x26,x27)=>.cont (IntKind.wrap .i64 ((IntKind.wrap .i64 ((IntKind.wrap .i64 (x26+1))+1))+1),(x27.set k3 (⟨(BC x26),IntKind.wrap .i64 (x26+1),IntKind.wrap .i64 ((IntKind.wrap .i64 (x26+1))+1)⟩:AF)))
def QG(SA:List AF)(pG:Int):Int×(List AF):=ED (UA (WI SA pG) (SA.length-0) 0 (pG,SA)) (fun r=>r) (fun(x26,x27)=>(x26,x27))
def ZE(SA:VA)(pG:Int):Int×VA:=((QG SA.Idxs ((lD SA.Cols pG).1)).1,(⟨SA.Name,(lD SA.Cols pG).2,(QG SA.Idxs ((lD SA.Cols pG).1)).2⟩:VA))
def ZH(SA:List pA)(pG:Int)(k3:Nat):Int×(List pA)→aI (Int×(List pA)) (Int×(List pA)) | (x29,x30)=>.cont (IntKind.wrap .i64 ((IntKind.wrap .i64 ((IntKind.wrap .i64 (x29+1))+1))+1),(x30.set k3 (⟨(BC x29),(BC (IntKind.wrap .i64 (x29+1))),decide ((Int.tmod (IntKind.wrap .i64 ((IntKind.wrap .i64 (x29+1))+1)) 3)=0)⟩:pA)))
def CC(SA:List pA)(pG:Int):Int×(List pA):=ED (UA (ZH SA pG) (SA.length-0) 0 (pG,SA)) (fun r=>r) (fun(x29,x30)=>(x29,x30))
def kE(SA:List pA)(pG:Int)(k2:Nat):Int→aI Int Int | (x3)=>bif((SA.getD k2 zA).Key)==(BC x3)then bif((SA.getD k2 zA).Val)==(BC (IntKind.wrap .i64 (x3+1)))then bif((SA.getD k2 zA).Gone)==(decide ((Int.tmod (IntKind.wrap .i64 ((IntKind.wrap .i64 (x3+1))+1)) 3)=0))then .cont (IntKind.wrap .i64 ((IntKind.wrap .i64 ((IntKind.wrap .i64 (x3+1))+1))+1))else .ret (-1)else .ret (-1)else .ret (-1)
def oE(SA:List pA)(pG:Int):Int:=ED (UA (kE SA pG) (SA.length-0) 0 (pG)) (fun r=>r) (fun x3=>x3)
def xE(kL:Int)(AX:Int)(lZ:Int):Bool:=bif decide (AX≤kL)then decide (kL≤lZ)else false
def AC(YA:vA)(HB:vA)(k3:Nat)(k6:Nat):Bool→aI Bool Bool | (x7)=>bif x7 then .cont (true)else .cont (decide (((YA.getD k3 0).toNat:Int)=((HB.getD k6 0).toNat:Int)))
def pD(YA:vA)(HB:vA)(k3:Nat):Unit→aI Bool Unit | ()=>bif decide (97≤((YA.getD k3 0).toNat:Int))then bif decide (((YA.getD k3 0).toNat:Int)≤122)then ED (UA (AC YA HB k3) (HB.length-0) 0 (true)) (fun r=>aI.ret r) (fun x7=>bif x7 then .cont ()else .ret false)else bif decide (48≤((YA.getD k3 0).toNat:Int))then ED (UA (AC YA HB k3) (HB.length-0) 0 (decide (((YA.getD k3 0).toNat:Int)≤57))) (fun r=>aI.ret r) (fun x12=>bif x12 then .cont ()else .ret false)else ED (UA (AC YA HB k3) (HB.length-0) 0 (false)) (fun r=>aI.ret r) (fun x15=>bif x15 then .cont ()else .ret false)else bif decide (48≤((YA.getD k3 0).toNat:Int))then ED (UA (AC YA HB k3) (HB.length-0) 0 (decide (((YA.getD k3 0).toNat:Int)≤57))) (fun r=>aI.ret r) (fun x19=>bif x19 then .cont ()else .ret false)else ED (UA (AC YA HB k3) (HB.length-0) 0 (false)) (fun r=>aI.ret r) (fun x22=>bif x22 then .cont ()else .ret false)
def aH(YA:vA)(HB:vA):Bool:=ED (UA (pD YA HB) (YA.length-0) 0 ()) (fun r=>r) (fun _=>true)
def IF(YA:vA):Bool:=bif xE (YA.length:Int) 1 12 then(aH YA ([46,47]:vA))else false
def kG(YA:vA):Bool:=bif decide ((YA.length:Int)≤24)then(aH YA ([46,45,44,95]:vA))else false
def HE(sB:vA)(FE:vA)(lK:Bool):Bool:=bif IF sB then bif kG FE then bif lK then FE==([]:vA)else true else false else false
def lF(AB:List pA)(k3:Nat):Unit→aI Bool Unit | ()=>bif HE ((AB.getD k3 zA).Key) ((AB.getD k3 zA).Val) ((AB.getD k3 zA).Gone)then bif decide (0<(k3:Int))then bif eJ ((AB.getD ((IntKind.wrap .i64 ((k3:Int)-1)).toNat) zA).Key) ((AB.getD k3 zA).Key)then .cont ()else .ret false else .cont ()else .ret false
def AG(AB:List pA):Bool:=ED (UA (lF AB) (AB.length-0) 0 ()) (fun r=>r) (fun _=>decide ((AB.length:Int)≤24))
def lI(AB:List pA)(k3:Nat):Unit→aI Bool Unit | ()=>bif(AB.getD k3 zA).Gone then .ret false else .cont ()
def fD(AB:List pA):Bool:=ED (UA (lI AB) (AB.length-0) 0 ()) (fun r=>r) (fun _=>(AG AB))
def iF(YA:vA)(YF:Int)(k2:Nat):Unit→aI Bool Unit | ()=>bif decide (((YA.getD k2 0).toNat:Int)<97)then .ret false else bif decide (122<((YA.getD k2 0).toNat:Int))then .ret false else .cont ()
def rC(YA:vA)(YF:Int):Bool:=ED (UA (iF YA YF) (YA.length-0) 0 ()) (fun r=>r) (fun _=>bif decide (1≤(YA.length:Int))then decide ((YA.length:Int)≤YF)else false)
def mJ(AB:List vA)(YA:vA)(k4:Nat):Unit→aI Int Unit | ()=>bif(AB.getD k4 wA)==YA then .ret (k4:Int)else .cont ()
def jM(AB:List vA)(YA:vA):Int:=ED (UA (mJ AB YA) (AB.length-0) 0 ()) (fun r=>r) (fun _=>-1)
def fG(AB:List vA)(k3:Nat):Unit→aI Bool Unit | ()=>bif rC (AB.getD k3 wA) 3 then bif decide (0≤(jM (AB.take k3) (AB.getD k3 wA)))then .ret false else .cont ()else .ret false
def TI(AB:List vA):Bool:=ED (UA (fG AB) (AB.length-0) 0 ()) (fun r=>r) (fun _=>(xE (AB.length:Int) 2 4))
def DD(rA:VA)(k19:Nat):Unit→aI Bool Unit | ()=>bif rC ((rA.Idxs.getD k19 MA).Name) 1 then bif xE ((rA.Idxs.getD k19 MA).Col) 1 (IntKind.wrap .i64 ((rA.Cols.length:Int)-1))then bif xE ((rA.Idxs.getD k19 MA).Stage) 0 3 then bif decide (0<(k19:Int))then bif eJ ((rA.Idxs.getD ((IntKind.wrap .i64 ((k19:Int)-1)).toNat) MA).Name) ((rA.Idxs.getD k19 MA).Name)then .cont ()else .ret false else .cont ()else .ret false else .ret false else .ret false
def FB(rA:VA):Bool:=bif rC rA.Name 1 then bif TI rA.Cols then bif decide (3<(rA.Idxs.length:Int))then false else ED (UA (DD rA) (rA.Idxs.length-0) 0 ()) (fun r=>r) (fun _=>true)else false else false
def XE(ZG:rE):Bool:=bif IF ZG.Key then bif decide (ZG.Kind=2)then bif kG ZG.Val then decide (ZG.By=0)else false else bif decide (ZG.Kind=7)then bif kG ZG.Val then decide (ZG.By=0)else false else bif decide (ZG.Kind=4)then bif ZG.Val==([]:vA)then(xE ZG.By (-9999) 9999)else false else bif decide (ZG.Kind=5)then bif ZG.Val==([]:vA)then(xE ZG.By (-9999) 9999)else false else bif decide (ZG.Kind=1)then bif ZG.Val==([]:vA)then decide (ZG.By=0)else false else bif decide (ZG.Kind=3)then bif ZG.Val==([]:vA)then decide (ZG.By=0)else false else bif decide (ZG.Kind=6)then bif ZG.Val==([]:vA)then decide (ZG.By=0)else false else false else false
def jI(AB:List rE)(k3:Nat):Unit→aI Bool Unit | ()=>bif XE (AB.getD k3 EC)then .cont ()else .ret false
def sI(AB:List rE):Bool:=ED (UA (jI AB) (AB.length-0) 0 ()) (fun r=>r) (fun _=>decide ((AB.length:Int)≤8))
def GG(AB:List pA)(DC:pA):Int→aI (List pA) Int | (x11)=>bif decide (0<x11)then bif iN ((AB.getD ((IntKind.wrap .i64 (x11-1)).toNat) zA).Key) DC.Key then .brk (x11)else .cont (IntKind.wrap .i64 (x11-1))else .brk (x11)
def VD(AB:List pA)(DC:pA):List pA:=ED (cG (GG AB DC) ((((AB.length:Int)).toNat)+1) ((AB.length:Int))) (fun r=>r) (fun x11=>bif decide (0<x11)then bif((AB.getD ((IntKind.wrap .i64 (x11-1)).toNat) zA).Key)==DC.Key then((([]:List pA)++AB).set ((IntKind.wrap .i64 (x11-1)).toNat) DC)else(((([]:List pA)++(AB.take ((x11).toNat)))++([DC]:List pA))++(([]:List pA)++(AB.drop ((x11).toNat))))else(((([]:List pA)++(AB.take ((x11).toNat)))++([DC]:List pA))++(([]:List pA)++(AB.drop ((x11).toNat)))))
def uG(LF:List pA)(zD:List aF)(sB:vA)(k6:Nat):Unit→aI (vA×Bool×Bool) Unit | ()=>bif((LF.getD k6 zA).Key)==sB then .ret ((LF.getD k6 zA).Val,!((LF.getD k6 zA).Gone),true)else .cont ()
def eH(LF:List pA)(zD:List aF)(sB:vA)(k29:Nat):Unit→aI (vA×Bool×Bool) Unit | ()=>bif((zD.getD k29 GH).Key)==sB then .ret ((zD.getD k29 GH).Val,(zD.getD k29 GH).There,true)else .cont ()
def lC(LF:List pA)(zD:List aF)(sB:vA):vA×Bool×Bool:=ED (UA (uG LF zD sB) (LF.length-0) 0 ()) (fun r=>r) (fun _=>ED (UA (eH LF zD sB) (zD.length-0) 0 ()) (fun r=>r) (fun _=>(([]:vA),false,false)))
def nE(YA:vA)(k8:Nat):Int→aI Int Int | (x9)=>bif decide (((YA.getD k8 0).toNat:Int)<48)then .ret (-1)else bif decide (57<((YA.getD k8 0).toNat:Int))then .ret (-1)else .cont (IntKind.wrap .i64 ((IntKind.wrap .i64 (10*x9))+(IntKind.wrap .i64 (IntKind.wrap .u8 (((YA.getD k8 0).toNat:Int)-48)))))
def NF(YA:vA):Int:=bif xE (YA.length:Int) 1 6 then bif decide (((YA.getD 0 0).toNat:Int)=48)then bif decide (1<(YA.length:Int))then -1 else ED (UA (nE YA) (YA.length-0) 0 (0)) (fun r=>r) (fun x9=>x9)else ED (UA (nE YA) (YA.length-0) 0 (0)) (fun r=>r) (fun x13=>x13)else -1
def JF(YA:vA):Int×Bool:=bif decide (0<(YA.length:Int))then bif decide (((YA.getD 0 0).toNat:Int)=45)then bif decide ((NF (YA.drop 1))<0)then(0,false)else bif decide ((NF (YA.drop 1))=0)then(0,false)else(IntKind.wrap .i64 (0-(NF (YA.drop 1))),true)else bif decide ((NF YA)<0)then(0,false)else((NF YA),true)else bif decide ((NF YA)<0)then(0,false)else((NF YA),true)
def mE(ZG:rE)(FE:vA)(PE:Bool):Bool:=bif decide (ZG.Kind=4)then bif PE then bif(JF FE).2 then !(xE (IntKind.wrap .i64 (((JF FE).1)+ZG.By)) (-999999) 999999)else true else false else bif decide (ZG.Kind=5)then bif PE then bif(JF FE).2 then decide (((JF FE).1)<ZG.By)else true else true else bif decide (ZG.Kind=6)then PE else bif decide (ZG.Kind=7)then bif PE then !(FE==ZG.Val)else true else false
def FL(kL:Int):vA:=IZ ([IntKind.wrap .u8 (IntKind.wrap .i64 (48+kL))]:List Int)
def MG(kL:Int):vA:=bif decide (kL<0)then([45]:vA)++(FL (IntKind.wrap .i64 (0-kL)))else(FL kL)
def gD(rA:List rE)(HA:List aF)(k5:Nat):(List pA)→aI (Int×vA×(List pA)) (List pA) | (x174)=>bif(lC x174 HA ((rA.getD k5 EC).Key)).2.2 then bif mE (rA.getD k5 EC) ((lC x174 HA ((rA.getD k5 EC).Key)).1) ((lC x174 HA ((rA.getD k5 EC).Key)).2.1)then .ret (2,([]:vA),([]:List pA))else bif decide (((rA.getD k5 EC).Kind)=2)then .cont ((VD x174 (⟨(rA.getD k5 EC).Key,(rA.getD k5 EC).Val,false⟩:pA)))else bif decide (((rA.getD k5 EC).Kind)=3)then .cont ((VD x174 (⟨(rA.getD k5 EC).Key,([]:vA),true⟩:pA)))else bif decide (((rA.getD k5 EC).Kind)=4)then bif(lC x174 HA ((rA.getD k5 EC).Key)).2.1 then .cont ((VD x174 (⟨(rA.getD k5 EC).Key,(MG (IntKind.wrap .i64 (((JF ((lC x174 HA ((rA.getD k5 EC).Key)).1)).1)+((rA.getD k5 EC).By)))),false⟩:pA)))else .cont ((VD x174 (⟨(rA.getD k5 EC).Key,(MG (IntKind.wrap .i64 (0+((rA.getD k5 EC).By)))),false⟩:pA)))else .cont (x174)else bif decide (((rA.getD k5 EC).Kind)=2)then bif mE (rA.getD k5 EC) ((lC x174 HA ((rA.getD k5 EC).Key)).1) ((lC x174 HA ((rA.getD k5 EC).Key)).2.1)then .ret (2,([]:vA),([]:List pA))else .cont ((VD x174 (⟨(rA.getD k5 EC).Key,(rA.getD k5 EC).Val,false⟩:pA)))else bif decide (((rA.getD k5 EC).Kind)=3)then bif mE (rA.getD k5 EC) ((lC x174 HA ((rA.getD k5 EC).Key)).1) ((lC x174 HA ((rA.getD k5 EC).Key)).2.1)then .ret (2,([]:vA),([]:List pA))else .cont ((VD x174 (⟨(rA.getD k5 EC).Key,([]:vA),true⟩:pA)))else .ret (1,(rA.getD k5 EC).Key,([]:List pA))
def MD(rA:List rE)(HA:List aF):Int×vA×(List pA):=ED (UA (gD rA HA) (rA.length-0) 0 (([]:List pA))) (fun r=>r) (fun x174=>(3,([]:vA),x174))
def FH(jB:List pA)(sB:vA)(k10:Nat):Unit→aI aF Unit | ()=>bif((jB.getD k10 zA).Key)==sB then .ret (⟨sB,(jB.getD k10 zA).Val,true⟩:aF)else .cont ()
def eG(jB:List pA)(sB:vA):aF:=ED (UA (FH jB sB) (jB.length-0) 0 ()) (fun r=>r) (fun _=>(⟨sB,([]:vA),false⟩:aF))
def EG(jB:List pA)(AB:List rE):(List aF)→aI ((List aF)×(List pA)×Bool) (List aF) | (x38)=>bif decide (((MD AB x38).1)=1)then .cont ((x38++([(eG jB ((MD AB x38).2.1))]:List aF)))else .ret (x38,(MD AB x38).2.2,decide (((MD AB x38).1)=3))
def bD(jB:List pA)(AB:List rE):(List aF)×(List pA)×Bool:=ED (cG (EG jB AB) (((AB.filter fun o=>!(([]:List aF).any fun g=>g.Key==o.Key)).length)+1) (([]:List aF))) (fun r=>r) (fun x38=>(([]:List aF),([]:List pA),false))
def zI(jB:List pA)(DC:List pA)(k26:Nat):(List pA)→aI (List pA) (List pA) | (x65)=>.cont ((VD x65 (DC.getD k26 zA)))
def lH(jB:List pA)(DC:List pA)(x65:List pA)(k88:Nat):(List pA)→aI (List pA) (List pA) | (x145)=>bif(x65.getD k88 zA).Gone then .cont (x145)else .cont ((x145++([(x65.getD k88 zA)]:List pA)))
def SC(jB:List pA)(DC:List pA):List pA:=ED (UA (zI jB DC) (DC.length-0) 0 ((([]:List pA)++jB))) (fun r=>r) (fun x65=>ED (UA (lH jB DC x65) (x65.length-0) 0 (([]:List pA))) (fun r=>r) (fun x145=>x145))
def jF(rA:List pA)(HA:List (List rE))(k10:Nat):Unit→aI ((List pA)×(List Bool)×Bool) Unit | ()=>bif sI (HA.getD k10 tI)then .cont ()else .ret (([]:List pA),([]:List Bool),false)
def VE(rA:List pA)(HA:List (List rE))(k38:Nat):(List pA)×(List Bool)→aI ((List pA)×(List Bool)×Bool) ((List pA)×(List Bool)) | (x119,x124)=>bif(bD x119 (HA.getD k38 tI)).2.2 then bif fD (SC x119 ((bD x119 (HA.getD k38 tI)).2.1))then .cont ((SC x119 ((bD x119 (HA.getD k38 tI)).2.1)),(x124++([(fD (SC x119 ((bD x119 (HA.getD k38 tI)).2.1)))]:List Bool)))else .cont (x119,(x124++([(fD (SC x119 ((bD x119 (HA.getD k38 tI)).2.1)))]:List Bool)))else .cont (x119,(x124++([false]:List Bool)))
def UC(rA:List pA)(HA:List (List rE)):(List pA)×(List Bool)×Bool:=bif fD rA then bif decide (20<(HA.length:Int))then(([]:List pA),([]:List Bool),false)else ED (UA (jF rA HA) (HA.length-0) 0 ()) (fun r=>r) (fun _=>ED (UA (VE rA HA) (HA.length-0) 0 ((([]:List pA)++rA),([]:List Bool))) (fun r=>r) (fun(x119,x124)=>(x119,x124,true)))else(([]:List pA),([]:List Bool),false)
def UH(ps:List pA)(qF:List rE):(List pA)×Bool:=bif decide ((((UC ps ([qF]:List (List rE))).2.1).length:Int)=1)then((UC ps ([qF]:List (List rE))).1,(((UC ps ([qF]:List (List rE))).2.1).getD 0 JR))else((UC ps ([qF]:List (List rE))).1,false)
def fI(AB:List vA)(gN:vA)(k4:Nat):vA→aI vA vA | (x12)=>bif decide (0<(k4:Int))then .cont ((x12++gN)++(AB.getD k4 wA))else .cont (x12++(AB.getD k4 wA))
def UI(AB:List vA)(gN:vA):vA:=ED (UA (fI AB gN) (AB.length-0) 0 (([]:vA))) (fun r=>r) (fun x12=>x12)
def DB(NA:VA)(EE:nB):pA:=(⟨(NA.Name++([47]:vA))++(EE.Vals.getD 0 wA),(UI (EE.Vals.drop 1) ([44]:vA)),false⟩:pA)
def IG(NA:VA)(SA:MB):List rE:=bif decide (SA.Kind=1)then([(⟨6,(DB NA SA.New).Key,([]:vA),0⟩:rE),(⟨2,(DB NA SA.New).Key,(DB NA SA.New).Val,0⟩:rE)]:List rE)else bif decide (SA.Kind=2)then([(⟨7,(DB NA SA.Old).Key,(DB NA SA.Old).Val,0⟩:rE),(⟨3,(DB NA SA.Old).Key,([]:vA),0⟩:rE)]:List rE)else([(⟨7,(DB NA SA.Old).Key,(DB NA SA.Old).Val,0⟩:rE),(⟨2,(DB NA SA.Old).Key,(DB NA SA.New).Val,0⟩:rE)]:List rE)
def LB(NA:VA)(vD:AF)(EE:nB):vA:=(((((NA.Name++([46]:vA))++vD.Name)++([47]:vA))++(EE.Vals.getD ((vD.Col).toNat) wA))++([47]:vA))++(EE.Vals.getD 0 wA)
def tD(NA:VA)(vD:AF)(SA:MB):List rE:=bif decide (SA.Kind=1)then bif decide (SA.Kind=2)then([]:List rE)else bif(LB NA vD SA.New)==([]:vA)then([]:List rE)else bif decide (2≤vD.Stage)then(([]:List rE)++([(⟨2,(LB NA vD SA.New),([]:vA),0⟩:rE)]:List rE))else([]:List rE)else bif decide (SA.Kind=2)then bif(LB NA vD SA.Old)==([]:vA)then([]:List rE)else bif decide (1≤vD.Stage)then(([]:List rE)++([(⟨3,(LB NA vD SA.Old),([]:vA),0⟩:rE)]:List rE))else([]:List rE)else bif(LB NA vD SA.Old)==([]:vA)then bif(LB NA vD SA.New)==([]:vA)then([]:List rE)else bif decide (2≤vD.Stage)then(([]:List rE)++([(⟨2,(LB NA vD SA.New),([]:vA),0⟩:rE)]:List rE))else([]:List rE)else bif(LB NA vD SA.Old)==(LB NA vD SA.New)then bif(LB NA vD SA.New)==([]:vA)then([]:List rE)else bif decide (2≤vD.Stage)then(([]:List rE)++([(⟨2,(LB NA vD SA.New),([]:vA),0⟩:rE)]:List rE))else([]:List rE)else bif decide (1≤vD.Stage)then bif(LB NA vD SA.New)==([]:vA)then(([]:List rE)++([(⟨3,(LB NA vD SA.Old),([]:vA),0⟩:rE)]:List rE))else bif decide (2≤vD.Stage)then((([]:List rE)++([(⟨3,(LB NA vD SA.Old),([]:vA),0⟩:rE)]:List rE))++([(⟨2,(LB NA vD SA.New),([]:vA),0⟩:rE)]:List rE))else(([]:List rE)++([(⟨3,(LB NA vD SA.Old),([]:vA),0⟩:rE)]:List rE))else bif(LB NA vD SA.New)==([]:vA)then([]:List rE)else bif decide (2≤vD.Stage)then(([]:List rE)++([(⟨2,(LB NA vD SA.New),([]:vA),0⟩:rE)]:List rE))else([]:List rE)
def RJ(NA:VA)(SA:MB)(k26:Nat):(List rE)→aI (List rE) (List rE) | (x88)=>.cont ((x88++(tD NA (NA.Idxs.getD k26 MA) SA)))
def dG(NA:VA)(SA:MB):List rE:=ED (UA (RJ NA SA) (NA.Idxs.length-0) 0 ((IG NA SA))) (fun r=>r) (fun x88=>x88)
def DG(YA:vA)(DE:Int)(k2:Nat):(List vA)×Int→aI (List vA) ((List vA)×Int) | (x20,x24)=>bif decide (((YA.getD k2 0).toNat:Int)=DE)then .cont ((x20++([((YA.take k2).drop ((x24).toNat))]:List vA)),((k2+1:Nat):Int))else .cont (x20,x24)
def PA(YA:vA)(DE:Int):List vA:=ED (UA (DG YA DE) (YA.length-0) 0 (([]:List vA),0)) (fun r=>r) (fun(x20,x24)=>(x20++([(YA.drop ((x24).toNat))]:List vA)))
def QC(YA:vA):nB:=(⟨(PA YA 44)⟩:nB)
def aB(rA:List vA):iD:=bif decide ((rA.length:Int)=3)then bif(rA.getD 0 wA)==([103,101,116]:vA)then(⟨2,(⟨0,(⟨[]⟩:nB),(⟨[]⟩:nB)⟩:MB),([]:vA),(rA.getD 2 wA),([]:vA)⟩:iD)else bif decide ((rA.length:Int)=5)then bif(rA.getD 0 wA)==([114,97,110,103,101]:vA)then(⟨3,(⟨0,(⟨[]⟩:nB),(⟨[]⟩:nB)⟩:MB),(rA.getD 2 wA),(rA.getD 3 wA),(rA.getD 4 wA)⟩:iD)else bif(rA.getD 0 wA)==([105,110,115,101,114,116]:vA)then(⟨1,(⟨1,(⟨[]⟩:nB),(QC (rA.getD 2 wA))⟩:MB),([]:vA),([]:vA),([]:vA)⟩:iD)else bif(rA.getD 0 wA)==([100,101,108,101,116,101]:vA)then(⟨1,(⟨2,(QC (rA.getD 2 wA)),(⟨[]⟩:nB)⟩:MB),([]:vA),([]:vA),([]:vA)⟩:iD)else bif(rA.getD 0 wA)==([117,112,100,97,116,101]:vA)then(⟨1,(⟨3,(QC (rA.getD 2 wA)),(QC (rA.getD 4 wA))⟩:MB),([]:vA),([]:vA),([]:vA)⟩:iD)else(⟨0,(⟨0,(⟨[]⟩:nB),(⟨[]⟩:nB)⟩:MB),([]:vA),([]:vA),([]:vA)⟩:iD)else bif(rA.getD 0 wA)==([105,110,115,101,114,116]:vA)then(⟨1,(⟨1,(⟨[]⟩:nB),(QC (rA.getD 2 wA))⟩:MB),([]:vA),([]:vA),([]:vA)⟩:iD)else bif(rA.getD 0 wA)==([100,101,108,101,116,101]:vA)then(⟨1,(⟨2,(QC (rA.getD 2 wA)),(⟨[]⟩:nB)⟩:MB),([]:vA),([]:vA),([]:vA)⟩:iD)else(⟨0,(⟨0,(⟨[]⟩:nB),(⟨[]⟩:nB)⟩:MB),([]:vA),([]:vA),([]:vA)⟩:iD)else bif decide ((rA.length:Int)=5)then bif(rA.getD 0 wA)==([114,97,110,103,101]:vA)then(⟨3,(⟨0,(⟨[]⟩:nB),(⟨[]⟩:nB)⟩:MB),(rA.getD 2 wA),(rA.getD 3 wA),(rA.getD 4 wA)⟩:iD)else bif(rA.getD 0 wA)==([117,112,100,97,116,101]:vA)then(⟨1,(⟨3,(QC (rA.getD 2 wA)),(QC (rA.getD 4 wA))⟩:MB),([]:vA),([]:vA),([]:vA)⟩:iD)else(⟨0,(⟨0,(⟨[]⟩:nB),(⟨[]⟩:nB)⟩:MB),([]:vA),([]:vA),([]:vA)⟩:iD)else(⟨0,(⟨0,(⟨[]⟩:nB),(⟨[]⟩:nB)⟩:MB),([]:vA),([]:vA),([]:vA)⟩:iD)
def UD(YA:vA):Bool:=bif xE (YA.length:Int) 1 3 then(aH YA ([]:vA))else false
def iI(NA:VA)(EE:nB)(k18:Nat):Unit→aI Bool Unit | ()=>bif UD (EE.Vals.getD k18 wA)then .cont ()else .ret false
def sD(NA:VA)(EE:nB):Bool:=ED (UA (iI NA EE) (EE.Vals.length-0) 0 ()) (fun r=>r) (fun _=>decide ((EE.Vals.length:Int)=(NA.Cols.length:Int)))
def GF(NA:VA)(SA:MB):Bool:=bif decide (SA.Kind=1)then bif decide ((SA.Old.Vals.length:Int)=0)then(sD NA SA.New)else false else bif decide (SA.Kind=2)then bif decide ((SA.New.Vals.length:Int)=0)then(sD NA SA.Old)else false else bif decide (SA.Kind=3)then bif sD NA SA.Old then bif sD NA SA.New then(SA.Old.Vals.getD 0 wA)==(SA.New.Vals.getD 0 wA)else false else false else false
def LI(NA:VA)(pn:vA)(k11:Nat):Unit→aI Int Unit | ()=>bif((NA.Idxs.getD k11 MA).Name)==pn then .ret (k11:Int)else .cont ()
def JE(NA:VA)(pn:vA):Int:=ED (UA (LI NA pn) (NA.Idxs.length-0) 0 ()) (fun r=>r) (fun _=>-1)
def dI(SA:MB):Bool:=bif decide (SA.Kind=0)then bif decide ((SA.Old.Vals.length:Int)=0)then decide ((SA.New.Vals.length:Int)=0)else false else false
def nD(rA:VA)(HA:iD):Bool:=bif decide (HA.Kind=1)then bif GF rA HA.Act then bif HA.Idx==([]:vA)then bif HA.Low==([]:vA)then HA.High==([]:vA)else false else false else false else bif decide (HA.Kind=2)then bif dI HA.Act then bif HA.Idx==([]:vA)then bif UD HA.Low then HA.High==([]:vA)else false else false else false else bif decide (HA.Kind=3)then bif dI HA.Act then bif decide (0≤(JE rA HA.Idx))then bif UD HA.Low then(UD HA.High)else false else false else false else false
def eE(EE:nB):vA:=(UI EE.Vals ([44]:vA))
def HF(rA:VA)(HA:iD):vA:=bif decide (HA.Kind=2)then((([103,101,116,32]:vA)++rA.Name)++([32]:vA))++HA.Low else bif decide (HA.Kind=3)then((((((([114,97,110,103,101,32]:vA)++rA.Name)++([32]:vA))++HA.Idx)++([32]:vA))++HA.Low)++([32]:vA))++HA.High else bif decide (HA.Act.Kind=1)then((([105,110,115,101,114,116,32]:vA)++rA.Name)++([32]:vA))++(eE HA.Act.New)else bif decide (HA.Act.Kind=2)then((([100,101,108,101,116,101,32]:vA)++rA.Name)++([32]:vA))++(eE HA.Act.Old)else((((([117,112,100,97,116,101,32]:vA)++rA.Name)++([32]:vA))++(eE HA.Act.Old))++([32,116,111,32]:vA))++(eE HA.Act.New)
def XB(NA:VA)(VB:vA):iD×Bool:=bif nD NA (aB (PA VB 32))then((aB (PA VB 32)),(HF NA (aB (PA VB 32)))==VB)else((aB (PA VB 32)),false)
def OE(NA:VA)(DC:pA):nB×Bool:=bif decide ((DC.Key.length:Int)<3)then((⟨[]⟩:nB),false)else bif sD NA (⟨(([(DC.Key.drop 2)]:List vA)++(PA DC.Val 44))⟩:nB)then((⟨(([(DC.Key.drop 2)]:List vA)++(PA DC.Val 44))⟩:nB),((((DB NA (⟨(([(DC.Key.drop 2)]:List vA)++(PA DC.Val 44))⟩:nB)).Key)==DC.Key)&&((((DB NA (⟨(([(DC.Key.drop 2)]:List vA)++(PA DC.Val 44))⟩:nB)).Val)==DC.Val)&&(((DB NA (⟨(([(DC.Key.drop 2)]:List vA)++(PA DC.Val 44))⟩:nB)).Gone)==DC.Gone))))else((⟨(([(DC.Key.drop 2)]:List vA)++(PA DC.Val 44))⟩:nB),false)
def cH(NA:VA)(ps:List pA)(k12:Nat):(List nB)→aI (List nB) (List nB) | (x94)=>bif(OE NA (ps.getD k12 zA)).2 then .cont ((x94++([(OE NA (ps.getD k12 zA)).1]:List nB)))else .cont (x94)
def PC(NA:VA)(ps:List pA):List nB:=ED (UA (cH NA ps) (ps.length-0) 0 (([]:List nB))) (fun r=>r) (fun x94=>x94)
def tG(NA:VA)(ps:List pA)(sB:vA)(k19:Nat):(List nB)→aI (List nB) (List nB) | (x77)=>bif((((PC NA ps).getD k19 XC).Vals).getD 0 wA)==sB then .cont ((x77++([((PC NA ps).getD k19 XC)]:List nB)))else .cont (x77)
def dE(NA:VA)(ps:List pA)(sB:vA):List nB:=ED (UA (tG NA ps sB) ((PC NA ps).length-0) 0 (([]:List nB))) (fun r=>r) (fun x77=>x77)
def tC(NA:VA)(pn:vA)(sB:vA):vA×vA×Bool:=bif decide (((PA sB 47).length:Int)=3)then bif((PA sB 47).getD 0 wA)==((NA.Name++([46]:vA))++pn)then bif UD ((PA sB 47).getD 1 wA)then bif UD ((PA sB 47).getD 2 wA)then(((PA sB 47).getD 1 wA),((PA sB 47).getD 2 wA),true)else(([]:vA),([]:vA),false)else(([]:vA),([]:vA),false)else(([]:vA),([]:vA),false)else(([]:vA),([]:vA),false)
def QF(NA:VA)(pn:vA)(ps:List pA)(k13:Nat):(List vA)→aI (List vA) (List vA) | (x75)=>bif(tC NA pn ((ps.getD k13 zA).Key)).2.2 then .cont ((x75++([(ps.getD k13 zA).Key]:List vA)))else .cont (x75)
def tB(NA:VA)(pn:vA)(ps:List pA):List vA:=ED (UA (QF NA pn ps) (ps.length-0) 0 (([]:List vA))) (fun r=>r) (fun x75=>x75)
def TF(SA:nB)(DE:nB)(QH:Int):Bool:=bif(SA.Vals.getD ((QH).toNat) wA)==(DE.Vals.getD ((QH).toNat) wA)then eJ (SA.Vals.getD 0 wA) (DE.Vals.getD 0 wA)else eJ (SA.Vals.getD ((QH).toNat) wA) (DE.Vals.getD ((QH).toNat) wA)
def SF(rA:VA)(HA:vA)(QB:List pA)(k19:Nat)(x181:List nB):Int×(List nB)→aI (List nB) (Int×(List nB)) | (x241,x242)=>bif decide (0<x241)then bif TF (⟨([(tC rA HA ((tB rA HA QB).getD k19 wA)).2.1,(tC rA HA ((tB rA HA QB).getD k19 wA)).1]:List vA)⟩:nB) (x242.getD ((IntKind.wrap .i64 (x241-1)).toNat) XC) 1 then .cont (IntKind.wrap .i64 (x241-1),(x242.set ((x241).toNat) (x242.getD ((IntKind.wrap .i64 (x241-1)).toNat) XC)))else .brk (x241,x242)else .brk (x241,x242)
def dH(rA:VA)(HA:vA)(QB:List pA)(k19:Nat):(List nB)→aI (List nB) (List nB) | (x181)=>ED (cG (SF rA HA QB k19 x181) ((((x181.length:Int)).toNat)+1) ((x181.length:Int),(x181++([(⟨([(tC rA HA ((tB rA HA QB).getD k19 wA)).2.1,(tC rA HA ((tB rA HA QB).getD k19 wA)).1]:List vA)⟩:nB)]:List nB)))) (fun r=>aI.ret r) (fun(x241,x242)=>.cont ((x242.set ((x241).toNat) (⟨([(tC rA HA ((tB rA HA QB).getD k19 wA)).2.1,(tC rA HA ((tB rA HA QB).getD k19 wA)).1]:List vA)⟩:nB))))
def SB(rA:VA)(HA:vA)(QB:List pA):List nB:=ED (UA (dH rA HA QB) ((tB rA HA QB).length-0) 0 (([]:List nB))) (fun r=>r) (fun x181=>x181)
def kH(rA:VA)(HA:List pA)(QB:iD)(k40:Nat):(List nB)→aI ((List nB)×Bool) (List nB) | (x106)=>bif eJ ((((SB rA QB.Idx HA).getD k40 XC).Vals).getD 1 wA) QB.Low then .cont (x106)else bif iN ((((SB rA QB.Idx HA).getD k40 XC).Vals).getD 1 wA) QB.High then .cont ((x106++(dE rA HA ((((SB rA QB.Idx HA).getD k40 XC).Vals).getD 0 wA))))else .cont (x106)
def HD(rA:VA)(HA:List pA)(QB:iD):(List nB)×Bool:=bif decide (QB.Kind=2)then((dE rA HA QB.Low),true)else bif decide (QB.Kind=3)then bif decide (((rA.Idxs.getD (((JE rA QB.Idx)).toNat) MA).Stage)<3)then(([]:List nB),false)else ED (UA (kH rA HA QB) ((SB rA QB.Idx HA).length-0) 0 (([]:List nB))) (fun r=>r) (fun x106=>(x106,true))else(([]:List nB),false)
def OH(rA:VA)(HA:List pA)(QB:vA)(k63:Nat):(List vA)→aI ((List pA)×vA) (List vA) | (x126)=>.cont ((x126++([(eE (((HD rA HA ((XB rA QB).1)).1).getD k63 XC))]:List vA)))
def CD(rA:VA)(HA:List pA)(QB:vA):(List pA)×vA:=bif(XB rA QB).2 then bif decide (((XB rA QB).1.Kind)=1)then bif(UH HA (dG rA ((XB rA QB).1.Act))).2 then((UH HA (dG rA ((XB rA QB).1.Act))).1,([100,111,110,101]:vA))else((UH HA (dG rA ((XB rA QB).1.Act))).1,([110,111,116]:vA))else bif(HD rA HA ((XB rA QB).1)).2 then bif decide ((((HD rA HA ((XB rA QB).1)).1).length:Int)=0)then(HA,([110,111,110,101]:vA))else ED (UA (OH rA HA QB) (((HD rA HA ((XB rA QB).1)).1).length-0) 0 (([]:List vA))) (fun r=>r) (fun x126=>(HA,(UI x126 ([32]:vA))))else(HA,([99,108,111,115,101,100]:vA))else(HA,([119,104,97,116]:vA))
def eI(NA:VA)(ps:List pA)(AB:List vA)(k44:Nat):(List pA)×(List vA)→aI ((List pA)×(List vA)×Bool) ((List pA)×(List vA)) | (x97,x102)=>.cont ((CD NA x97 (AB.getD k44 wA)).1,(x102++([(CD NA x97 (AB.getD k44 wA)).2]:List vA)))
def GE(NA:VA)(ps:List pA)(AB:List vA):(List pA)×(List vA)×Bool:=bif FB NA then bif fD ps then bif decide (12<(AB.length:Int))then(([]:List pA),([]:List vA),false)else ED (UA (eI NA ps AB) (AB.length-0) 0 ((([]:List pA)++ps),([]:List vA))) (fun r=>r) (fun(x97,x102)=>(x97,x102,true))else(([]:List pA),([]:List vA),false)else(([]:List pA),([]:List vA),false)
def iE(YA:List pA)(II:pA→Bool)(k7:Nat):Unit→aI Int Unit | ()=>bif II (YA.getD k7 zA)then .ret (k7:Int)else .cont ()
def sE(YA:List pA)(II:pA→Bool):Int:=ED (UA (iE YA II) (YA.length-0) 0 ()) (fun r=>r) (fun _=>-1)
def FF(YA:List pA)(II:pA→Bool):Bool:=decide (0≤(sE YA II))
def aE(kL:Int)(vN:Int)(XL:Int):Bool:=bif decide (vN≤kL)then decide (kL≤XL)else false
def lE(DE:Int):Bool:=bif decide (97≤DE)then bif decide (DE≤122)then true else bif decide (48≤DE)then decide (DE≤57)else false else bif decide (48≤DE)then decide (DE≤57)else false
def wE(YA:vA)(uY:Int):Int:=YY YA uY
def MH(YA:vA)(uY:Int):Int:=(wE YA uY)
def aG(YA:vA)(xH:vA)(k3:Nat):Unit→aI Bool Unit | ()=>bif lE ((YA.getD k3 0).toNat:Int)then .cont ()else bif decide ((MH xH ((YA.getD k3 0).toNat:Int))<0)then .ret false else .cont ()
def AJ(YA:vA)(xH:vA):Bool:=ED (UA (aG YA xH) (YA.length-0) 0 ()) (fun r=>r) (fun _=>true)
def yK(YA:vA):Bool:=bif aE (YA.length:Int) 1 12 then(AJ YA ([46,47]:vA))else false
def UE(zF:List vA)(k3:Nat):Unit→aI Bool Unit | ()=>bif yK (zF.getD k3 wA)then bif decide (0<(k3:Int))then bif iN (zF.getD k3 wA) (zF.getD ((IntKind.wrap .i64 ((k3:Int)-1)).toNat) wA)then .ret false else .cont ()else .cont ()else .ret false
def pI(zF:List vA):Bool:=ED (UA (UE zF) (zF.length-0) 0 ()) (fun r=>r) (fun _=>true)
def yI(AB:List pA)(k10:Nat):(List vA)→aI (List vA) (List vA) | (x60)=>.cont ((x60++([(AB.getD k10 zA).Key]:List vA)))
def rI(AB:List pA):List vA:=ED (UA (yI AB) (AB.length-0) 0 (([]:List vA))) (fun r=>r) (fun x60=>x60)
def zK(YA:vA):Bool:=bif decide ((YA.length:Int)≤24)then(AJ YA ([46,45,44,95]:vA))else false
def qH(FE:vA)(lK:Bool):Bool:=bif zK FE then bif lK then !(!(FE==([]:vA)))else !false else false
def FI(DC:pA):Bool:=!(qH DC.Val DC.Gone)
def HH(AB:List pA):Bool:=bif decide ((AB.length:Int)≤24)then bif pI (rI AB)then !(FF AB (fun y0=>FI y0))else false else false
def OL(DC:pA):Bool:=DC.Gone
def KF(jB:List pA):Bool:=bif HH jB then !(FF jB (fun y0=>OL y0))else false
def vF(YA:vA)(YF:Int)(k2:Nat):Unit→aI Bool Unit | ()=>bif decide (((YA.getD k2 0).toNat:Int)<97)then .ret false else bif decide (122<((YA.getD k2 0).toNat:Int))then .ret false else .cont ()
def FD(YA:vA)(YF:Int):Bool:=ED (UA (vF YA YF) (YA.length-0) 0 ()) (fun r=>r) (fun _=>(aE (YA.length:Int) 1 YF))
def IE(YA:List vA)(uQ:vA)(k4:Nat):Unit→aI Int Unit | ()=>bif uQ==(YA.getD k4 wA)then .ret (k4:Int)else .cont ()
def XG(YA:List vA)(uQ:vA):Int:=ED (UA (IE YA uQ) (YA.length-0) 0 ()) (fun r=>r) (fun _=>-1)
def gG(YA:List vA)(uQ:vA):Bool:=decide (0≤(XG YA uQ))
def HG(dJ:Int):Bool:=(aE dJ 0 3)
def uF(rA:VA)(k19:Nat):Unit→aI Bool Unit | ()=>bif FD (rA.Cols.getD k19 wA) 3 then bif gG (rA.Cols.take k19) (rA.Cols.getD k19 wA)then .ret false else .cont ()else .ret false
def ID(rA:VA)(k35:Nat):Unit→aI Bool Unit | ()=>bif FD ((rA.Idxs.getD k35 MA).Name) 1 then bif aE ((rA.Idxs.getD k35 MA).Col) 1 (IntKind.wrap .i64 ((rA.Cols.length:Int)-1))then bif HG ((rA.Idxs.getD k35 MA).Stage)then bif decide (0<(k35:Int))then bif iN ((rA.Idxs.getD k35 MA).Name) ((rA.Idxs.getD ((IntKind.wrap .i64 ((k35:Int)-1)).toNat) MA).Name)then .ret false else .cont ()else .cont ()else .ret false else .ret false else .ret false
def AD(rA:VA):Bool:=bif FD rA.Name 1 then bif aE (rA.Cols.length:Int) 2 4 then bif decide (3<(rA.Idxs.length:Int))then false else ED (UA (uF rA) (rA.Cols.length-0) 0 ()) (fun r=>r) (fun _=>ED (UA (ID rA) (rA.Idxs.length-0) 0 ()) (fun r=>r) (fun _=>true))else false else false
def YC(YA:List pA):List pA:=(([]:List pA)++YA)
def pC(vD:List pA)(LG:vA)(QL:pA→vA→Int):Int×Int→aI (Int×Bool) (Int×Int) | (x9,x10)=>bif decide (x9<x10)then bif decide ((QL (vD.getD ((IntKind.wrap .i64 (Int.fdiv (IntKind.wrap .u64 (IntKind.wrap .i64 (x9+x10))) 2)).toNat) zA) LG)<0)then .cont (IntKind.wrap .i64 ((IntKind.wrap .i64 (Int.fdiv (IntKind.wrap .u64 (IntKind.wrap .i64 (x9+x10))) 2))+1),x10)else .cont (x9,IntKind.wrap .i64 (Int.fdiv (IntKind.wrap .u64 (IntKind.wrap .i64 (x9+x10))) 2))else .brk (x9,x10)
def zC(vD:List pA)(LG:vA)(QL:pA→vA→Int):Int×Bool:=ED (cG (pC vD LG QL) ((((vD.length:Int)-0).toNat)+1) (0,(vD.length:Int))) (fun r=>r) (fun(x9,x10)=>bif decide (x9<(vD.length:Int))then(x9,decide ((QL (vD.getD ((x9).toNat) zA) LG)=0))else(x9,false))
def CF(vD:vA):Bool:=!(vD==vD)
def qC(vD:vA)(RS:vA):Int:=bif CF vD then bif CF RS then 0 else -1 else bif CF RS then 1 else bif eJ vD RS then -1 else bif iN vD RS then 0 else 1
def cJ(DC:pA)(sB:vA):Int:=(qC DC.Key sB)
def RC(AB:List pA)(sB:vA):Int×Bool:=((zC AB sB (fun y0 y1=>cJ y0 y1)).1,(zC AB sB (fun y0 y1=>cJ y0 y1)).2)
def dK(YA:List pA)(RI:Nat)(vD:pA):List pA:=YA.take RI++vD::YA.drop RI
def XH(YA:List pA)(RI:Int)(vD:pA):List pA:=dK YA RI.toNat vD
def bF(AB:List pA)(DC:pA):List pA:=bif(RC AB DC.Key).2 then(AB.set (((RC AB DC.Key).1).toNat) DC)else(XH AB ((RC AB DC.Key).1) DC)
def BH(sB:vA)(PD:List pA)(zD:List aF)(k12:Nat):Unit→aI (vA×Bool×Bool) Unit | ()=>bif((zD.getD k12 GH).Key)==sB then .ret ((zD.getD k12 GH).Val,(zD.getD k12 GH).There,true)else .cont ()
def NE(sB:vA)(PD:List pA)(zD:List aF):vA×Bool×Bool:=bif(RC PD sB).2 then((PD.getD (((RC PD sB).1).toNat) zA).Val,!((PD.getD (((RC PD sB).1).toNat) zA).Gone),true)else ED (UA (BH sB PD zD) (zD.length-0) 0 ()) (fun r=>r) (fun _=>(([]:vA),false,false))
def PG(YA:vA):Int×Bool:=match Go.Lib.atoiAll YA with
 | .ok n=>bif aE n (-999999) 999999&&(Go.Lib.itoa n==YA)then(n,true)else(0,false)
 | _=>(0,false)
def CE(ZG:rE)(FE:vA)(PE:Bool):Bool:=bif decide (ZG.Kind=4)then bif PE then bif(PG FE).2 then(aE (IntKind.wrap .i64 (((PG FE).1)+ZG.By)) (-999999) 999999)else false else true else bif decide (ZG.Kind=5)then bif PE then bif(PG FE).2 then decide (ZG.By≤((PG FE).1))else false else false else bif decide (ZG.Kind=6)then !PE else bif decide (ZG.Kind=7)then bif PE then FE==ZG.Val else false else true
def sO(RI:Int):vA:=[(48+RI).toNat.toUInt8]
def KD(rA:List rE)(HA:List aF)(k12:Nat):(List pA)→aI (Int×vA×(List pA)) (List pA) | (x86)=>bif decide (((rA.getD k12 EC).Kind)=2)then .cont ((bF x86 (⟨(rA.getD k12 EC).Key,(rA.getD k12 EC).Val,false⟩:pA)))else bif decide (((rA.getD k12 EC).Kind)=3)then .cont ((bF x86 (⟨(rA.getD k12 EC).Key,([]:vA),true⟩:pA)))else bif(NE ((rA.getD k12 EC).Key) x86 HA).2.2 then bif CE (rA.getD k12 EC) ((NE ((rA.getD k12 EC).Key) x86 HA).1) ((NE ((rA.getD k12 EC).Key) x86 HA).2.1)then .cont (x86)else .ret (2,([]:vA),([]:List pA))else .ret (1,(rA.getD k12 EC).Key,([]:List pA))
def GD(rA:List rE)(HA:List aF):Int×vA×(List pA):=ED (UA (KD rA HA) (rA.length-0) 0 (([]:List pA))) (fun r=>r) (fun x86=>(3,([]:vA),x86))
def nH(jB:List pA)(sB:vA):aF:=bif(RC jB sB).2 then(⟨sB,(jB.getD (((RC jB sB).1).toNat) zA).Val,true⟩:aF)else(⟨sB,([]:vA),false⟩:aF)
def bH(jB:List pA)(AB:List rE):(List aF)→aI ((List aF)×(List pA)×Bool) (List aF) | (x45)=>bif decide (((GD AB x45).1)=1)then .cont ((x45++([(nH jB ((GD AB x45).2.1))]:List aF)))else .ret (x45,(GD AB x45).2.2,decide (((GD AB x45).1)=3))
def sF(jB:List pA)(AB:List rE):(List aF)×(List pA)×Bool:=ED (cG (bH jB AB) (((AB.filter fun o=>!((([]:List aF):List aF).any fun g=>g.Key==o.Key)).length)+1) (([]:List aF))) (fun r=>r) (fun x45=>(([]:List aF),([]:List pA),false))
def JD(YA:List pA)(II:pA→Bool):List pA:=YA.filter fun y=>!II y
def NI(vD:pA):Bool:=vD.Gone
def uJ(jB:List pA)(DC:List pA)(k12:Nat):(List pA)→aI ((List pA)×Bool) (List pA) | (x48)=>.cont ((bF x48 (DC.getD k12 zA)))
def vH(jB:List pA)(DC:List pA):(List pA)×Bool:=ED (UA (uJ jB DC) (DC.length-0) 0 ((YC jB))) (fun r=>r) (fun x48=>bif decide (24<((JD x48 (fun y0=>NI y0)).length:Int))then(([]:List pA),false)else((JD x48 (fun y0=>NI y0)),true))
def gH(ps:List pA)(qF:List rE):(List pA)×Bool:=bif(sF ps qF).2.2 then bif(vH ps ((sF ps qF).2.1)).2 then((vH ps ((sF ps qF).2.1)).1,true)else((([]:List pA)++ps),false)else((([]:List pA)++ps),false)
def xD(nK:List vA)(KE:vA):vA:=KE.intercalate nK
def LA(NA:VA)(EE:nB):pA:=(⟨(NA.Name++([47]:vA))++(EE.Vals.getD 0 wA),(xD (EE.Vals.drop 1) ([44]:vA)),false⟩:pA)
def VC(NA:VA)(pn:vA):vA:=((NA.Name++([46]:vA))++pn)++([47]:vA)
def uE(YA:List AF)(II:AF→Bool)(k7:Nat):Unit→aI Int Unit | ()=>bif II (YA.getD k7 MA)then .ret (k7:Int)else .cont ()
def XF(YA:List AF)(II:AF→Bool):Int:=ED (UA (uE YA II) (YA.length-0) 0 ()) (fun r=>r) (fun _=>-1)
def EF(vD:AF)(bK:vA):Bool:=vD.Name==bK
def xC(NA:VA)(pn:vA):Int:=(XF NA.Idxs (fun y0=>EF y0 pn))
def vC(NA:VA)(pn:vA):AF:=(NA.Idxs.getD (((xC NA pn)).toNat) MA)
def cB(NA:VA)(pn:vA)(EE:nB):vA:=(((VC NA pn)++(EE.Vals.getD (((vC NA pn).Col).toNat) wA))++([47]:vA))++(EE.Vals.getD 0 wA)
def bL(dJ:Int):Bool:=decide (1≤dJ)
def uI(dJ:Int):Bool:=decide (2≤dJ)
def pB(rA:VA)(HA:MB)(k106:Nat):(List rE)→aI (List rE) (List rE) | (x149)=>bif decide (HA.Kind=1)then bif(cB rA ((rA.Idxs.getD k106 MA).Name) HA.New)==([]:vA)then .cont (x149)else bif uI ((rA.Idxs.getD k106 MA).Stage)then .cont ((x149++([(⟨2,(cB rA ((rA.Idxs.getD k106 MA).Name) HA.New),([]:vA),0⟩:rE)]:List rE)))else .cont (x149)else bif decide (HA.Kind=2)then bif(cB rA ((rA.Idxs.getD k106 MA).Name) HA.Old)==([]:vA)then .cont (x149)else bif bL ((rA.Idxs.getD k106 MA).Stage)then .cont ((x149++([(⟨3,(cB rA ((rA.Idxs.getD k106 MA).Name) HA.Old),([]:vA),0⟩:rE)]:List rE)))else .cont (x149)else bif(cB rA ((rA.Idxs.getD k106 MA).Name) HA.Old)==([]:vA)then bif(cB rA ((rA.Idxs.getD k106 MA).Name) HA.New)==([]:vA)then .cont (x149)else bif uI ((rA.Idxs.getD k106 MA).Stage)then .cont ((x149++([(⟨2,(cB rA ((rA.Idxs.getD k106 MA).Name) HA.New),([]:vA),0⟩:rE)]:List rE)))else .cont (x149)else bif(cB rA ((rA.Idxs.getD k106 MA).Name) HA.Old)==(cB rA ((rA.Idxs.getD k106 MA).Name) HA.New)then bif(cB rA ((rA.Idxs.getD k106 MA).Name) HA.New)==([]:vA)then .cont (x149)else bif uI ((rA.Idxs.getD k106 MA).Stage)then .cont ((x149++([(⟨2,(cB rA ((rA.Idxs.getD k106 MA).Name) HA.New),([]:vA),0⟩:rE)]:List rE)))else .cont (x149)else bif bL ((rA.Idxs.getD k106 MA).Stage)then bif(cB rA ((rA.Idxs.getD k106 MA).Name) HA.New)==([]:vA)then .cont ((x149++([(⟨3,(cB rA ((rA.Idxs.getD k106 MA).Name) HA.Old),([]:vA),0⟩:rE)]:List rE)))else bif uI ((rA.Idxs.getD k106 MA).Stage)then .cont (((x149++([(⟨3,(cB rA ((rA.Idxs.getD k106 MA).Name) HA.Old),([]:vA),0⟩:rE)]:List rE))++([(⟨2,(cB rA ((rA.Idxs.getD k106 MA).Name) HA.New),([]:vA),0⟩:rE)]:List rE)))else .cont ((x149++([(⟨3,(cB rA ((rA.Idxs.getD k106 MA).Name) HA.Old),([]:vA),0⟩:rE)]:List rE)))else bif(cB rA ((rA.Idxs.getD k106 MA).Name) HA.New)==([]:vA)then .cont (x149)else bif uI ((rA.Idxs.getD k106 MA).Stage)then .cont ((x149++([(⟨2,(cB rA ((rA.Idxs.getD k106 MA).Name) HA.New),([]:vA),0⟩:rE)]:List rE)))else .cont (x149)
def ZD(rA:VA)(HA:MB):List rE:=bif decide (HA.Kind=1)then ED (UA (pB rA HA) (rA.Idxs.length-0) 0 (((([]:List rE)++([(⟨6,(LA rA HA.New).Key,([]:vA),0⟩:rE)]:List rE))++([(⟨2,(LA rA HA.New).Key,(LA rA HA.New).Val,0⟩:rE)]:List rE)))) (fun r=>r) (fun x149=>x149)else bif decide (HA.Kind=2)then ED (UA (pB rA HA) (rA.Idxs.length-0) 0 (((([]:List rE)++([(⟨7,(LA rA HA.Old).Key,(LA rA HA.Old).Val,0⟩:rE)]:List rE))++([(⟨3,(LA rA HA.Old).Key,([]:vA),0⟩:rE)]:List rE)))) (fun r=>r) (fun x470=>x470)else ED (UA (pB rA HA) (rA.Idxs.length-0) 0 (((([]:List rE)++([(⟨7,(LA rA HA.Old).Key,(LA rA HA.Old).Val,0⟩:rE)]:List rE))++([(⟨2,(LA rA HA.New).Key,(LA rA HA.New).Val,0⟩:rE)]:List rE)))) (fun r=>r) (fun x663=>x663)
def xA(YA:vA)(KE:vA):List vA:=sp (KE.headD 0) YA
def mD(VB:vA):nB:=(⟨(xA VB ([44]:vA))⟩:nB)
def XD(YA:List vA)(II:vA→Bool)(k7:Nat):Unit→aI Int Unit | ()=>bif II (YA.getD k7 wA)then .ret (k7:Int)else .cont ()
def UF(YA:List vA)(II:vA→Bool):Int:=ED (UA (XD YA II) (YA.length-0) 0 ()) (fun r=>r) (fun _=>-1)
def bG(YA:List vA)(II:vA→Bool):Bool:=decide (0≤(UF YA II))
def uH(YA:vA):Bool:=bif aE (YA.length:Int) 1 3 then(AJ YA ([]:vA))else false
def SI(YA:vA):Bool:=!(uH YA)
def wC(NA:VA)(EE:nB):Bool:=bif decide ((EE.Vals.length:Int)=(NA.Cols.length:Int))then !(bG EE.Vals (fun y0=>SI y0))else false
def HC(NA:VA)(SA:MB):Bool:=bif decide (SA.Kind=1)then bif decide ((SA.Old.Vals.length:Int)=0)then(wC NA SA.New)else false else bif decide (SA.Kind=2)then bif wC NA SA.Old then decide ((SA.New.Vals.length:Int)=0)else false else bif decide (SA.Kind=3)then bif wC NA SA.Old then bif wC NA SA.New then(SA.Old.Vals.getD 0 wA)==(SA.New.Vals.getD 0 wA)else false else false else false
def LJ(SA:MB):Bool:=bif decide (SA.Kind=0)then bif decide ((SA.Old.Vals.length:Int)=0)then decide ((SA.New.Vals.length:Int)=0)else false else false
def UB(rA:VA)(HA:iD):Bool:=bif decide (HA.Kind=1)then bif HC rA HA.Act then bif HA.Idx==([]:vA)then bif HA.Low==([]:vA)then HA.High==([]:vA)else false else false else false else bif decide (HA.Kind=2)then bif LJ HA.Act then bif HA.Idx==([]:vA)then bif uH HA.Low then HA.High==([]:vA)else false else false else false else bif decide (HA.Kind=3)then bif LJ HA.Act then bif decide (0≤(xC rA HA.Idx))then bif uH HA.Low then(uH HA.High)else false else false else false else false
def BD(EE:nB):vA:=(xD EE.Vals ([44]:vA))
def kC(rA:VA)(HA:iD):vA:=bif decide (HA.Kind=2)then((([103,101,116,32]:vA)++rA.Name)++([32]:vA))++HA.Low else bif decide (HA.Kind=3)then((((((([114,97,110,103,101,32]:vA)++rA.Name)++([32]:vA))++HA.Idx)++([32]:vA))++HA.Low)++([32]:vA))++HA.High else bif decide (HA.Act.Kind=1)then((([105,110,115,101,114,116,32]:vA)++rA.Name)++([32]:vA))++(BD HA.Act.New)else bif decide (HA.Act.Kind=2)then((([100,101,108,101,116,101,32]:vA)++rA.Name)++([32]:vA))++(BD HA.Act.Old)else((((([117,112,100,97,116,101,32]:vA)++rA.Name)++([32]:vA))++(BD HA.Act.Old))++([32,116,111,32]:vA))++(BD HA.Act.New)
def FA(rA:VA)(HA:vA):iD×Bool:=bif decide (((xA HA ([32]:vA)).length:Int)=3)then bif((xA HA ([32]:vA)).getD 0 wA)==([105,110,115,101,114,116]:vA)then bif UB rA (⟨1,(⟨1,(⟨[]⟩:nB),(mD ((xA HA ([32]:vA)).getD 2 wA))⟩:MB),([]:vA),([]:vA),([]:vA)⟩:iD)then bif(kC rA (⟨1,(⟨1,(⟨[]⟩:nB),(mD ((xA HA ([32]:vA)).getD 2 wA))⟩:MB),([]:vA),([]:vA),([]:vA)⟩:iD))==HA then((⟨1,(⟨1,(⟨[]⟩:nB),(mD ((xA HA ([32]:vA)).getD 2 wA))⟩:MB),([]:vA),([]:vA),([]:vA)⟩:iD),true)else((⟨0,(⟨0,(⟨[]⟩:nB),(⟨[]⟩:nB)⟩:MB),([]:vA),([]:vA),([]:vA)⟩:iD),false)else((⟨0,(⟨0,(⟨[]⟩:nB),(⟨[]⟩:nB)⟩:MB),([]:vA),([]:vA),([]:vA)⟩:iD),false)else bif((xA HA ([32]:vA)).getD 0 wA)==([100,101,108,101,116,101]:vA)then bif UB rA (⟨1,(⟨2,(mD ((xA HA ([32]:vA)).getD 2 wA)),(⟨[]⟩:nB)⟩:MB),([]:vA),([]:vA),([]:vA)⟩:iD)then bif(kC rA (⟨1,(⟨2,(mD ((xA HA ([32]:vA)).getD 2 wA)),(⟨[]⟩:nB)⟩:MB),([]:vA),([]:vA),([]:vA)⟩:iD))==HA then((⟨1,(⟨2,(mD ((xA HA ([32]:vA)).getD 2 wA)),(⟨[]⟩:nB)⟩:MB),([]:vA),([]:vA),([]:vA)⟩:iD),true)else((⟨0,(⟨0,(⟨[]⟩:nB),(⟨[]⟩:nB)⟩:MB),([]:vA),([]:vA),([]:vA)⟩:iD),false)else((⟨0,(⟨0,(⟨[]⟩:nB),(⟨[]⟩:nB)⟩:MB),([]:vA),([]:vA),([]:vA)⟩:iD),false)else bif decide (((xA HA ([32]:vA)).length:Int)=5)then bif((xA HA ([32]:vA)).getD 0 wA)==([117,112,100,97,116,101]:vA)then bif UB rA (⟨1,(⟨3,(mD ((xA HA ([32]:vA)).getD 2 wA)),(mD ((xA HA ([32]:vA)).getD 4 wA))⟩:MB),([]:vA),([]:vA),([]:vA)⟩:iD)then bif(kC rA (⟨1,(⟨3,(mD ((xA HA ([32]:vA)).getD 2 wA)),(mD ((xA HA ([32]:vA)).getD 4 wA))⟩:MB),([]:vA),([]:vA),([]:vA)⟩:iD))==HA then((⟨1,(⟨3,(mD ((xA HA ([32]:vA)).getD 2 wA)),(mD ((xA HA ([32]:vA)).getD 4 wA))⟩:MB),([]:vA),([]:vA),([]:vA)⟩:iD),true)else((⟨0,(⟨0,(⟨[]⟩:nB),(⟨[]⟩:nB)⟩:MB),([]:vA),([]:vA),([]:vA)⟩:iD),false)else((⟨0,(⟨0,(⟨[]⟩:nB),(⟨[]⟩:nB)⟩:MB),([]:vA),([]:vA),([]:vA)⟩:iD),false)else bif UB rA (⟨2,(⟨0,(⟨[]⟩:nB),(⟨[]⟩:nB)⟩:MB),([]:vA),((xA HA ([32]:vA)).getD 2 wA),([]:vA)⟩:iD)then bif(kC rA (⟨2,(⟨0,(⟨[]⟩:nB),(⟨[]⟩:nB)⟩:MB),([]:vA),((xA HA ([32]:vA)).getD 2 wA),([]:vA)⟩:iD))==HA then((⟨2,(⟨0,(⟨[]⟩:nB),(⟨[]⟩:nB)⟩:MB),([]:vA),((xA HA ([32]:vA)).getD 2 wA),([]:vA)⟩:iD),true)else((⟨0,(⟨0,(⟨[]⟩:nB),(⟨[]⟩:nB)⟩:MB),([]:vA),([]:vA),([]:vA)⟩:iD),false)else((⟨0,(⟨0,(⟨[]⟩:nB),(⟨[]⟩:nB)⟩:MB),([]:vA),([]:vA),([]:vA)⟩:iD),false)else bif UB rA (⟨2,(⟨0,(⟨[]⟩:nB),(⟨[]⟩:nB)⟩:MB),([]:vA),((xA HA ([32]:vA)).getD 2 wA),([]:vA)⟩:iD)then bif(kC rA (⟨2,(⟨0,(⟨[]⟩:nB),(⟨[]⟩:nB)⟩:MB),([]:vA),((xA HA ([32]:vA)).getD 2 wA),([]:vA)⟩:iD))==HA then((⟨2,(⟨0,(⟨[]⟩:nB),(⟨[]⟩:nB)⟩:MB),([]:vA),((xA HA ([32]:vA)).getD 2 wA),([]:vA)⟩:iD),true)else((⟨0,(⟨0,(⟨[]⟩:nB),(⟨[]⟩:nB)⟩:MB),([]:vA),([]:vA),([]:vA)⟩:iD),false)else((⟨0,(⟨0,(⟨[]⟩:nB),(⟨[]⟩:nB)⟩:MB),([]:vA),([]:vA),([]:vA)⟩:iD),false)else bif decide (((xA HA ([32]:vA)).length:Int)=5)then bif((xA HA ([32]:vA)).getD 0 wA)==([117,112,100,97,116,101]:vA)then bif UB rA (⟨1,(⟨3,(mD ((xA HA ([32]:vA)).getD 2 wA)),(mD ((xA HA ([32]:vA)).getD 4 wA))⟩:MB),([]:vA),([]:vA),([]:vA)⟩:iD)then bif(kC rA (⟨1,(⟨3,(mD ((xA HA ([32]:vA)).getD 2 wA)),(mD ((xA HA ([32]:vA)).getD 4 wA))⟩:MB),([]:vA),([]:vA),([]:vA)⟩:iD))==HA then((⟨1,(⟨3,(mD ((xA HA ([32]:vA)).getD 2 wA)),(mD ((xA HA ([32]:vA)).getD 4 wA))⟩:MB),([]:vA),([]:vA),([]:vA)⟩:iD),true)else((⟨0,(⟨0,(⟨[]⟩:nB),(⟨[]⟩:nB)⟩:MB),([]:vA),([]:vA),([]:vA)⟩:iD),false)else((⟨0,(⟨0,(⟨[]⟩:nB),(⟨[]⟩:nB)⟩:MB),([]:vA),([]:vA),([]:vA)⟩:iD),false)else bif UB rA (⟨3,(⟨0,(⟨[]⟩:nB),(⟨[]⟩:nB)⟩:MB),((xA HA ([32]:vA)).getD 2 wA),((xA HA ([32]:vA)).getD 3 wA),((xA HA ([32]:vA)).getD 4 wA)⟩:iD)then bif(kC rA (⟨3,(⟨0,(⟨[]⟩:nB),(⟨[]⟩:nB)⟩:MB),((xA HA ([32]:vA)).getD 2 wA),((xA HA ([32]:vA)).getD 3 wA),((xA HA ([32]:vA)).getD 4 wA)⟩:iD))==HA then((⟨3,(⟨0,(⟨[]⟩:nB),(⟨[]⟩:nB)⟩:MB),((xA HA ([32]:vA)).getD 2 wA),((xA HA ([32]:vA)).getD 3 wA),((xA HA ([32]:vA)).getD 4 wA)⟩:iD),true)else((⟨0,(⟨0,(⟨[]⟩:nB),(⟨[]⟩:nB)⟩:MB),([]:vA),([]:vA),([]:vA)⟩:iD),false)else((⟨0,(⟨0,(⟨[]⟩:nB),(⟨[]⟩:nB)⟩:MB),([]:vA),([]:vA),([]:vA)⟩:iD),false)else bif UB rA (⟨1,(⟨0,(⟨[]⟩:nB),(⟨[]⟩:nB)⟩:MB),([]:vA),([]:vA),([]:vA)⟩:iD)then bif(kC rA (⟨1,(⟨0,(⟨[]⟩:nB),(⟨[]⟩:nB)⟩:MB),([]:vA),([]:vA),([]:vA)⟩:iD))==HA then((⟨1,(⟨0,(⟨[]⟩:nB),(⟨[]⟩:nB)⟩:MB),([]:vA),([]:vA),([]:vA)⟩:iD),true)else((⟨0,(⟨0,(⟨[]⟩:nB),(⟨[]⟩:nB)⟩:MB),([]:vA),([]:vA),([]:vA)⟩:iD),false)else((⟨0,(⟨0,(⟨[]⟩:nB),(⟨[]⟩:nB)⟩:MB),([]:vA),([]:vA),([]:vA)⟩:iD),false)
def kD(YA:vA)(bE:vA):Bool:=bif decide ((bE.length:Int)≤(YA.length:Int))then(YA.take bE.length)==bE else false
def uD(YA:vA)(bE:vA):vA×Bool:=bif kD YA bE then((YA.drop bE.length),true)else(YA,false)
def qB(YA:vA)(bE:vA):vA×Bool:=((uD YA bE).1,(uD YA bE).2)
def bJ(kL:Int):Int:=IntKind.wrap .i64 (Int.tdiv (IntKind.wrap .i64 (kL+16)) 8)
def BB(rA:vA)(HA:vA):Int:=bif HA==rA then 0 else(wE rA ((HA.getD 0 0).toNat:Int))
def jD(YA:vA)(KE:vA):vA×vA×Bool:=bif decide (0≤(BB YA KE))then((YA.take (((BB YA KE)).toNat)),(YA.drop ((IntKind.wrap .i64 ((BB YA KE)+(KE.length:Int))).toNat)),true)else(YA,([]:vA),false)
def tE(YA:vA)(KE:vA):vA×vA×Bool:=((jD YA KE).1,(jD YA KE).2.1,(jD YA KE).2.2)
def uB(NA:VA)(pn:vA)(sB:vA):vA×vA×Bool:=bif(qB sB (VC NA pn)).2 then bif(tE ((qB sB (VC NA pn)).1) ([47]:vA)).2.2 then bif uH ((tE ((qB sB (VC NA pn)).1) ([47]:vA)).1)then bif uH ((tE ((qB sB (VC NA pn)).1) ([47]:vA)).2.1)then((tE ((qB sB (VC NA pn)).1) ([47]:vA)).1,(tE ((qB sB (VC NA pn)).1) ([47]:vA)).2.1,true)else(([]:vA),([]:vA),false)else(([]:vA),([]:vA),false)else(([]:vA),([]:vA),false)else(([]:vA),([]:vA),false)
def qE(NA:VA)(pn:vA)(ps:List pA)(k20:Nat):(List vA)→aI (List vA) (List vA) | (x82)=>bif(uB NA pn ((ps.getD k20 zA).Key)).2.2 then .cont ((x82++([(ps.getD k20 zA).Key]:List vA)))else .cont (x82)
def lB(NA:VA)(pn:vA)(ps:List pA):List vA:=ED (UA (qE NA pn ps) (ps.length-0) 0 (([]:List vA))) (fun r=>r) (fun x82=>x82)
def bC(NA:VA)(DC:pA):nB×Bool:=bif(qB DC.Key (NA.Name++([47]:vA))).2 then bif wC NA (⟨(([(qB DC.Key (NA.Name++([47]:vA))).1]:List vA)++(xA DC.Val ([44]:vA)))⟩:nB)then bif(DC.Key==((LA NA (⟨(([(qB DC.Key (NA.Name++([47]:vA))).1]:List vA)++(xA DC.Val ([44]:vA)))⟩:nB)).Key))&&((DC.Val==((LA NA (⟨(([(qB DC.Key (NA.Name++([47]:vA))).1]:List vA)++(xA DC.Val ([44]:vA)))⟩:nB)).Val))&&(DC.Gone==((LA NA (⟨(([(qB DC.Key (NA.Name++([47]:vA))).1]:List vA)++(xA DC.Val ([44]:vA)))⟩:nB)).Gone)))then((⟨(([(qB DC.Key (NA.Name++([47]:vA))).1]:List vA)++(xA DC.Val ([44]:vA)))⟩:nB),true)else((⟨[]⟩:nB),false)else((⟨[]⟩:nB),false)else((⟨[]⟩:nB),false)
def kF(NA:VA)(ps:List pA)(k19:Nat):(List nB)→aI (List nB) (List nB) | (x101)=>bif(bC NA (ps.getD k19 zA)).2 then .cont ((x101++([(bC NA (ps.getD k19 zA)).1]:List nB)))else .cont (x101)
def OD(NA:VA)(ps:List pA):List nB:=ED (UA (kF NA ps) (ps.length-0) 0 (([]:List nB))) (fun r=>r) (fun x101=>x101)
def vE(YA:List nB)(II:nB→Bool)(k8:Nat):Unit→aI Int Unit | ()=>bif II (YA.getD k8 XC)then .ret (k8:Int)else .cont ()
def TD(YA:List nB)(II:nB→Bool):Int:=ED (UA (vE YA II) (YA.length-0) 0 ()) (fun r=>r) (fun _=>-1)
def wF(EE:nB)(bK:vA):Bool:=(EE.Vals.getD 0 wA)==bK
def dD(NA:VA)(ps:List pA)(qG:vA):nB×Bool:=bif decide ((TD (OD NA ps) (fun y0=>wF y0 qG))<0)then((⟨[]⟩:nB),false)else(((OD NA ps).getD (((TD (OD NA ps) (fun y0=>wF y0 qG))).toNat) XC),true)
def cS(x y:vA):Int:=bif eJ x y then -1 else bif iN x y then 0 else 1
def cE(x y:RE):Int:=bif decide (cS x.val y.val=0)then cS x.primary y.primary else cS x.val y.val
def TB(YA:List RE):List RE:=YA.mergeSort fun x y=>!decide (cE y x<0)
def FG(RG:List Int)(k3:Nat):Unit→aI Int Unit | ()=>bif decide ((RG.getD k3 lT)=0)then .cont ()else .ret (RG.getD k3 lT)
def xK(RG:List Int):Int:=ED (UA (FG RG) (RG.length-0) 0 ()) (fun r=>r) (fun _=>0)
def DK(SA:RE)(DE:RE):Int:=(xK ([(qC SA.val DE.val),(qC SA.primary DE.primary)]:List Int))
def BE(rA:VA)(HA:List pA)(QB:iD)(k78:Nat):(List RE)→aI ((List nB)×Bool) (List RE) | (x103)=>bif eJ ((uB rA QB.Idx ((lB rA QB.Idx HA).getD k78 wA)).1) QB.Low then .cont (x103)else bif iN ((uB rA QB.Idx ((lB rA QB.Idx HA).getD k78 wA)).1) QB.High then .cont ((x103++([(⟨(uB rA QB.Idx ((lB rA QB.Idx HA).getD k78 wA)).1,(uB rA QB.Idx ((lB rA QB.Idx HA).getD k78 wA)).2.1⟩:RE)]:List RE)))else .cont (x103)
def cF(rA:VA)(HA:List pA)(QB:iD)(x103:List RE)(k135:Nat):(List nB)→aI ((List nB)×Bool) (List nB) | (x219)=>bif(dD rA HA (((TB x103).getD k135 EJ).primary)).2 then .cont ((x219++([(dD rA HA (((TB x103).getD k135 EJ).primary)).1]:List nB)))else .cont (x219)
def IB(rA:VA)(HA:List pA)(QB:iD):(List nB)×Bool:=bif decide (QB.Kind=2)then bif(dD rA HA QB.Low).2 then((([]:List nB)++([(dD rA HA QB.Low).1]:List nB)),true)else(([]:List nB),true)else bif decide (QB.Kind=3)then bif decide (((vC rA QB.Idx).Stage)=3)then ED (UA (BE rA HA QB) ((lB rA QB.Idx HA).length-0) 0 (([]:List RE))) (fun r=>r) (fun x103=>ED (UA (cF rA HA QB x103) (x103.length-0) 0 (([]:List nB))) (fun r=>r) (fun x219=>(x219,true)))else(([]:List nB),false)else(([]:List nB),false)
def sG(rA:VA)(HA:List pA)(QB:vA)(k69:Nat):(List vA)→aI ((List pA)×vA) (List vA) | (x139)=>.cont ((x139++([(BD (((IB rA HA ((FA rA QB).1)).1).getD k69 XC))]:List vA)))
def LC(rA:VA)(HA:List pA)(QB:vA):(List pA)×vA:=bif(FA rA QB).2 then bif decide (((FA rA QB).1.Kind)=1)then bif(gH HA (ZD rA ((FA rA QB).1.Act))).2 then((gH HA (ZD rA ((FA rA QB).1.Act))).1,([100,111,110,101]:vA))else((gH HA (ZD rA ((FA rA QB).1.Act))).1,([110,111,116]:vA))else bif(IB rA HA ((FA rA QB).1)).2 then bif decide ((((IB rA HA ((FA rA QB).1)).1).length:Int)=0)then(HA,([110,111,110,101]:vA))else ED (UA (sG rA HA QB) (((IB rA HA ((FA rA QB).1)).1).length-0) 0 (([]:List vA))) (fun r=>r) (fun x139=>(HA,(xD x139 ([32]:vA))))else(HA,([99,108,111,115,101,100]:vA))else(HA,([119,104,97,116]:vA))
def PI(NA:VA)(ps:List pA)(AB:List vA)(k37:Nat):(List pA)×(List vA)→aI ((List pA)×(List vA)×Bool) ((List pA)×(List vA)) | (x92,x97)=>.cont ((LC NA x92 (AB.getD k37 wA)).1,(x97++([(LC NA x92 (AB.getD k37 wA)).2]:List vA)))
def iC(NA:VA)(ps:List pA)(AB:List vA):(List pA)×(List vA)×Bool:=bif AD NA then bif KF ps then bif decide (12<(AB.length:Int))then(([]:List pA),([]:List vA),false)else ED (UA (PI NA ps AB) (AB.length-0) 0 ((YC ps),([]:List vA))) (fun r=>r) (fun(x92,x97)=>(x92,x97,true))else(([]:List pA),([]:List vA),false)else(([]:List pA),([]:List vA),false)
def yF(SA:List vA)(pG:Int)(k2:Nat):Int→aI Int Int | (x3)=>bif(SA.getD k2 wA)==(BC x3)then .cont (IntKind.wrap .i64 (x3+1))else .ret (-1)
def eF(SA:List vA)(pG:Int):Int:=ED (UA (yF SA pG) (SA.length-0) 0 (pG)) (fun r=>r) (fun x3=>x3)
def IC(rA:VA)(HA:List pA)(QB:List vA):Bool:=bif decide ((xF rA 1048576)<0)then true else bif decide ((zG HA (xF rA 1048576))<0)then true else bif decide ((fF QB (zG HA (xF rA 1048576)))<0)then true else bif GI ((iC rA HA QB).1) ((GE rA HA QB).1)then bif VG ((iC rA HA QB).2.1) ((GE rA HA QB).2.1)then bif((iC rA HA QB).2.2)==((GE rA HA QB).2.2)then bif bI rA rA then bif GI HA HA then bif VG QB QB then bif decide (((lD QB ((CC HA ((ZE rA 1).1)).1)).1)<0)then false else bif decide ((oE ((CC ((iC rA HA QB).1) 1).2) 1)<0)then false else bif decide ((eF ((lD ((iC rA HA QB).2.1) ((CC ((iC rA HA QB).1) 1).1)).2) (oE ((CC ((iC rA HA QB).1) 1).2) 1))<0)then false else bif decide ((eF ((lD ((iC rA HA QB).2.1) ((CC ((iC rA HA QB).1) 1).1)).2) (oE ((CC ((iC rA HA QB).1) 1).2) 1))=((lD ((iC rA HA QB).2.1) ((CC ((iC rA HA QB).1) 1).1)).1))then true else false else false else false else false else false else false else false
def qI(NA:VA)(pn:vA):Bool:=bif AD NA then decide (0≤(xC NA pn))else false
def PO(NA:VA)(EE:nB):Bool:=bif FB NA then(sD NA EE)else false
def YG(NA:VA)(EE:nB):Bool:=bif AD NA then(wC NA EE)else false
def EL(NA:VA)(pn:vA):AF×Bool:=bif FB NA then bif decide ((JE NA pn)<0)then((⟨([]:vA),0,0⟩:AF),false)else((NA.Idxs.getD (((JE NA pn)).toNat) MA),true)else((⟨([]:vA),0,0⟩:AF),false)
def BL(NA:VA)(SA:MB):Bool:=bif FB NA then(GF NA SA)else false
def jJ(NA:VA)(SA:MB):Bool:=bif AD NA then(HC NA SA)else false
def XN(SA:List AF)(pG:Int)(k2:Nat):Int→aI Int Int | (x3)=>bif((SA.getD k2 MA).Name)==(BC x3)then bif decide (((SA.getD k2 MA).Col)=(IntKind.wrap .i64 (x3+1)))then bif decide (((SA.getD k2 MA).Stage)=(IntKind.wrap .i64 ((IntKind.wrap .i64 (x3+1))+1)))then .cont (IntKind.wrap .i64 ((IntKind.wrap .i64 ((IntKind.wrap .i64 (x3+1))+1))+1))else .ret (-1)else .ret (-1)else .ret (-1)
def BM(SA:List AF)(pG:Int):Int:=ED (UA (XN SA pG) (SA.length-0) 0 (pG)) (fun r=>r) (fun x3=>x3)
def xO(SA:VA)(pG:Int):Int:=bif decide ((eF SA.Cols pG)<0)then -1 else bif decide ((BM SA.Idxs (eF SA.Cols pG))<0)then -1 else(BM SA.Idxs (eF SA.Cols pG))
def xP(NA:VA)(EE:nB):pA×Bool:=bif YG NA EE then((LA NA EE),true)else((⟨([]:vA),([]:vA),false⟩:pA),false)
def SG(NA:VA)(YA:iD):Bool:=bif FB NA then(nD NA YA)else false
def EI(NA:VA)(YA:iD):Bool:=bif AD NA then(UB NA YA)else false
def MP(NA:VA)(pn:vA)(sB:vA):vA×vA×Bool:=bif qI NA pn then((uB NA pn sB).1,(uB NA pn sB).2.1,(uB NA pn sB).2.2)else(([]:vA),([]:vA),false)
def rN(NA:VA)(DC:pA):nB×Bool:=bif AD NA then((bC NA DC).1,(bC NA DC).2)else((⟨[]⟩:nB),false)
end Go.Proofs.YtoimdjojffkefaaGreatDoor
