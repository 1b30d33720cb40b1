/- Fill Piece: the plain forms of the values, and plain models of the functions. -/
import Derived.Test.YtoimdjojffkefaaGreatDoorE31
set_option linter.unusedVariables false
set_option linter.unusedSimpArgs false
namespace Go.Proofs.YtoimdjojffkefaaGreatDoor
open Go.RowKit Go.X
structure SE where
  Name:KA
  Col:Int
  Stage:Int
def JA:SE:=⟨[],0,0⟩
def TP(x:SE):Prop:=ZN x.Name∧BT x.Col∧BT x.Stage
def TJ(x:SE):Prop:=WE x.Name
theorem dI:TJ JA:=WC
def TE(x:SE):List Value:=[.string (bs x.Name),.int .i64 x.Col,.int .i64 x.Stage]
theorem gI:Gd (RF TE):=uI fun _=>rfl
structure ZA where
  Name:KA
  Cols:List KA
  Idxs:List SE
def LX:ZA:=⟨[],[],[]⟩
def GM(x:ZA):Prop:=ZN x.Name∧(FT ZN) x.Cols∧(FT TP) x.Idxs
def vE(x:ZA):Prop:=WE x.Name∧(uF WE) x.Cols∧(uF TJ) x.Idxs
theorem QY:vE LX:=⟨WC,fE _,fE _⟩
def nR:RK ZA:=fun w S cs x=>∃A1 c1 A2 c2,cs=[.string (bs x.Name),.slice A1 x.Cols.length c1,.slice A2 x.Idxs.length c2]∧PC w S (RF lC) 1 A1 x.Cols.length c1 x.Cols∧PC w S (RF TE) 3 A2 x.Idxs.length c2 x.Idxs
def nS:ZL ZA:=fun w l h cs x=>∃A1 c1 lo1 hi1 A2 c2 lo2 hi2,cs=[.string (bs x.Name),.slice A1 x.Cols.length c1,.slice A2 x.Idxs.length c2]∧sB w lo1 hi1 9 1 (RF lC) A1 x.Cols.length c1 x.Cols∧sB w lo2 hi2 111 3 (RF TE) A2 x.Idxs.length c2 x.Idxs∧(l≤lo1∧lo1≤hi1∧hi1≤h)∧(l≤lo2∧lo2≤hi2∧hi2≤h)∧(hi1≤lo2∨hi2≤lo1)
theorem LY:Gd nR:=⟨fun⟨A1,c1,A2,c2,he,h0,h1⟩ hk=>⟨A1,c1,A2,c2,he,BI gS h0 hk,BI gI h1 hk⟩,fun⟨A1,c1,A2,c2,he,h0,h1⟩ hw=>⟨A1,c1,A2,c2,he,HE gS h0 hw,HE gI h1 hw⟩,fun⟨A1,c1,A2,c2,he,h0,h1⟩=>by rw[he];rfl⟩
theorem uY:dP nS nR:=⟨fun⟨A1,c1,lo1,hi1,A2,c2,lo2,hi2,he,h1,h2,r0,r1,r2⟩ hk=>⟨A1,c1,lo1,hi1,A2,c2,lo2,hi2,he,yI gS h1 (fun b b1 b2 b3=>hk b oM oM b3),yI gI h2 (fun b b1 b2 b3=>hk b oM oM b3),r0,r1,r2⟩,fun⟨A1,c1,lo1,hi1,A2,c2,lo2,hi2,he,h1,h2,r0,r1,r2⟩=>by rw[he];rfl,fun⟨A1,c1,lo1,hi1,A2,c2,lo2,hi2,he,h1,h2,r0,r1,r2⟩=>⟨A1,c1,A2,c2,he,HE gS (AI gS h1) (fun b hb _=>⟨by have:=hb.1;omega,by have:=hb.2;omega⟩),HE gI (AI gI h2) (fun b hb _=>⟨by have:=hb.1;omega,by have:=hb.2;omega⟩)⟩⟩
theorem dZ{w:World}{l h:Nat}{z0:KA}{lo1 hi1 n1 c1:Nat}{A1:Option Addr}{y1:List KA}{lo2 hi2 n2 c2:Nat}{A2:Option Addr}{y2:List SE}(h1:sB w lo1 hi1 9 1 (RF lC) A1 n1 c1 y1)(h2:sB w lo2 hi2 111 3 (RF TE) A2 n2 c2 y2)(r0:(l≤lo1∧lo1≤hi1∧hi1≤h))(r1:(l≤lo2∧lo2≤hi2∧hi2≤h))(r2:(hi1≤lo2∨hi2≤lo1)):nS w l h [.string (bs z0),.slice A1 n1 c1,.slice A2 n2 c2] ⟨z0,y1,y2⟩:=by
  obtain rfl:=h1.1;obtain rfl:=h2.1
  exact⟨A1,c1,lo1,hi1,A2,c2,lo2,hi2,rfl,h1,h2,r0,r1,r2⟩
structure iA where
  Key:KA
  Val:KA
  Gone:Bool
def nA:iA:=⟨[],[],false⟩
def zL(x:iA):Prop:=ZN x.Key∧ZN x.Val
def tB(x:iA):Prop:=WE x.Key∧WE x.Val
theorem KE:tB nA:=⟨WC,WC⟩
def UA(x:iA):List Value:=[.string (bs x.Key),.string (bs x.Val),.bool x.Gone]
theorem gW:Gd (RF UA):=uI fun _=>rfl
structure gE where
  Last:KA
  Over:Bool
def GY:gE:=⟨[],false⟩
def ZO(x:gE):Prop:=ZN x.Last
def FH(x:gE):Prop:=WE x.Last
theorem fZ:FH GY:=WC
def zW(x:gE):List Value:=[.string (bs x.Last),.bool x.Over]
theorem bZ:Gd (RF zW):=uI fun _=>rfl
structure AH where
  Kind:Int
  Key:KA
  Val:KA
  By:Int
def PB:AH:=⟨0,[],[],0⟩
def qZ(x:AH):Prop:=BT x.Kind∧ZN x.Key∧ZN x.Val∧BT x.By
def iK(x:AH):Prop:=WE x.Key∧WE x.Val
theorem pH:iK PB:=⟨WC,WC⟩
def TK(x:AH):List Value:=[.int .i64 x.Kind,.string (bs x.Key),.string (bs x.Val),.int .i64 x.By]
theorem oF:Gd (RF TK):=uI fun _=>rfl
structure dE where
  Key:KA
  Val:KA
  There:Bool
def HG:dE:=⟨[],[],false⟩
def AZ(x:dE):Prop:=ZN x.Key∧ZN x.Val
def LK(x:dE):Prop:=WE x.Key∧WE x.Val
theorem mT:LK HG:=⟨WC,WC⟩
def aL(x:dE):List Value:=[.string (bs x.Key),.string (bs x.Val),.bool x.There]
theorem MF:Gd (RF aL):=uI fun _=>rfl
structure rC where
  Vals:List KA
def PD:rC:=⟨[]⟩
def wX(x:rC):Prop:=(FT ZN) x.Vals
def II(x:rC):Prop:=(uF WE) x.Vals
theorem MK:II PD:=fE _
def qW:RK rC:=fun w S cs x=>∃A1 c1,cs=[.slice A1 x.Vals.length c1]∧PC w S (RF lC) 1 A1 x.Vals.length c1 x.Vals
def MJ:ZL rC:=fun w l h cs x=>∃A1 c1 lo1 hi1,cs=[.slice A1 x.Vals.length c1]∧sB w lo1 hi1 9 1 (RF lC) A1 x.Vals.length c1 x.Vals∧(l≤lo1∧lo1≤hi1∧hi1≤h)
theorem NI:Gd qW:=⟨fun⟨A1,c1,he,h0⟩ hk=>⟨A1,c1,he,BI gS h0 hk⟩,fun⟨A1,c1,he,h0⟩ hw=>⟨A1,c1,he,HE gS h0 hw⟩,fun⟨A1,c1,he,h0⟩=>by rw[he];rfl⟩
theorem jC:dP MJ qW:=⟨fun⟨A1,c1,lo1,hi1,he,h1,r0⟩ hk=>⟨A1,c1,lo1,hi1,he,yI gS h1 (fun b b1 b2 b3=>hk b oM oM b3),r0⟩,fun⟨A1,c1,lo1,hi1,he,h1,r0⟩=>by rw[he];rfl,fun⟨A1,c1,lo1,hi1,he,h1,r0⟩=>⟨A1,c1,he,HE gS (AI gS h1) (fun b hb _=>⟨by have:=hb.1;omega,by have:=hb.2;omega⟩)⟩⟩
theorem QU{w:World}{l h:Nat}{lo1 hi1 n1 c1:Nat}{A1:Option Addr}{y1:List KA}(h1:sB w lo1 hi1 9 1 (RF lC) A1 n1 c1 y1)(r0:(l≤lo1∧lo1≤hi1∧hi1≤h)):MJ w l h [.slice A1 n1 c1] ⟨y1⟩:=by
  obtain rfl:=h1.1
  exact⟨A1,c1,lo1,hi1,rfl,h1,r0⟩
structure nE where
  key:KA
  ops:List AH
def wH:nE:=⟨[],[]⟩
def uZ(x:nE):Prop:=ZN x.key∧(FT qZ) x.ops
def lJ(x:nE):Prop:=WE x.key∧(uF iK) x.ops
theorem oO:lJ wH:=⟨WC,fE _⟩
def NJ:RK nE:=fun w S cs x=>∃A1 c1,cs=[.string (bs x.key),.slice A1 x.ops.length c1]∧PC w S (RF TK) 4 A1 x.ops.length c1 x.ops
def WK:ZL nE:=fun w l h cs x=>∃A1 c1 lo1 hi1,cs=[.string (bs x.key),.slice A1 x.ops.length c1]∧sB w lo1 hi1 122 4 (RF TK) A1 x.ops.length c1 x.ops∧(l≤lo1∧lo1≤hi1∧hi1≤h)
theorem FJ:Gd NJ:=⟨fun⟨A1,c1,he,h0⟩ hk=>⟨A1,c1,he,BI oF h0 hk⟩,fun⟨A1,c1,he,h0⟩ hw=>⟨A1,c1,he,HE oF h0 hw⟩,fun⟨A1,c1,he,h0⟩=>by rw[he];rfl⟩
theorem AJ:dP WK NJ:=⟨fun⟨A1,c1,lo1,hi1,he,h1,r0⟩ hk=>⟨A1,c1,lo1,hi1,he,yI oF h1 (fun b b1 b2 b3=>hk b oM oM b3),r0⟩,fun⟨A1,c1,lo1,hi1,he,h1,r0⟩=>by rw[he];rfl,fun⟨A1,c1,lo1,hi1,he,h1,r0⟩=>⟨A1,c1,he,HE oF (AI oF h1) (fun b hb _=>⟨by have:=hb.1;omega,by have:=hb.2;omega⟩)⟩⟩
theorem bX{w:World}{l h:Nat}{z0:KA}{lo1 hi1 n1 c1:Nat}{A1:Option Addr}{y1:List AH}(h1:sB w lo1 hi1 122 4 (RF TK) A1 n1 c1 y1)(r0:(l≤lo1∧lo1≤hi1∧hi1≤h)):WK w l h [.string (bs z0),.slice A1 n1 c1] ⟨z0,y1⟩:=by
  obtain rfl:=h1.1
  exact⟨A1,c1,lo1,hi1,rfl,h1,r0⟩
structure cP where
  val:KA
  primary:KA
def KX:cP:=⟨[],[]⟩
def pZ(x:cP):Prop:=ZN x.val∧ZN x.primary
def dX(x:cP):Prop:=WE x.val∧WE x.primary
theorem PY:dX KX:=⟨WC,WC⟩
def NX(x:cP):List Value:=[.string (bs x.val),.string (bs x.primary)]
theorem KY:Gd (RF NX):=uI fun _=>rfl
structure CL where
  x:Int
  y:Int
  signed:Bool
  code:Int
def EX:CL:=⟨0,0,false,0⟩
def uX(x:CL):Prop:=BT x.x∧BT x.y∧BT x.code
def nQ(x:CL):List Value:=[.int .i64 x.x,.int .i64 x.y,.bool x.signed,.int .u8 x.code]
theorem xV:Gd (RF nQ):=uI fun _=>rfl
structure qI where
  msg:KA
  addr:Int
def kM:qI:=⟨[],0⟩
def jS(x:qI):Prop:=ZN x.msg∧BT x.addr
def WL(x:qI):Prop:=WE x.msg
theorem YQ:WL kM:=WC
def mM(x:qI):List Value:=[.string (bs x.msg),.int .u64 x.addr]
theorem NQ:Gd (RF mM):=uI fun _=>rfl
structure HM where
  Kind:Int
  Old:rC
  New:rC
def MS:HM:=⟨0,PD,PD⟩
def fW(x:HM):Prop:=BT x.Kind∧wX x.Old∧wX x.New
def XQ(x:HM):Prop:=II x.Old∧II x.New
theorem oT:XQ MS:=⟨MK,MK⟩
def pS:RK HM:=fun w S cs x=>∃A1 c1 A2 c2,cs=[.int .i64 x.Kind,.slice A1 x.Old.Vals.length c1,.slice A2 x.New.Vals.length c2]∧PC w S (RF lC) 1 A1 x.Old.Vals.length c1 x.Old.Vals∧PC w S (RF lC) 1 A2 x.New.Vals.length c2 x.New.Vals
def yQ:ZL HM:=fun w l h cs x=>∃A1 c1 lo1 hi1 A2 c2 lo2 hi2,cs=[.int .i64 x.Kind,.slice A1 x.Old.Vals.length c1,.slice A2 x.New.Vals.length c2]∧sB w lo1 hi1 9 1 (RF lC) A1 x.Old.Vals.length c1 x.Old.Vals∧sB w lo2 hi2 9 1 (RF lC) A2 x.New.Vals.length c2 x.New.Vals∧(l≤lo1∧lo1≤hi1∧hi1≤h)∧(l≤lo2∧lo2≤hi2∧hi2≤h)∧(hi1≤lo2∨hi2≤lo1)
theorem vY:Gd pS:=⟨fun⟨A1,c1,A2,c2,he,h0,h1⟩ hk=>⟨A1,c1,A2,c2,he,BI gS h0 hk,BI gS h1 hk⟩,fun⟨A1,c1,A2,c2,he,h0,h1⟩ hw=>⟨A1,c1,A2,c2,he,HE gS h0 hw,HE gS h1 hw⟩,fun⟨A1,c1,A2,c2,he,h0,h1⟩=>by rw[he];rfl⟩
theorem QX:dP yQ pS:=⟨fun⟨A1,c1,lo1,hi1,A2,c2,lo2,hi2,he,h1,h2,r0,r1,r2⟩ hk=>⟨A1,c1,lo1,hi1,A2,c2,lo2,hi2,he,yI gS h1 (fun b b1 b2 b3=>hk b oM oM b3),yI gS h2 (fun b b1 b2 b3=>hk b oM oM b3),r0,r1,r2⟩,fun⟨A1,c1,lo1,hi1,A2,c2,lo2,hi2,he,h1,h2,r0,r1,r2⟩=>by rw[he];rfl,fun⟨A1,c1,lo1,hi1,A2,c2,lo2,hi2,he,h1,h2,r0,r1,r2⟩=>⟨A1,c1,A2,c2,he,HE gS (AI gS h1) (fun b hb _=>⟨by have:=hb.1;omega,by have:=hb.2;omega⟩),HE gS (AI gS h2) (fun b hb _=>⟨by have:=hb.1;omega,by have:=hb.2;omega⟩)⟩⟩
theorem NY{w:World}{l h:Nat}{z0:Int}{lo1 hi1 n1 c1:Nat}{A1:Option Addr}{y1:List KA}{lo2 hi2 n2 c2:Nat}{A2:Option Addr}{y2:List KA}(h1:sB w lo1 hi1 9 1 (RF lC) A1 n1 c1 y1)(h2:sB w lo2 hi2 9 1 (RF lC) A2 n2 c2 y2)(r0:(l≤lo1∧lo1≤hi1∧hi1≤h))(r1:(l≤lo2∧lo2≤hi2∧hi2≤h))(r2:(hi1≤lo2∨hi2≤lo1)):yQ w l h [.int .i64 z0,.slice A1 n1 c1,.slice A2 n2 c2] ⟨z0,⟨y1⟩,⟨y2⟩⟩:=by
  obtain rfl:=h1.1;obtain rfl:=h2.1
  exact⟨A1,c1,lo1,hi1,A2,c2,lo2,hi2,rfl,h1,h2,r0,r1,r2⟩
structure kS where
  Kind:Int
  Act:HM
  Idx:KA
  Low:KA
  High:KA
def HY:kS:=⟨0,MS,[],[],[]⟩
def tZ(x:kS):Prop:=BT x.Kind∧fW x.Act∧ZN x.Idx∧ZN x.Low∧ZN x.High
def ZX(x:kS):Prop:=XQ x.Act∧WE x.Idx∧WE x.Low∧WE x.High
theorem gZ:ZX HY:=⟨oT,WC,WC,WC⟩
def rW:RK kS:=fun w S cs x=>∃A1 c1 A2 c2,cs=[.int .i64 x.Kind,.int .i64 x.Act.Kind,.slice A1 x.Act.Old.Vals.length c1,.slice A2 x.Act.New.Vals.length c2,.string (bs x.Idx),.string (bs x.Low),.string (bs x.High)]∧PC w S (RF lC) 1 A1 x.Act.Old.Vals.length c1 x.Act.Old.Vals∧PC w S (RF lC) 1 A2 x.Act.New.Vals.length c2 x.Act.New.Vals
def KU:ZL kS:=fun w l h cs x=>∃A1 c1 lo1 hi1 A2 c2 lo2 hi2,cs=[.int .i64 x.Kind,.int .i64 x.Act.Kind,.slice A1 x.Act.Old.Vals.length c1,.slice A2 x.Act.New.Vals.length c2,.string (bs x.Idx),.string (bs x.Low),.string (bs x.High)]∧sB w lo1 hi1 9 1 (RF lC) A1 x.Act.Old.Vals.length c1 x.Act.Old.Vals∧sB w lo2 hi2 9 1 (RF lC) A2 x.Act.New.Vals.length c2 x.Act.New.Vals∧(l≤lo1∧lo1≤hi1∧hi1≤h)∧(l≤lo2∧lo2≤hi2∧hi2≤h)∧(hi1≤lo2∨hi2≤lo1)
theorem cZ:Gd rW:=⟨fun⟨A1,c1,A2,c2,he,h0,h1⟩ hk=>⟨A1,c1,A2,c2,he,BI gS h0 hk,BI gS h1 hk⟩,fun⟨A1,c1,A2,c2,he,h0,h1⟩ hw=>⟨A1,c1,A2,c2,he,HE gS h0 hw,HE gS h1 hw⟩,fun⟨A1,c1,A2,c2,he,h0,h1⟩=>by rw[he];rfl⟩
theorem JY:dP KU rW:=⟨fun⟨A1,c1,lo1,hi1,A2,c2,lo2,hi2,he,h1,h2,r0,r1,r2⟩ hk=>⟨A1,c1,lo1,hi1,A2,c2,lo2,hi2,he,yI gS h1 (fun b b1 b2 b3=>hk b oM oM b3),yI gS h2 (fun b b1 b2 b3=>hk b oM oM b3),r0,r1,r2⟩,fun⟨A1,c1,lo1,hi1,A2,c2,lo2,hi2,he,h1,h2,r0,r1,r2⟩=>by rw[he];rfl,fun⟨A1,c1,lo1,hi1,A2,c2,lo2,hi2,he,h1,h2,r0,r1,r2⟩=>⟨A1,c1,A2,c2,he,HE gS (AI gS h1) (fun b hb _=>⟨by have:=hb.1;omega,by have:=hb.2;omega⟩),HE gS (AI gS h2) (fun b hb _=>⟨by have:=hb.1;omega,by have:=hb.2;omega⟩)⟩⟩
theorem lZ{w:World}{l h:Nat}{z0:Int}{z1:Int}{lo1 hi1 n1 c1:Nat}{A1:Option Addr}{y1:List KA}{lo2 hi2 n2 c2:Nat}{A2:Option Addr}{y2:List KA}{z4:KA}{z5:KA}{z6:KA}(h1:sB w lo1 hi1 9 1 (RF lC) A1 n1 c1 y1)(h2:sB w lo2 hi2 9 1 (RF lC) A2 n2 c2 y2)(r0:(l≤lo1∧lo1≤hi1∧hi1≤h))(r1:(l≤lo2∧lo2≤hi2∧hi2≤h))(r2:(hi1≤lo2∨hi2≤lo1)):KU w l h [.int .i64 z0,.int .i64 z1,.slice A1 n1 c1,.slice A2 n2 c2,.string (bs z4),.string (bs z5),.string (bs z6)] ⟨z0,⟨z1,⟨y1⟩,⟨y2⟩⟩,z4,z5,z6⟩:=by
  obtain rfl:=h1.1;obtain rfl:=h2.1
  exact⟨A1,c1,lo1,hi1,A2,c2,lo2,hi2,rfl,h1,h2,r0,r1,r2⟩
structure BL where
  lo:Int
  hi:Int
def DX:BL:=⟨0,0⟩
def tX(x:BL):Prop:=BT x.lo∧BT x.hi
def mQ(x:BL):List Value:=[.int .u8 x.lo,.int .u8 x.hi]
theorem wV:Gd (RF mQ):=uI fun _=>rfl
structure jK where
  s:KA
def lQ:jK:=⟨[]⟩
def vX(x:jK):Prop:=ZN x.s
def HP(x:jK):Prop:=WE x.s
theorem JV:HP lQ:=WC
def oQ(x:jK):List Value:=[.string (bs x.s)]
theorem yV:Gd (RF oQ):=uI fun _=>rfl
def oH:List AH:=[]
def pW:RK (List AH):=fun w S cs x=>∃A1 c1,cs=[.slice A1 x.length c1]∧PC w S (RF TK) 4 A1 x.length c1 x
theorem HN:Gd pW:=⟨fun⟨A1,c1,he,h0⟩ hk=>⟨A1,c1,he,BI oF h0 hk⟩,fun⟨A1,c1,he,h0⟩ hw=>⟨A1,c1,he,HE oF h0 hw⟩,fun⟨A1,c1,he,h0⟩=>by rw[he];rfl⟩
theorem nT:uF iK oH:=fE _
def BF(WA:List KA)(RB:Int)(k3:Nat):Int→WH Int Int | (x4)=>bif decide ((IntKind.wrap .i64 (x4-((WA.getD k3 kB).length:Int)))<0)then .ret (-1)else .cont (IntKind.wrap .i64 (x4-((WA.getD k3 kB).length:Int)))
def UE(WA:List KA)(RB:Int):Int:=bif decide ((IntKind.wrap .i64 (RB-(WA.length:Int)))<0)then -1 else fD (FA (BF WA RB) (WA.length-0) 0 (IntKind.wrap .i64 (RB-(WA.length:Int)))) (fun r=>r) (fun x4=>x4)
def HI(WA:SE)(RB:Int):Int:=bif decide ((IntKind.wrap .i64 (RB-(WA.Name.length:Int)))<0)then -1 else IntKind.wrap .i64 (RB-(WA.Name.length:Int))
def CH(WA:List SE)(RB:Int)(k3:Nat):Int→WH Int Int | (x4)=>bif decide ((HI (WA.getD k3 JA) x4)<0)then .ret (-1)else .cont ((HI (WA.getD k3 JA) x4))
def xI(WA:List SE)(RB:Int):Int:=bif decide ((IntKind.wrap .i64 (RB-(WA.length:Int)))<0)then -1 else fD (FA (CH WA RB) (WA.length-0) 0 (IntKind.wrap .i64 (RB-(WA.length:Int)))) (fun r=>r) (fun x4=>x4)
def CE(WA:ZA)(RB:Int):Int:=bif decide ((IntKind.wrap .i64 (RB-(WA.Name.length:Int)))<0)then -1 else bif decide ((UE WA.Cols (IntKind.wrap .i64 (RB-(WA.Name.length:Int))))<0)then -1 else bif decide ((xI WA.Idxs (UE WA.Cols (IntKind.wrap .i64 (RB-(WA.Name.length:Int)))))<0)then -1 else(xI WA.Idxs (UE WA.Cols (IntKind.wrap .i64 (RB-(WA.Name.length:Int)))))
def oG(WA:iA)(RB:Int):Int:=bif decide ((IntKind.wrap .i64 (RB-(WA.Key.length:Int)))<0)then -1 else bif decide ((IntKind.wrap .i64 ((IntKind.wrap .i64 (RB-(WA.Key.length:Int)))-(WA.Val.length:Int)))<0)then -1 else IntKind.wrap .i64 ((IntKind.wrap .i64 (RB-(WA.Key.length:Int)))-(WA.Val.length:Int))
def BG(WA:List iA)(RB:Int)(k3:Nat):Int→WH Int Int | (x4)=>bif decide ((oG (WA.getD k3 nA) x4)<0)then .ret (-1)else .cont ((oG (WA.getD k3 nA) x4))
def AF(WA:List iA)(RB:Int):Int:=bif decide ((IntKind.wrap .i64 (RB-(WA.length:Int)))<0)then -1 else fD (FA (BG WA RB) (WA.length-0) 0 (IntKind.wrap .i64 (RB-(WA.length:Int)))) (fun r=>r) (fun x4=>x4)
def XH(WA:List KA)(k10:Nat):(List KA)→WH (List KA) (List KA) | (x18)=>.cont ((x18.set k10 (WA.getD k10 kB)))
def KO(WA:List KA):List KA:=fD (FA (XH WA) (WA.length-0) 0 ((List.replicate WA.length kB))) (fun r=>r) (fun x18=>x18)
def OU(WA:SE):SE:=WA
def eJ(WA:List SE)(k10:Nat):(List SE)→WH (List SE) (List SE) | (x21)=>.cont ((x21.set k10 (WA.getD k10 JA)))
def jT(WA:List SE):List SE:=fD (FA (eJ WA) (WA.length-0) 0 ((List.replicate WA.length JA))) (fun r=>r) (fun x21=>x21)
def QQ(WA:ZA):ZA:=WA
def RQ(WA:iA):iA:=WA
def sI(WA:List iA)(k10:Nat):(List iA)→WH (List iA) (List iA) | (x21)=>.cont ((x21.set k10 (WA.getD k10 nA)))
def CP(WA:List iA):List iA:=fD (FA (sI WA) (WA.length-0) 0 ((List.replicate WA.length nA))) (fun r=>r) (fun x21=>x21)
def PG(WA:iA)(rE:iA):Bool:=bif WA.Key==rE.Key then bif WA.Val==rE.Val then bif WA.Gone==rE.Gone then true else false else false else false
def zG(WA:List iA)(rE:List iA)(k4:Nat):Unit→WH Bool Unit | ()=>bif PG (WA.getD k4 nA) (rE.getD k4 nA)then .cont ()else .ret false
def yH(WA:List iA)(rE:List iA):Bool:=bif decide ((WA.length:Int)=(rE.length:Int))then fD (FA (zG WA rE) (WA.length-0) 0 ()) (fun r=>r) (fun _=>true)else false
def eG(WA:List KA)(rE:List KA)(k4:Nat):Unit→WH Bool Unit | ()=>bif(WA.getD k4 kB)==(rE.getD k4 kB)then .cont ()else .ret false
def HH(WA:List KA)(rE:List KA):Bool:=bif decide ((WA.length:Int)=(rE.length:Int))then fD (FA (eG WA rE) (WA.length-0) 0 ()) (fun r=>r) (fun _=>true)else false
def rI(WA:SE)(rE:SE):Bool:=bif WA.Name==rE.Name then bif decide (WA.Col=rE.Col)then bif decide (WA.Stage=rE.Stage)then true else false else false else false
def BH(WA:List SE)(rE:List SE)(k4:Nat):Unit→WH Bool Unit | ()=>bif rI (WA.getD k4 JA) (rE.getD k4 JA)then .cont ()else .ret false
def pJ(WA:List SE)(rE:List SE):Bool:=bif decide ((WA.length:Int)=(rE.length:Int))then fD (FA (BH WA rE) (WA.length-0) 0 ()) (fun r=>r) (fun _=>true)else false
def YG(WA:ZA)(rE:ZA):Bool:=bif WA.Name==rE.Name then bif HH WA.Cols rE.Cols then bif pJ WA.Idxs rE.Idxs then true else false else false else false
def fH(FF:Int):Int×KA→WH KA (Int×KA) | (x15,x16)=>bif decide (0<x15)then .cont (IntKind.wrap .i64 (Int.tdiv x15 10),(lW ([IntKind.wrap .u8 (IntKind.wrap .i64 (48+(Int.tmod x15 10)))]:List Int))++x16)else .brk (x15,x16)
def XB(FF:Int):KA:=bif decide (FF≤0)then([109,48]:KA)else fD (lF (fH FF) ((((FF).toNat+1) / 2)+1) (FF,([]:KA))) (fun r=>r) (fun(x15,x16)=>([109]:KA)++x16)
def AG(WA:List KA)(FF:Int)(k3:Nat):Int×(List KA)→WH (Int×(List KA)) (Int×(List KA)) | (x14,x15)=>.cont (IntKind.wrap .i64 (x14+1),(x15.set k3 (XB x14)))
def QD(WA:List KA)(FF:Int):Int×(List KA):=fD (FA (AG WA FF) (WA.length-0) 0 (FF,WA)) (fun r=>r) (fun(x14,x15)=>(x14,x15))
def LH(WA:List SE)(FF:Int)(k3:Nat):Int×(List SE)→WH (Int×(List SE)) (Int×(List SE)) | (x26,x27)=>.cont (IntKind.wrap .i64 ((IntKind.wrap .i64 ((IntKind.wrap .i64 (x26+1))+1))+1),(x27.set k3 (⟨(XB x26),IntKind.wrap .i64 (x26+1),IntKind.wrap .i64 ((IntKind.wrap .i64 (x26+1))+1)⟩:SE)))
def SF(WA:List SE)(FF:Int):Int×(List SE):=fD (FA (LH WA FF) (WA.length-0) 0 (FF,WA)) (fun r=>r) (fun(x26,x27)=>(x26,x27))
def EE(WA:ZA)(FF:Int):Int×ZA:=((SF WA.Idxs ((QD WA.Cols FF).1)).1,(⟨WA.Name,(QD WA.Cols FF).2,(SF WA.Idxs ((QD WA.Cols FF).1)).2⟩:ZA))
def TG(WA:List iA)(FF:Int)(k3:Nat):Int×(List iA)→WH (Int×(List iA)) (Int×(List iA)) | (x29,x30)=>.cont (IntKind.wrap .i64 ((IntKind.wrap .i64 ((IntKind.wrap .i64 (x29+1))+1))+1),(x30.set k3 (⟨(XB x29),(XB (IntKind.wrap .i64 (x29+1))),decide ((Int.tmod (IntKind.wrap .i64 ((IntKind.wrap .i64 (x29+1))+1)) 3)=0)⟩:iA)))
def eD(WA:List iA)(FF:Int):Int×(List iA):=fD (FA (TG WA FF) (WA.length-0) 0 (FF,WA)) (fun r=>r) (fun(x29,x30)=>(x29,x30))
def rD(WA:List iA)(FF:Int)(k2:Nat):Int→WH Int Int | (x3)=>bif((WA.getD k2 nA).Key)==(XB x3)then bif((WA.getD k2 nA).Val)==(XB (IntKind.wrap .i64 (x3+1)))then bif((WA.getD k2 nA).Gone)==(decide ((Int.tmod (IntKind.wrap .i64 ((IntKind.wrap .i64 (x3+1))+1)) 3)=0))then .cont (IntKind.wrap .i64 ((IntKind.wrap .i64 ((IntKind.wrap .i64 (x3+1))+1))+1))else .ret (-1)else .ret (-1)else .ret (-1)
def tE(WA:List iA)(FF:Int):Int:=fD (FA (rD WA FF) (WA.length-0) 0 (FF)) (fun r=>r) (fun x3=>x3)
def QI(WA:gE)(RB:Int):Int:=bif decide ((IntKind.wrap .i64 (RB-(WA.Last.length:Int)))<0)then -1 else IntKind.wrap .i64 (RB-(WA.Last.length:Int))
def iT(WA:gE):gE:=WA
def dJ(WA:gE)(rE:gE):Bool:=bif WA.Last==rE.Last then bif WA.Over==rE.Over then true else false else false
def xD(HJ:Int)(nU:Int)(LV:Int):Bool:=bif decide (nU≤HJ)then decide (HJ≤LV)else false
def KB(EA:KA)(dB:KA)(k3:Nat)(k6:Nat):Bool→WH Bool Bool | (x7)=>bif x7 then .cont (true)else .cont (decide (((EA.getD k3 0).toNat:Int)=((dB.getD k6 0).toNat:Int)))
def pC(EA:KA)(dB:KA)(k3:Nat):Unit→WH Bool Unit | ()=>bif decide (97≤((EA.getD k3 0).toNat:Int))then bif decide (((EA.getD k3 0).toNat:Int)≤122)then fD (FA (KB EA dB k3) (dB.length-0) 0 (true)) (fun r=>WH.ret r) (fun x7=>bif x7 then .cont ()else .ret false)else bif decide (48≤((EA.getD k3 0).toNat:Int))then fD (FA (KB EA dB k3) (dB.length-0) 0 (decide (((EA.getD k3 0).toNat:Int)≤57))) (fun r=>WH.ret r) (fun x12=>bif x12 then .cont ()else .ret false)else fD (FA (KB EA dB k3) (dB.length-0) 0 (false)) (fun r=>WH.ret r) (fun x15=>bif x15 then .cont ()else .ret false)else bif decide (48≤((EA.getD k3 0).toNat:Int))then fD (FA (KB EA dB k3) (dB.length-0) 0 (decide (((EA.getD k3 0).toNat:Int)≤57))) (fun r=>WH.ret r) (fun x19=>bif x19 then .cont ()else .ret false)else fD (FA (KB EA dB k3) (dB.length-0) 0 (false)) (fun r=>WH.ret r) (fun x22=>bif x22 then .cont ()else .ret false)
def ZF(EA:KA)(dB:KA):Bool:=fD (FA (pC EA dB) (EA.length-0) 0 ()) (fun r=>r) (fun _=>true)
def aF(EA:KA):Bool:=bif xD (EA.length:Int) 1 12 then(ZF EA ([46,47]:KA))else false
def KF(EA:KA):Bool:=bif decide ((EA.length:Int)≤24)then(ZF EA ([46,45,44,95]:KA))else false
def ID(wB:KA)(GD:KA)(XI:Bool):Bool:=bif aF wB then bif KF GD then bif XI then GD==([]:KA)else true else false else false
def pE(mB:List iA)(k3:Nat):Unit→WH Bool Unit | ()=>bif ID ((mB.getD k3 nA).Key) ((mB.getD k3 nA).Val) ((mB.getD k3 nA).Gone)then bif decide (0<(k3:Int))then bif LI ((mB.getD ((IntKind.wrap .i64 ((k3:Int)-1)).toNat) nA).Key) ((mB.getD k3 nA).Key)then .cont ()else .ret false else .cont ()else .ret false
def TF(mB:List iA):Bool:=fD (FA (pE mB) (mB.length-0) 0 ()) (fun r=>r) (fun _=>decide ((mB.length:Int)≤24))
def dH(mB:List iA)(k3:Nat):Unit→WH Bool Unit | ()=>bif(mB.getD k3 nA).Gone then .ret false else .cont ()
def EC(mB:List iA):Bool:=fD (FA (dH mB) (mB.length-0) 0 ()) (fun r=>r) (fun _=>(TF mB))
def kE(EA:KA)(iF:Int)(k2:Nat):Unit→WH Bool Unit | ()=>bif decide (((EA.getD k2 0).toNat:Int)<97)then .ret false else bif decide (122<((EA.getD k2 0).toNat:Int))then .ret false else .cont ()
def JB(EA:KA)(iF:Int):Bool:=fD (FA (kE EA iF) (EA.length-0) 0 ()) (fun r=>r) (fun _=>bif decide (1≤(EA.length:Int))then decide ((EA.length:Int)≤iF)else false)
def bI(mB:List KA)(EA:KA)(k4:Nat):Unit→WH Int Unit | ()=>bif(mB.getD k4 kB)==EA then .ret (k4:Int)else .cont ()
def tK(mB:List KA)(EA:KA):Int:=fD (FA (bI mB EA) (mB.length-0) 0 ()) (fun r=>r) (fun _=>-1)
def pF(mB:List KA)(k3:Nat):Unit→WH Bool Unit | ()=>bif JB (mB.getD k3 kB) 3 then bif decide (0≤(tK (mB.take k3) (mB.getD k3 kB)))then .ret false else .cont ()else .ret false
def KH(mB:List KA):Bool:=fD (FA (pF mB) (mB.length-0) 0 ()) (fun r=>r) (fun _=>(xD (mB.length:Int) 2 4))
def BC(AA:ZA)(k19:Nat):Unit→WH Bool Unit | ()=>bif JB ((AA.Idxs.getD k19 JA).Name) 1 then bif xD ((AA.Idxs.getD k19 JA).Col) 1 (IntKind.wrap .i64 ((AA.Cols.length:Int)-1))then bif xD ((AA.Idxs.getD k19 JA).Stage) 0 3 then bif decide (0<(k19:Int))then bif LI ((AA.Idxs.getD ((IntKind.wrap .i64 ((k19:Int)-1)).toNat) JA).Name) ((AA.Idxs.getD k19 JA).Name)then .cont ()else .ret false else .cont ()else .ret false else .ret false else .ret false
def VB(AA:ZA):Bool:=bif JB AA.Name 1 then bif KH AA.Cols then bif decide (3<(AA.Idxs.length:Int))then false else fD (FA (BC AA) (AA.Idxs.length-0) 0 ()) (fun r=>r) (fun _=>true)else false else false
def DH(HA:ZA)(pn:KA)(k11:Nat):Unit→WH Int Unit | ()=>bif((HA.Idxs.getD k11 JA).Name)==pn then .ret (k11:Int)else .cont ()
def oC(HA:ZA)(pn:KA):Int:=fD (FA (DH HA pn) (HA.Idxs.length-0) 0 ()) (fun r=>r) (fun _=>-1)
def XE(HA:ZA)(pn:KA)(ps:List iA):Bool:=bif VB HA then bif decide (0≤(oC HA pn))then(EC ps)else false else false
def UH(vC:gE):Bool:=bif vC.Last==([]:KA)then true else(aF vC.Last)
def GJ(HJ:Int):Bool:=(xD HJ 1 24)
def sE(YF:AH):Bool:=bif aF YF.Key then bif decide (YF.Kind=2)then bif KF YF.Val then decide (YF.By=0)else false else bif decide (YF.Kind=7)then bif KF YF.Val then decide (YF.By=0)else false else bif decide (YF.Kind=4)then bif YF.Val==([]:KA)then(xD YF.By (-9999) 9999)else false else bif decide (YF.Kind=5)then bif YF.Val==([]:KA)then(xD YF.By (-9999) 9999)else false else bif decide (YF.Kind=1)then bif YF.Val==([]:KA)then decide (YF.By=0)else false else bif decide (YF.Kind=3)then bif YF.Val==([]:KA)then decide (YF.By=0)else false else bif decide (YF.Kind=6)then bif YF.Val==([]:KA)then decide (YF.By=0)else false else false else false
def cH(mB:List AH)(k3:Nat):Unit→WH Bool Unit | ()=>bif sE (mB.getD k3 PB)then .cont ()else .ret false
def KG(mB:List AH):Bool:=fD (FA (cH mB) (mB.length-0) 0 ()) (fun r=>r) (fun _=>decide ((mB.length:Int)≤8))
def HF(mB:List iA)(OB:iA):Int→WH (List iA) Int | (x11)=>bif decide (0<x11)then bif KI ((mB.getD ((IntKind.wrap .i64 (x11-1)).toNat) nA).Key) OB.Key then .brk (x11)else .cont (IntKind.wrap .i64 (x11-1))else .brk (x11)
def RC(mB:List iA)(OB:iA):List iA:=fD (lF (HF mB OB) ((((mB.length:Int)).toNat)+1) ((mB.length:Int))) (fun r=>r) (fun x11=>bif decide (0<x11)then bif((mB.getD ((IntKind.wrap .i64 (x11-1)).toNat) nA).Key)==OB.Key then((([]:List iA)++mB).set ((IntKind.wrap .i64 (x11-1)).toNat) OB)else(((([]:List iA)++(mB.take ((x11).toNat)))++([OB]:List iA))++(([]:List iA)++(mB.drop ((x11).toNat))))else(((([]:List iA)++(mB.take ((x11).toNat)))++([OB]:List iA))++(([]:List iA)++(mB.drop ((x11).toNat)))))
def xF(OE:List iA)(AC:List dE)(wB:KA)(k6:Nat):Unit→WH (KA×Bool×Bool) Unit | ()=>bif((OE.getD k6 nA).Key)==wB then .ret ((OE.getD k6 nA).Val,!((OE.getD k6 nA).Gone),true)else .cont ()
def cG(OE:List iA)(AC:List dE)(wB:KA)(k29:Nat):Unit→WH (KA×Bool×Bool) Unit | ()=>bif((AC.getD k29 HG).Key)==wB then .ret ((AC.getD k29 HG).Val,(AC.getD k29 HG).There,true)else .cont ()
def zB(OE:List iA)(AC:List dE)(wB:KA):KA×Bool×Bool:=fD (FA (xF OE AC wB) (OE.length-0) 0 ()) (fun r=>r) (fun _=>fD (FA (cG OE AC wB) (AC.length-0) 0 ()) (fun r=>r) (fun _=>(([]:KA),false,false)))
def vD(EA:KA)(k8:Nat):Int→WH Int Int | (x9)=>bif decide (((EA.getD k8 0).toNat:Int)<48)then .ret (-1)else bif decide (57<((EA.getD k8 0).toNat:Int))then .ret (-1)else .cont (IntKind.wrap .i64 ((IntKind.wrap .i64 (10*x9))+(IntKind.wrap .i64 (IntKind.wrap .u8 (((EA.getD k8 0).toNat:Int)-48)))))
def PE(EA:KA):Int:=bif xD (EA.length:Int) 1 6 then bif decide (((EA.getD 0 0).toNat:Int)=48)then bif decide (1<(EA.length:Int))then -1 else fD (FA (vD EA) (EA.length-0) 0 (0)) (fun r=>r) (fun x9=>x9)else fD (FA (vD EA) (EA.length-0) 0 (0)) (fun r=>r) (fun x13=>x13)else -1
def NE(EA:KA):Int×Bool:=bif decide (0<(EA.length:Int))then bif decide (((EA.getD 0 0).toNat:Int)=45)then bif decide ((PE (EA.drop 1))<0)then(0,false)else bif decide ((PE (EA.drop 1))=0)then(0,false)else(IntKind.wrap .i64 (0-(PE (EA.drop 1))),true)else bif decide ((PE EA)<0)then(0,false)else((PE EA),true)else bif decide ((PE EA)<0)then(0,false)else((PE EA),true)
def tD(YF:AH)(GD:KA)(RD:Bool):Bool:=bif decide (YF.Kind=4)then bif RD then bif(NE GD).2 then !(xD (IntKind.wrap .i64 (((NE GD).1)+YF.By)) (-999999) 999999)else true else false else bif decide (YF.Kind=5)then bif RD then bif(NE GD).2 then decide (((NE GD).1)<YF.By)else true else true else bif decide (YF.Kind=6)then RD else bif decide (YF.Kind=7)then bif RD then !(GD==YF.Val)else true else false
def VJ(HJ:Int):KA:=lW ([IntKind.wrap .u8 (IntKind.wrap .i64 (48+HJ))]:List Int)
def OF(HJ:Int):KA:=bif decide (HJ<0)then([45]:KA)++(VJ (IntKind.wrap .i64 (0-HJ)))else(VJ HJ)
def iC(AA:List AH)(aC:List dE)(k5:Nat):(List iA)→WH (Int×KA×(List iA)) (List iA) | (x174)=>bif(zB x174 aC ((AA.getD k5 PB).Key)).2.2 then bif tD (AA.getD k5 PB) ((zB x174 aC ((AA.getD k5 PB).Key)).1) ((zB x174 aC ((AA.getD k5 PB).Key)).2.1)then .ret (2,([]:KA),([]:List iA))else bif decide (((AA.getD k5 PB).Kind)=2)then .cont ((RC x174 (⟨(AA.getD k5 PB).Key,(AA.getD k5 PB).Val,false⟩:iA)))else bif decide (((AA.getD k5 PB).Kind)=3)then .cont ((RC x174 (⟨(AA.getD k5 PB).Key,([]:KA),true⟩:iA)))else bif decide (((AA.getD k5 PB).Kind)=4)then bif(zB x174 aC ((AA.getD k5 PB).Key)).2.1 then .cont ((RC x174 (⟨(AA.getD k5 PB).Key,(OF (IntKind.wrap .i64 (((NE ((zB x174 aC ((AA.getD k5 PB).Key)).1)).1)+((AA.getD k5 PB).By)))),false⟩:iA)))else .cont ((RC x174 (⟨(AA.getD k5 PB).Key,(OF (IntKind.wrap .i64 (0+((AA.getD k5 PB).By)))),false⟩:iA)))else .cont (x174)else bif decide (((AA.getD k5 PB).Kind)=2)then bif tD (AA.getD k5 PB) ((zB x174 aC ((AA.getD k5 PB).Key)).1) ((zB x174 aC ((AA.getD k5 PB).Key)).2.1)then .ret (2,([]:KA),([]:List iA))else .cont ((RC x174 (⟨(AA.getD k5 PB).Key,(AA.getD k5 PB).Val,false⟩:iA)))else bif decide (((AA.getD k5 PB).Kind)=3)then bif tD (AA.getD k5 PB) ((zB x174 aC ((AA.getD k5 PB).Key)).1) ((zB x174 aC ((AA.getD k5 PB).Key)).2.1)then .ret (2,([]:KA),([]:List iA))else .cont ((RC x174 (⟨(AA.getD k5 PB).Key,([]:KA),true⟩:iA)))else .ret (1,(AA.getD k5 PB).Key,([]:List iA))
def SC(AA:List AH)(aC:List dE):Int×KA×(List iA):=fD (FA (iC AA aC) (AA.length-0) 0 (([]:List iA))) (fun r=>r) (fun x174=>(3,([]:KA),x174))
def CG(QA:List iA)(wB:KA)(k10:Nat):Unit→WH dE Unit | ()=>bif((QA.getD k10 nA).Key)==wB then .ret (⟨wB,(QA.getD k10 nA).Val,true⟩:dE)else .cont ()
def nF(QA:List iA)(wB:KA):dE:=fD (FA (CG QA wB) (QA.length-0) 0 ()) (fun r=>r) (fun _=>(⟨wB,([]:KA),false⟩:dE))
def CF(QA:List iA)(mB:List AH):(List dE)→WH ((List dE)×(List iA)×Bool) (List dE) | (x38)=>bif decide (((SC mB x38).1)=1)then .cont ((x38++([(nF QA ((SC mB x38).2.1))]:List dE)))else .ret (x38,(SC mB x38).2.2,decide (((SC mB x38).1)=3))
def UB(QA:List iA)(mB:List AH):(List dE)×(List iA)×Bool:=fD (lF (CF QA mB) (((mB.filter fun o=>!(([]:List dE).any fun g=>g.Key==o.Key)).length)+1) (([]:List dE))) (fun r=>r) (fun x38=>(([]:List dE),([]:List iA),false))
def sH(QA:List iA)(OB:List iA)(k26:Nat):(List iA)→WH (List iA) (List iA) | (x65)=>.cont ((RC x65 (OB.getD k26 nA)))
def fG(QA:List iA)(OB:List iA)(x65:List iA)(k88:Nat):(List iA)→WH (List iA) (List iA) | (x145)=>bif(x65.getD k88 nA).Gone then .cont (x145)else .cont ((x145++([(x65.getD k88 nA)]:List iA)))
def TB(QA:List iA)(OB:List iA):List iA:=fD (FA (sH QA OB) (OB.length-0) 0 ((([]:List iA)++QA))) (fun r=>r) (fun x65=>fD (FA (fG QA OB x65) (x65.length-0) 0 (([]:List iA))) (fun r=>r) (fun x145=>x145))
def mE(AA:List iA)(aC:List (List AH))(k10:Nat):Unit→WH ((List iA)×(List Bool)×Bool) Unit | ()=>bif KG (aC.getD k10 oH)then .cont ()else .ret (([]:List iA),([]:List Bool),false)
def bE(AA:List iA)(aC:List (List AH))(k38:Nat):(List iA)×(List Bool)→WH ((List iA)×(List Bool)×Bool) ((List iA)×(List Bool)) | (x119,x124)=>bif(UB x119 (aC.getD k38 oH)).2.2 then bif EC (TB x119 ((UB x119 (aC.getD k38 oH)).2.1))then .cont ((TB x119 ((UB x119 (aC.getD k38 oH)).2.1)),(x124++([(EC (TB x119 ((UB x119 (aC.getD k38 oH)).2.1)))]:List Bool)))else .cont (x119,(x124++([(EC (TB x119 ((UB x119 (aC.getD k38 oH)).2.1)))]:List Bool)))else .cont (x119,(x124++([false]:List Bool)))
def cC(AA:List iA)(aC:List (List AH)):(List iA)×(List Bool)×Bool:=bif EC AA then bif decide (20<(aC.length:Int))then(([]:List iA),([]:List Bool),false)else fD (FA (mE AA aC) (aC.length-0) 0 ()) (fun r=>r) (fun _=>fD (FA (bE AA aC) (aC.length-0) 0 ((([]:List iA)++AA),([]:List Bool))) (fun r=>r) (fun(x119,x124)=>(x119,x124,true)))else(([]:List iA),([]:List Bool),false)
def DD(ps:List iA)(uE:List AH):(List iA)×Bool:=bif decide ((((cC ps ([uE]:List (List AH))).2.1).length:Int)=1)then((cC ps ([uE]:List (List AH))).1,(((cC ps ([uE]:List (List AH))).2.1).getD 0 sP))else((cC ps ([uE]:List (List AH))).1,false)
def yG(JC:List KA)(JI:KA)(k4:Nat):Unit→WH Bool Unit | ()=>bif KI (JC.getD k4 kB) JI then .cont ()else .ret true
def eF(JC:List KA)(JI:KA):Bool:=fD (FA (yG JC JI) (JC.length-0) 0 ()) (fun r=>r) (fun _=>false)
def aH(mB:List KA)(jL:KA)(k4:Nat):KA→WH KA KA | (x12)=>bif decide (0<(k4:Int))then .cont ((x12++jL)++(mB.getD k4 kB))else .cont (x12++(mB.getD k4 kB))
def UI(mB:List KA)(jL:KA):KA:=fD (FA (aH mB jL) (mB.length-0) 0 (([]:KA))) (fun r=>r) (fun x12=>x12)
def vB(HA:ZA)(bD:rC):iA:=(⟨(HA.Name++([47]:KA))++(bD.Vals.getD 0 kB),(UI (bD.Vals.drop 1) ([44]:KA)),false⟩:iA)
def xE(EA:KA):Bool:=bif xD (EA.length:Int) 1 3 then(ZF EA ([]:KA))else false
def bH(HA:ZA)(bD:rC)(k18:Nat):Unit→WH Bool Unit | ()=>bif xE (bD.Vals.getD k18 kB)then .cont ()else .ret false
def TD(HA:ZA)(bD:rC):Bool:=fD (FA (bH HA bD) (bD.Vals.length-0) 0 ()) (fun r=>r) (fun _=>decide ((bD.Vals.length:Int)=(HA.Cols.length:Int)))
def xG(EA:KA)(rE:Int)(k2:Nat):(List KA)×Int→WH (List KA) ((List KA)×Int) | (x20,x24)=>bif decide (((EA.getD k2 0).toNat:Int)=rE)then .cont ((x20++([((EA.take k2).drop ((x24).toNat))]:List KA)),((k2+1:Nat):Int))else .cont (x20,x24)
def lD(EA:KA)(rE:Int):List KA:=fD (FA (xG EA rE) (EA.length-0) 0 (([]:List KA),0)) (fun r=>r) (fun(x20,x24)=>(x20++([(EA.drop ((x24).toNat))]:List KA)))
def HD(HA:ZA)(OB:iA):rC×Bool:=bif decide ((OB.Key.length:Int)<3)then((⟨[]⟩:rC),false)else bif TD HA (⟨(([(OB.Key.drop 2)]:List KA)++(lD OB.Val 44))⟩:rC)then((⟨(([(OB.Key.drop 2)]:List KA)++(lD OB.Val 44))⟩:rC),((((vB HA (⟨(([(OB.Key.drop 2)]:List KA)++(lD OB.Val 44))⟩:rC)).Key)==OB.Key)&&((((vB HA (⟨(([(OB.Key.drop 2)]:List KA)++(lD OB.Val 44))⟩:rC)).Val)==OB.Val)&&(((vB HA (⟨(([(OB.Key.drop 2)]:List KA)++(lD OB.Val 44))⟩:rC)).Gone)==OB.Gone))))else((⟨(([(OB.Key.drop 2)]:List KA)++(lD OB.Val 44))⟩:rC),false)
def bG(HA:ZA)(ps:List iA)(k12:Nat):(List rC)→WH (List rC) (List rC) | (x94)=>bif(HD HA (ps.getD k12 nA)).2 then .cont ((x94++([(HD HA (ps.getD k12 nA)).1]:List rC)))else .cont (x94)
def nB(HA:ZA)(ps:List iA):List rC:=fD (FA (bG HA ps) (ps.length-0) 0 (([]:List rC))) (fun r=>r) (fun x94=>x94)
def kG(HA:ZA)(VD:SE)(bD:rC):KA:=(((((HA.Name++([46]:KA))++VD.Name)++([47]:KA))++(bD.Vals.getD ((VD.Col).toNat) kB))++([47]:KA))++(bD.Vals.getD 0 kB)
def JF(HA:ZA)(VD:SE)(bD:rC):List AH:=([(⟨7,(vB HA bD).Key,(vB HA bD).Val,0⟩:AH),(⟨2,(kG HA VD bD),([]:KA),0⟩:AH)]:List AH)
def UG(HA:ZA)(ps:List iA)(k18:Nat):(List KA)→WH (List KA) (List KA) | (x78)=>.cont ((x78++([(vB HA ((nB HA ps).getD k18 PD)).Key]:List KA)))
def wC(HA:ZA)(ps:List iA):List KA:=fD (FA (UG HA ps) ((nB HA ps).length-0) 0 (([]:List KA))) (fun r=>r) (fun x78=>x78)
def ZE(AA:ZA)(aC:KA)(wD:List iA)(cE:gE)(RE:Int)(k59:Nat):Int×(List iA)×KA→WH ((List iA)×gE) (Int×(List iA)×KA) | (x136,x137,x142)=>bif decide (x136=0)then .cont (x136,x137,x142)else bif KI ((vB AA ((nB AA wD).getD k59 PD)).Key) x142 then .cont (x136,x137,x142)else bif(DD x137 (JF AA (AA.Idxs.getD (((oC AA aC)).toNat) JA) ((nB AA wD).getD k59 PD))).2 then .cont (IntKind.wrap .i64 (x136-1),(DD x137 (JF AA (AA.Idxs.getD (((oC AA aC)).toNat) JA) ((nB AA wD).getD k59 PD))).1,(vB AA ((nB AA wD).getD k59 PD)).Key)else .brk (x136,x137,x142)
def OD(AA:ZA)(aC:KA)(wD:List iA)(cE:gE)(RE:Int):(List iA)×gE:=fD (FA (ZE AA aC wD cE RE) ((nB AA wD).length-0) 0 (RE,(([]:List iA)++wD),cE.Last)) (fun r=>r) (fun(x136,x137,x142)=>bif cE.Over then(x137,(⟨x142,true⟩:gE))else(x137,(⟨x142,!(eF (wC AA x137) x142)⟩:gE)))
def xB(HA:ZA)(pn:KA)(ps:List iA)(vC:gE)(LB:Int):(List iA)×gE×Bool:=bif XE HA pn ps then bif UH vC then bif GJ LB then((OD HA pn ps vC LB).1,(OD HA pn ps vC LB).2,true)else(([]:List iA),(⟨([]:KA),false⟩:gE),false)else(([]:List iA),(⟨([]:KA),false⟩:gE),false)else(([]:List iA),(⟨([]:KA),false⟩:gE),false)
def kD(EA:List iA)(vC:iA→Bool)(k7:Nat):Unit→WH Int Unit | ()=>bif vC (EA.getD k7 nA)then .ret (k7:Int)else .cont ()
def yD(EA:List iA)(vC:iA→Bool):Int:=fD (FA (kD EA vC) (EA.length-0) 0 ()) (fun r=>r) (fun _=>-1)
def ME(EA:List iA)(vC:iA→Bool):Bool:=decide (0≤(yD EA vC))
def QC(HJ:Int)(tL:Int)(gK:Int):Bool:=bif decide (tL≤HJ)then decide (HJ≤gK)else false
def sD(rE:Int):Bool:=bif decide (97≤rE)then bif decide (rE≤122)then true else bif decide (48≤rE)then decide (rE≤57)else false else bif decide (48≤rE)then decide (rE≤57)else false
def AD(EA:KA)(UU:Int):Int:=CV EA UU
def OG(EA:KA)(UU:Int):Int:=(AD EA UU)
def jF(EA:KA)(pG:KA)(k3:Nat):Unit→WH Bool Unit | ()=>bif sD ((EA.getD k3 0).toNat:Int)then .cont ()else bif decide ((OG pG ((EA.getD k3 0).toNat:Int))<0)then .ret false else .cont ()
def lI(EA:KA)(pG:KA):Bool:=fD (FA (jF EA pG) (EA.length-0) 0 ()) (fun r=>r) (fun _=>true)
def RI(EA:KA):Bool:=bif QC (EA.length:Int) 1 12 then(lI EA ([46,47]:KA))else false
def aE(JC:List KA)(k3:Nat):Unit→WH Bool Unit | ()=>bif RI (JC.getD k3 kB)then bif decide (0<(k3:Int))then bif KI (JC.getD k3 kB) (JC.getD ((IntKind.wrap .i64 ((k3:Int)-1)).toNat) kB)then .ret false else .cont ()else .cont ()else .ret false
def jH(JC:List KA):Bool:=fD (FA (aE JC) (JC.length-0) 0 ()) (fun r=>r) (fun _=>true)
def rH(mB:List iA)(k10:Nat):(List KA)→WH (List KA) (List KA) | (x60)=>.cont ((x60++([(mB.getD k10 nA).Key]:List KA)))
def kH(mB:List iA):List KA:=fD (FA (rH mB) (mB.length-0) 0 (([]:List KA))) (fun r=>r) (fun x60=>x60)
def iJ(EA:KA):Bool:=bif decide ((EA.length:Int)≤24)then(lI EA ([46,45,44,95]:KA))else false
def jG(GD:KA)(XI:Bool):Bool:=bif iJ GD then bif XI then !(!(GD==([]:KA)))else !false else false
def xH(OB:iA):Bool:=!(jG OB.Val OB.Gone)
def JG(mB:List iA):Bool:=bif decide ((mB.length:Int)≤24)then bif jH (kH mB)then !(ME mB (fun y0=>xH y0))else false else false
def aK(OB:iA):Bool:=OB.Gone
def OI(QA:List iA):Bool:=bif JG QA then !(ME QA (fun y0=>aK y0))else false
def AE(EA:KA)(iF:Int)(k2:Nat):Unit→WH Bool Unit | ()=>bif decide (((EA.getD k2 0).toNat:Int)<97)then .ret false else bif decide (122<((EA.getD k2 0).toNat:Int))then .ret false else .cont ()
def GC(EA:KA)(iF:Int):Bool:=fD (FA (AE EA iF) (EA.length-0) 0 ()) (fun r=>r) (fun _=>(QC (EA.length:Int) 1 iF))
def JD(EA:List KA)(qO:KA)(k4:Nat):Unit→WH Int Unit | ()=>bif qO==(EA.getD k4 kB)then .ret (k4:Int)else .cont ()
def XF(EA:List KA)(qO:KA):Int:=fD (FA (JD EA qO) (EA.length-0) 0 ()) (fun r=>r) (fun _=>-1)
def rF(EA:List KA)(qO:KA):Bool:=decide (0≤(XF EA qO))
def IF(NM:Int):Bool:=(QC NM 0 3)
def zE(AA:ZA)(k19:Nat):Unit→WH Bool Unit | ()=>bif GC (AA.Cols.getD k19 kB) 3 then bif rF (AA.Cols.take k19) (AA.Cols.getD k19 kB)then .ret false else .cont ()else .ret false
def LC(AA:ZA)(k35:Nat):Unit→WH Bool Unit | ()=>bif GC ((AA.Idxs.getD k35 JA).Name) 1 then bif QC ((AA.Idxs.getD k35 JA).Col) 1 (IntKind.wrap .i64 ((AA.Cols.length:Int)-1))then bif IF ((AA.Idxs.getD k35 JA).Stage)then bif decide (0<(k35:Int))then bif KI ((AA.Idxs.getD k35 JA).Name) ((AA.Idxs.getD ((IntKind.wrap .i64 ((k35:Int)-1)).toNat) JA).Name)then .ret false else .cont ()else .cont ()else .ret false else .ret false else .ret false
def YC(AA:ZA):Bool:=bif GC AA.Name 1 then bif QC (AA.Cols.length:Int) 2 4 then bif decide (3<(AA.Idxs.length:Int))then false else fD (FA (zE AA) (AA.Cols.length-0) 0 ()) (fun r=>r) (fun _=>fD (FA (LC AA) (AA.Idxs.length-0) 0 ()) (fun r=>r) (fun _=>true))else false else false
def zD(EA:List SE)(vC:SE→Bool)(k7:Nat):Unit→WH Int Unit | ()=>bif vC (EA.getD k7 JA)then .ret (k7:Int)else .cont ()
def gF(EA:List SE)(vC:SE→Bool):Int:=fD (FA (zD EA vC) (EA.length-0) 0 ()) (fun r=>r) (fun _=>-1)
def JE(VD:SE)(mJ:KA):Bool:=VD.Name==mJ
def dC(HA:ZA)(pn:KA):Int:=(gF HA.Idxs (fun y0=>JE y0 pn))
def jE(HA:ZA)(pn:KA):Bool:=bif YC HA then decide (0≤(dC HA pn))else false
def iG(HA:ZA)(pn:KA)(ps:List iA):Bool:=bif jE HA pn then(OI ps)else false
def jI(vC:gE):Bool:=bif vC.Last==([]:KA)then true else(RI vC.Last)
def zF(HA:ZA)(pn:KA)(ps:List iA)(vC:gE)(LB:Int):Bool:=bif iG HA pn ps then bif jI vC then(QC LB 1 24)else false else false
def CB(VD:List iA)(NF:KA)(cK:iA→KA→Int):Int×Int→WH (Int×Bool) (Int×Int) | (x9,x10)=>bif decide (x9<x10)then bif decide ((cK (VD.getD ((IntKind.wrap .i64 (Int.fdiv (IntKind.wrap .u64 (IntKind.wrap .i64 (x9+x10))) 2)).toNat) nA) NF)<0)then .cont (IntKind.wrap .i64 ((IntKind.wrap .i64 (Int.fdiv (IntKind.wrap .u64 (IntKind.wrap .i64 (x9+x10))) 2))+1),x10)else .cont (x9,IntKind.wrap .i64 (Int.fdiv (IntKind.wrap .u64 (IntKind.wrap .i64 (x9+x10))) 2))else .brk (x9,x10)
def IB(VD:List iA)(NF:KA)(cK:iA→KA→Int):Int×Bool:=fD (lF (CB VD NF cK) ((((VD.length:Int)-0).toNat)+1) (0,(VD.length:Int))) (fun r=>r) (fun(x9,x10)=>bif decide (x9<(VD.length:Int))then(x9,decide ((cK (VD.getD ((x9).toNat) nA) NF)=0))else(x9,false))
def IE(VD:KA):Bool:=!(VD==VD)
def KC(VD:KA)(tQ:KA):Int:=bif IE VD then bif IE tQ then 0 else -1 else bif IE tQ then 1 else bif LI VD tQ then -1 else bif KI VD tQ then 0 else 1
def SH(OB:iA)(wB:KA):Int:=(KC OB.Key wB)
def WB(mB:List iA)(wB:KA):Int×Bool:=((IB mB wB (fun y0 y1=>SH y0 y1)).1,(IB mB wB (fun y0 y1=>SH y0 y1)).2)
def PI(EA:List iA)(IH:Nat)(VD:iA):List iA:=EA.take IH++VD::EA.drop IH
def SG(EA:List iA)(IH:Int)(VD:iA):List iA:=PI EA IH.toNat VD
def iE(mB:List iA)(OB:iA):List iA:=bif(WB mB OB.Key).2 then(mB.set (((WB mB OB.Key).1).toNat) OB)else(SG mB ((WB mB OB.Key).1) OB)
def wG(wB:KA)(TC:List iA)(AC:List dE)(k12:Nat):Unit→WH (KA×Bool×Bool) Unit | ()=>bif((AC.getD k12 HG).Key)==wB then .ret ((AC.getD k12 HG).Val,(AC.getD k12 HG).There,true)else .cont ()
def MD(wB:KA)(TC:List iA)(AC:List dE):KA×Bool×Bool:=bif(WB TC wB).2 then((TC.getD (((WB TC wB).1).toNat) nA).Val,!((TC.getD (((WB TC wB).1).toNat) nA).Gone),true)else fD (FA (wG wB TC AC) (AC.length-0) 0 ()) (fun r=>r) (fun _=>(([]:KA),false,false))
def QF(EA:KA):Int×Bool:=match Go.Lib.atoiAll EA with
  | .ok n=>bif QC n (-999999) 999999&&(Go.Lib.itoa n==EA)then(n,true)else(0,false)
  | _=>(0,false)
def FD(YF:AH)(GD:KA)(RD:Bool):Bool:=bif decide (YF.Kind=4)then bif RD then bif(QF GD).2 then(QC (IntKind.wrap .i64 (((QF GD).1)+YF.By)) (-999999) 999999)else false else true else bif decide (YF.Kind=5)then bif RD then bif(QF GD).2 then decide (YF.By≤((QF GD).1))else false else false else bif decide (YF.Kind=6)then !RD else bif decide (YF.Kind=7)then bif RD then GD==YF.Val else false else true
def qM(IH:Int):KA:=[(48+IH).toNat.toUInt8]
def NC(AA:List AH)(aC:List dE)(k12:Nat):(List iA)→WH (Int×KA×(List iA)) (List iA) | (x86)=>bif decide (((AA.getD k12 PB).Kind)=2)then .cont ((iE x86 (⟨(AA.getD k12 PB).Key,(AA.getD k12 PB).Val,false⟩:iA)))else bif decide (((AA.getD k12 PB).Kind)=3)then .cont ((iE x86 (⟨(AA.getD k12 PB).Key,([]:KA),true⟩:iA)))else bif(MD ((AA.getD k12 PB).Key) x86 aC).2.2 then bif FD (AA.getD k12 PB) ((MD ((AA.getD k12 PB).Key) x86 aC).1) ((MD ((AA.getD k12 PB).Key) x86 aC).2.1)then .cont (x86)else .ret (2,([]:KA),([]:List iA))else .ret (1,(AA.getD k12 PB).Key,([]:List iA))
def IC(AA:List AH)(aC:List dE):Int×KA×(List iA):=fD (FA (NC AA aC) (AA.length-0) 0 (([]:List iA))) (fun r=>r) (fun x86=>(3,([]:KA),x86))
def gG(QA:List iA)(wB:KA):dE:=bif(WB QA wB).2 then(⟨wB,(QA.getD (((WB QA wB).1).toNat) nA).Val,true⟩:dE)else(⟨wB,([]:KA),false⟩:dE)
def aG(QA:List iA)(mB:List AH):(List dE)→WH ((List dE)×(List iA)×Bool) (List dE) | (x45)=>bif decide (((IC mB x45).1)=1)then .cont ((x45++([(gG QA ((IC mB x45).2.1))]:List dE)))else .ret (x45,(IC mB x45).2.2,decide (((IC mB x45).1)=3))
def wE(QA:List iA)(mB:List AH):(List dE)×(List iA)×Bool:=fD (lF (aG QA mB) (((mB.filter fun o=>!((([]:List dE):List dE).any fun g=>g.Key==o.Key)).length)+1) (([]:List dE))) (fun r=>r) (fun x45=>(([]:List dE),([]:List iA),false))
def SA(EA:List iA):List iA:=(([]:List iA)++EA)
def MC(EA:List iA)(vC:iA→Bool):List iA:=EA.filter fun y=>!vC y
def EH(VD:iA):Bool:=VD.Gone
def eI(QA:List iA)(OB:List iA)(k12:Nat):(List iA)→WH ((List iA)×Bool) (List iA) | (x48)=>.cont ((iE x48 (OB.getD k12 nA)))
def nG(QA:List iA)(OB:List iA):(List iA)×Bool:=fD (FA (eI QA OB) (OB.length-0) 0 ((SA QA))) (fun r=>r) (fun x48=>bif decide (24<((MC x48 (fun y0=>EH y0)).length:Int))then(([]:List iA),false)else((MC x48 (fun y0=>EH y0)),true))
def tF(ps:List iA)(uE:List AH):(List iA)×Bool:=bif(wE ps uE).2.2 then bif(nG ps ((wE ps uE).2.1)).2 then((nG ps ((wE ps uE).2.1)).1,true)else((([]:List iA)++ps),false)else((([]:List iA)++ps),false)
def uD(EA:List nE)(vC:nE→Bool)(k8:Nat):Unit→WH Int Unit | ()=>bif vC (EA.getD k8 wH)then .ret (k8:Int)else .cont ()
def YD(EA:List nE)(vC:nE→Bool):Int:=fD (FA (uD EA vC) (EA.length-0) 0 ()) (fun r=>r) (fun _=>-1)
def BA(EA:List nE)(vC:nE→Bool):List nE:=EA.filter fun y=>!vC y
def TA(EA:List nE):List nE:=(([]:List nE)++EA)
def mC(FF:nE)(mJ:gE):Bool:=KI FF.key mJ.Last
def lG(tC:List nE)(ps:List iA)(vC:gE)(LB:Int):(List iA)×Int×KA→WH ((List iA)×gE) ((List iA)×Int×KA) | (x61,x64,x65)=>bif decide (x64<(min LB ((BA (TA tC) (fun y0=>mC y0 vC)).length:Int)))then bif(tF x61 (((BA (TA tC) (fun y0=>mC y0 vC)).getD ((x64).toNat) wH).ops)).2 then .cont ((tF x61 (((BA (TA tC) (fun y0=>mC y0 vC)).getD ((x64).toNat) wH).ops)).1,IntKind.wrap .i64 (x64+1),((BA (TA tC) (fun y0=>mC y0 vC)).getD ((x64).toNat) wH).key)else .brk (x61,x64,x65)else .brk (x61,x64,x65)
def ZC(tC:List nE)(ps:List iA)(vC:gE)(LB:Int):(List iA)×gE:=fD (lF (lG tC ps vC LB) (((((BA (TA tC) (fun y0=>mC y0 vC)).length:Int)-0).toNat)+1) (ps,0,vC.Last)) (fun r=>r) (fun(x61,x64,x65)=>bif vC.Over then((SA x61),(⟨x65,true⟩:gE))else((SA x61),(⟨x65,decide (x64=((BA (TA tC) (fun y0=>mC y0 vC)).length:Int))⟩:gE)))
def UD(ZI:List KA)(TH:KA):KA:=TH.intercalate ZI
def OA(HA:ZA)(bD:rC):iA:=(⟨(HA.Name++([47]:KA))++(bD.Vals.getD 0 kB),(UD (bD.Vals.drop 1) ([44]:KA)),false⟩:iA)
def dD(EA:List KA)(vC:KA→Bool)(k7:Nat):Unit→WH Int Unit | ()=>bif vC (EA.getD k7 kB)then .ret (k7:Int)else .cont ()
def dF(EA:List KA)(vC:KA→Bool):Int:=fD (FA (dD EA vC) (EA.length-0) 0 ()) (fun r=>r) (fun _=>-1)
def kF(EA:List KA)(vC:KA→Bool):Bool:=decide (0≤(dF EA vC))
def SI(EA:KA):Bool:=bif QC (EA.length:Int) 1 3 then(lI EA ([]:KA))else false
def JH(EA:KA):Bool:=!(SI EA)
def qD(HA:ZA)(bD:rC):Bool:=bif decide ((bD.Vals.length:Int)=(HA.Cols.length:Int))then !(kF bD.Vals (fun y0=>JH y0))else false
def xC(EA:KA)(TH:KA):List KA:=sp (TH.headD 0) EA
def kC(EA:KA)(jD:KA):Bool:=bif decide ((jD.length:Int)≤(EA.length:Int))then(EA.take jD.length)==jD else false
def uC(EA:KA)(jD:KA):KA×Bool:=bif kC EA jD then((EA.drop jD.length),true)else(EA,false)
def iB(EA:KA)(jD:KA):KA×Bool:=((uC EA jD).1,(uC EA jD).2)
def rB(HA:ZA)(OB:iA):rC×Bool:=bif(iB OB.Key (HA.Name++([47]:KA))).2 then bif qD HA (⟨(([(iB OB.Key (HA.Name++([47]:KA))).1]:List KA)++(xC OB.Val ([44]:KA)))⟩:rC)then bif(OB.Key==((OA HA (⟨(([(iB OB.Key (HA.Name++([47]:KA))).1]:List KA)++(xC OB.Val ([44]:KA)))⟩:rC)).Key))&&((OB.Val==((OA HA (⟨(([(iB OB.Key (HA.Name++([47]:KA))).1]:List KA)++(xC OB.Val ([44]:KA)))⟩:rC)).Val))&&(OB.Gone==((OA HA (⟨(([(iB OB.Key (HA.Name++([47]:KA))).1]:List KA)++(xC OB.Val ([44]:KA)))⟩:rC)).Gone)))then((⟨(([(iB OB.Key (HA.Name++([47]:KA))).1]:List KA)++(xC OB.Val ([44]:KA)))⟩:rC),true)else((⟨[]⟩:rC),false)else((⟨[]⟩:rC),false)else((⟨[]⟩:rC),false)
def oE(HA:ZA)(ps:List iA)(k19:Nat):(List rC)→WH (List rC) (List rC) | (x101)=>bif(rB HA (ps.getD k19 nA)).2 then .cont ((x101++([(rB HA (ps.getD k19 nA)).1]:List rC)))else .cont (x101)
def eB(HA:ZA)(ps:List iA):List rC:=fD (FA (oE HA ps) (ps.length-0) 0 (([]:List rC))) (fun r=>r) (fun x101=>x101)
def cD(HA:ZA)(pn:KA):KA:=((HA.Name++([46]:KA))++pn)++([47]:KA)
def QB(HA:ZA)(pn:KA):SE:=(HA.Idxs.getD (((dC HA pn)).toNat) JA)
def iD(HA:ZA)(pn:KA)(bD:rC):KA:=(((cD HA pn)++(bD.Vals.getD (((QB HA pn).Col).toNat) kB))++([47]:KA))++(bD.Vals.getD 0 kB)
def FB(HA:ZA)(pn:KA)(bD:rC):List AH:=([(⟨7,(OA HA bD).Key,(OA HA bD).Val,0⟩:AH),(⟨2,(iD HA pn bD),([]:KA),0⟩:AH)]:List AH)
def nH(HA:ZA)(pn:KA)(ps:List iA)(k26:Nat):(List nE)→WH (List nE) (List nE) | (x80)=>.cont ((x80++([(⟨(OA HA ((eB HA ps).getD k26 PD)).Key,(FB HA pn ((eB HA ps).getD k26 PD))⟩:nE)]:List nE)))
def cB(HA:ZA)(pn:KA)(ps:List iA):List nE:=fD (FA (nH HA pn ps) ((eB HA ps).length-0) 0 (([]:List nE))) (fun r=>r) (fun x80=>x80)
def RA(HA:ZA)(pn:KA)(ps:List iA)(vC:gE)(LB:Int):(List iA)×gE×Bool:=bif zF HA pn ps vC LB then((ZC (cB HA pn ps) ps vC LB).1,(ZC (cB HA pn ps) ps vC LB).2,true)else(([]:List iA),(⟨([]:KA),false⟩:gE),false)
def EB(AA:ZA)(aC:KA)(wD:List iA)(cE:gE)(RE:Int):Bool:=bif decide (1048576<(aC.length:Int))then true else bif decide ((CE AA 1048576)<0)then true else bif decide ((AF wD (CE AA 1048576))<0)then true else bif decide ((QI cE (AF wD (CE AA 1048576)))<0)then true else bif yH ((RA AA aC wD cE RE).1) ((xB AA aC wD cE RE).1)then bif dJ ((RA AA aC wD cE RE).2.1) ((xB AA aC wD cE RE).2.1)then bif((RA AA aC wD cE RE).2.2)==((xB AA aC wD cE RE).2.2)then bif YG AA AA then bif yH wD wD then bif decide (((eD wD ((EE AA 1).1)).1)<0)then false else bif decide ((tE ((eD ((RA AA aC wD cE RE).1) 1).2) 1)<0)then false else bif decide ((tE ((eD ((RA AA aC wD cE RE).1) 1).2) 1)=((eD ((RA AA aC wD cE RE).1) 1).1))then true else false else false else false else false else false else false
abbrev HT:=(Option Addr×Nat)×nE
def GR(p:HT):List Value:=[.string (bs p.2.key),.slice p.1.1 p.2.ops.length p.1.2]
def vI:HT:=((none,0),wH)
theorem FI:Gd (RF GR):=uI fun _=>rfl
/-- what an element names lies below K -/
def EM(w:World)(K:Nat)(p:HT):Prop:=PC w (Iv 0 K) (RF TK) 4 p.1.1 p.2.ops.length p.1.2 p.2.ops
theorem xY{w:World}{K:Nat}:∀{cells:List Value}{xs:List nE},WD (NJ w (Iv 0 K)) 2 cells xs→∃ps:List HT,ps.map (·.2)=xs∧WD (RF GR w (Iv 0 K)) 2 cells ps∧∀p∈ps,EM w K p
  | _,_,.nil=>⟨[],rfl,.nil,fun _ h=>by cases h⟩
  | _,_,.cons (x:=x) hl h hs=>by
    obtain⟨ps,h1,h2,h3⟩:=xY hs
    obtain⟨A,c,rfl,hr⟩:=h
    refine⟨((A,c),x)::ps,by rw[List.map_cons,h1],.cons hl rfl h2,fun p hp=>?_⟩
    rcases List.mem_cons.1 hp with rfl | hp
    · exact hr
    · exact h3 p hp
theorem yY{w:World}{K:Nat}{S S':Nat→Prop}(hS:∀b,Iv 0 K b→S b):∀{cells:List Value}{ps:List HT},WD (RF GR w S') 2 cells ps→(∀p∈ps,EM w K p)→WD (NJ w S) 2 cells (ps.map (·.2))
  | _,_,.nil,_=>.nil
  | _,_,.cons (x:=x) hl h hs,hp=>.cons hl ⟨x.1.1,x.1.2,h,HE oF (hp x (List.mem_cons_self ..)) fun b hb _=>hS b hb⟩ (yY hS hs fun p h=>hp p (List.mem_cons_of_mem _ h))
theorem oZ{w:World}{K n c:Nat}{A:Option Addr}{xs:List nE}(h:PC w (Iv 0 K) NJ 2 A n c xs):∃ps:List HT,ps.map (·.2)=xs∧PC w (Iv 0 K) (RF GR) 2 A n c ps∧∀p∈ps,EM w K p:=by
  obtain⟨h1,h2,h3,cells,he,hc⟩:=h
  obtain⟨ps,rfl,h5,h6⟩:=xY he
  refine⟨ps,rfl,⟨by rw[h1,List.length_map],h2,h3,cells,h5,?_⟩,h6⟩
  rcases hc with h | h
  · exact .inl (List.map_eq_nil_iff.1 h)
  · exact .inr h
theorem kX{w:World}{K lo hi n c:Nat}{A:Option Addr}{ps:List HT}(h:sB w lo hi 135 2 (RF GR) A n c ps)(hs:∀p∈ps,EM w K p):PC w (fun q=>Iv 0 K q∨Iv lo hi q) NJ 2 A n c (ps.map (·.2)):=by
  obtain⟨h1,h2,h3,cells,he,hc⟩:=AI FI h
  refine⟨by rw[h1,List.length_map],h2,h3,cells,yY (fun b hb=>.inl hb) he hs,?_⟩
  rcases hc with h | ⟨b,off,hA,hS,hb,hc⟩
  · exact .inl (by rw[h];rfl)
  · exact .inr ⟨b,off,hA,.inr hS,hb,hc⟩
def iZ(K:Nat)(w:World)(lo hi:Nat)(A:Option Addr)(n c:Nat)(xs:List nE):Prop:=∃ps:List HT,ps.map (·.2)=xs∧sB w lo hi 135 2 (RF GR) A n c ps∧(∀p∈ps,EM w K p)∧K≤lo
theorem EM.ex{w w':World}{K:Nat}{p:HT}(h:EM w K p)(e:Ex w w'):EM w' K p:=vA oF h e
theorem EM.mut{w w':World}{K lo hi:Nat}{p:HT}(h:EM w K p)(e:VG [(lo,hi)] w w')(hk:K≤lo):EM w' K p:=PC.mut oF h e fun k hk=>by simp only[kK,or_false,Iv]at hk ⊢;omega

def BE(AA:KA)(aC:KA):Int:=bif aC==AA then 0 else(AD AA ((aC.getD 0 0).toNat:Int))
def IG(EA:KA)(TH:KA):KA×KA×Bool:=bif decide (0≤(BE EA TH))then((EA.take (((BE EA TH)).toNat)),(EA.drop ((IntKind.wrap .i64 ((BE EA TH)+(TH.length:Int))).toNat)),true)else(EA,([]:KA),false)
def iI(EA:KA)(TH:KA):KA×KA×Bool:=((IG EA TH).1,(IG EA TH).2.1,(IG EA TH).2.2)
def RH(HA:ZA)(pn:KA)(wB:KA):KA×KA×Bool:=bif(iB wB (cD HA pn)).2 then bif(iI ((iB wB (cD HA pn)).1) ([47]:KA)).2.2 then bif SI ((iI ((iB wB (cD HA pn)).1) ([47]:KA)).1)then bif SI ((iI ((iB wB (cD HA pn)).1) ([47]:KA)).2.1)then((iI ((iB wB (cD HA pn)).1) ([47]:KA)).1,(iI ((iB wB (cD HA pn)).1) ([47]:KA)).2.1,true)else(([]:KA),([]:KA),false)else(([]:KA),([]:KA),false)else(([]:KA),([]:KA),false)else(([]:KA),([]:KA),false)
def wL(HA:ZA)(bD:rC):Bool:=bif VB HA then(TD HA bD)else false
def XG(HA:ZA)(bD:rC):Bool:=bif YC HA then(qD HA bD)else false
def sJ(HA:ZA)(pn:KA):SE×Bool:=bif VB HA then bif decide ((oC HA pn)<0)then((⟨([]:KA),0,0⟩:SE),false)else((HA.Idxs.getD (((oC HA pn)).toNat) JA),true)else((⟨([]:KA),0,0⟩:SE),false)
def UK(WA:List KA)(FF:Int)(k2:Nat):Int→WH Int Int | (x3)=>bif(WA.getD k2 kB)==(XB x3)then .cont (IntKind.wrap .i64 (x3+1))else .ret (-1)
def TI(WA:List KA)(FF:Int):Int:=fD (FA (UK WA FF) (WA.length-0) 0 (FF)) (fun r=>r) (fun x3=>x3)
def XL(WA:List SE)(FF:Int)(k2:Nat):Int→WH Int Int | (x3)=>bif((WA.getD k2 JA).Name)==(XB x3)then bif decide (((WA.getD k2 JA).Col)=(IntKind.wrap .i64 (x3+1)))then bif decide (((WA.getD k2 JA).Stage)=(IntKind.wrap .i64 ((IntKind.wrap .i64 (x3+1))+1)))then .cont (IntKind.wrap .i64 ((IntKind.wrap .i64 ((IntKind.wrap .i64 (x3+1))+1))+1))else .ret (-1)else .ret (-1)else .ret (-1)
def IK(WA:List SE)(FF:Int):Int:=fD (FA (XL WA FF) (WA.length-0) 0 (FF)) (fun r=>r) (fun x3=>x3)
def uM(WA:ZA)(FF:Int):Int:=bif decide ((TI WA.Cols FF)<0)then -1 else bif decide ((IK WA.Idxs (TI WA.Cols FF))<0)then -1 else(IK WA.Idxs (TI WA.Cols FF))
def cS(x y:KA):Int:=bif LI x y then -1 else bif KI x y then 0 else 1
def mN(HA:ZA)(bD:rC):iA×Bool:=bif XG HA bD then((OA HA bD),true)else((⟨([]:KA),([]:KA),false⟩:iA),false)
def IN(HA:ZA)(pn:KA)(wB:KA):KA×KA×Bool:=bif jE HA pn then((RH HA pn wB).1,(RH HA pn wB).2.1,(RH HA pn wB).2.2)else(([]:KA),([]:KA),false)
def qL(HA:ZA)(OB:iA):rC×Bool:=bif YC HA then((rB HA OB).1,(rB HA OB).2)else((⟨[]⟩:rC),false)
end Go.Proofs.YtoimdjojffkefaaGreatDoor
