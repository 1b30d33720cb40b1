/- Do Stmts: the plain forms of the values, and plain models of the functions. -/
import Derived.Test.YtoimdjojffkefaaGreatDoorE31
set_option linter.unusedVariables false
set_option linter.unusedSimpArgs false
namespace Go.Proofs.YtoimdjojffkefaaGreatDoor
open Go.RowKit Go.X
structure yF where
  Name:vA
  Col:Int
  Stage:Int
def MA:yF:=⟨[],0,0⟩
def vS(x:yF):Prop:=cQ x.Name∧SX x.Col∧SX x.Stage
def xL(x:yF):Prop:=PE x.Name
theorem WH:xL MA:=gC
def XE(x:yF):List Value:=[.string (bs x.Name),.int .i64 x.Col,.int .i64 x.Stage]
theorem gI:Gd (RF XE):=cK fun _=>rfl
structure VA where
  Name:vA
  Cols:List vA
  Idxs:List yF
def Gc:VA:=⟨[],[],[]⟩
def FO(x:VA):Prop:=cQ x.Name∧(RU cQ) x.Cols∧(RU vS) x.Idxs
def YD(x:VA):Prop:=PE x.Name∧(gG PE) x.Cols∧(gG xL) x.Idxs
theorem Ke:YD Gc:=⟨gC,fB _,fB _⟩
def QT:HM VA:=fun w S cs x=>∃A1 c1 A2 c2,cs=[.string (bs x.Name),.slice A1 x.Cols.length c1,.slice A2 x.Idxs.length c2]∧oD w S (RF PB) 1 A1 x.Cols.length c1 x.Cols∧oD w S (RF XE) 3 A2 x.Idxs.length c2 x.Idxs
def XU:WN VA:=fun w l h cs x=>∃A1 c1 lo1 hi1 A2 c2 lo2 hi2,cs=[.string (bs x.Name),.slice A1 x.Cols.length c1,.slice A2 x.Idxs.length c2]∧KB w lo1 hi1 9 1 (RF PB) A1 x.Cols.length c1 x.Cols∧KB w lo2 hi2 111 3 (RF XE) A2 x.Idxs.length c2 x.Idxs∧(l≤lo1∧lo1≤hi1∧hi1≤h)∧(l≤lo2∧lo2≤hi2∧hi2≤h)∧(hi1≤lo2∨hi2≤lo1)
theorem Ee:Gd QT:=⟨fun⟨A1,c1,A2,c2,he,h0,h1⟩ hk=>⟨A1,c1,A2,c2,he,RJ gS h0 hk,RJ gI h1 hk⟩,fun⟨A1,c1,A2,c2,he,h0,h1⟩ hw=>⟨A1,c1,A2,c2,he,pF gS h0 hw,pF gI h1 hw⟩,fun⟨A1,c1,A2,c2,he,h0,h1⟩=>by rw[he];rfl⟩
theorem Nd:rR XU QT:=⟨fun⟨A1,c1,lo1,hi1,A2,c2,lo2,hi2,he,h1,h2,r0,r1,r2⟩ hk=>⟨A1,c1,lo1,hi1,A2,c2,lo2,hi2,he,LJ gS h1 (fun b b1 b2 b3=>hk b oM oM b3),LJ gI h2 (fun b b1 b2 b3=>hk b oM oM b3),r0,r1,r2⟩,fun⟨A1,c1,lo1,hi1,A2,c2,lo2,hi2,he,h1,h2,r0,r1,r2⟩=>by rw[he];rfl,fun⟨A1,c1,lo1,hi1,A2,c2,lo2,hi2,he,h1,h2,r0,r1,r2⟩=>⟨A1,c1,A2,c2,he,pF gS (VI gS h1) (fun b hb _=>⟨by have:=hb.1;omega,by have:=hb.2;omega⟩),pF gI (VI gI h2) (fun b hb _=>⟨by have:=hb.1;omega,by have:=hb.2;omega⟩)⟩⟩
theorem Xe{w:World}{l h:Nat}{z0:vA}{lo1 hi1 n1 c1:Nat}{A1:Option Addr}{y1:List vA}{lo2 hi2 n2 c2:Nat}{A2:Option Addr}{y2:List yF}(h1:KB w lo1 hi1 9 1 (RF PB) A1 n1 c1 y1)(h2:KB w lo2 hi2 111 3 (RF XE) A2 n2 c2 y2)(r0:(l≤lo1∧lo1≤hi1∧hi1≤h))(r1:(l≤lo2∧lo2≤hi2∧hi2≤h))(r2:(hi1≤lo2∨hi2≤lo1)):XU w l h [.string (bs z0),.slice A1 n1 c1,.slice A2 n2 c2] ⟨z0,y1,y2⟩:=by
  obtain rfl:=h1.1;obtain rfl:=h2.1
  exact⟨A1,c1,lo1,hi1,A2,c2,lo2,hi2,rfl,h1,h2,r0,r1,r2⟩
structure pA where
  Key:vA
  Val:vA
  Gone:Bool
def zA:pA:=⟨[],[],false⟩
def uN(x:pA):Prop:=cQ x.Key∧cQ x.Val
def nC(x:pA):Prop:=PE x.Key∧PE x.Val
theorem VE:nC zA:=⟨gC,gC⟩
def zB(x:pA):List Value:=[.string (bs x.Key),.string (bs x.Val),.bool x.Gone]
theorem gW:Gd (RF zB):=cK fun _=>rfl
structure qE where
  Kind:Int
  Key:vA
  Val:vA
  By:Int
def EC:qE:=⟨0,[],[],0⟩
def Pf(x:qE):Prop:=SX x.Kind∧cQ x.Key∧cQ x.Val∧SX x.By
def aL(x:qE):Prop:=PE x.Key∧PE x.Val
theorem uI:aL EC:=⟨gC,gC⟩
def BI(x:qE):List Value:=[.int .i64 x.Kind,.string (bs x.Key),.string (bs x.Val),.int .i64 x.By]
theorem aC:Gd (RF BI):=cK fun _=>rfl
structure ZE where
  Key:vA
  Val:vA
  There:Bool
def EH:ZE:=⟨[],[],false⟩
def Zf(x:ZE):Prop:=cQ x.Key∧cQ x.Val
def CM(x:ZE):Prop:=PE x.Key∧PE x.Val
theorem qW:CM EH:=⟨gC,gC⟩
def RM(x:ZE):List Value:=[.string (bs x.Key),.string (bs x.Val),.bool x.There]
theorem IG:Gd (RF RM):=cK fun _=>rfl
structure nB where
  Vals:List vA
def XC:nB:=⟨[]⟩
def Pb(x:nB):Prop:=(RU cQ) x.Vals
def rF(x:nB):Prop:=(gG PE) x.Vals
theorem KK:rF XC:=fB _
def EK:HM nB:=fun w S cs x=>∃A1 c1,cs=[.slice A1 x.Vals.length c1]∧oD w S (RF PB) 1 A1 x.Vals.length c1 x.Vals
def FJ:WN nB:=fun w l h cs x=>∃A1 c1 lo1 hi1,cs=[.slice A1 x.Vals.length c1]∧KB w lo1 hi1 9 1 (RF PB) A1 x.Vals.length c1 x.Vals∧(l≤lo1∧lo1≤hi1∧hi1≤h)
theorem KC:Gd EK:=⟨fun⟨A1,c1,he,h0⟩ hk=>⟨A1,c1,he,RJ gS h0 hk⟩,fun⟨A1,c1,he,h0⟩ hw=>⟨A1,c1,he,pF gS h0 hw⟩,fun⟨A1,c1,he,h0⟩=>by rw[he];rfl⟩
theorem cD:rR FJ EK:=⟨fun⟨A1,c1,lo1,hi1,he,h1,r0⟩ hk=>⟨A1,c1,lo1,hi1,he,LJ gS h1 (fun b b1 b2 b3=>hk b oM oM b3),r0⟩,fun⟨A1,c1,lo1,hi1,he,h1,r0⟩=>by rw[he];rfl,fun⟨A1,c1,lo1,hi1,he,h1,r0⟩=>⟨A1,c1,he,pF gS (VI gS h1) (fun b hb _=>⟨by have:=hb.1;omega,by have:=hb.2;omega⟩)⟩⟩
theorem jR{w:World}{l h:Nat}{lo1 hi1 n1 c1:Nat}{A1:Option Addr}{y1:List vA}(h1:KB w lo1 hi1 9 1 (RF PB) A1 n1 c1 y1)(r0:(l≤lo1∧lo1≤hi1∧hi1≤h)):FJ w l h [.slice A1 n1 c1] ⟨y1⟩:=by
  obtain rfl:=h1.1
  exact⟨A1,c1,lo1,hi1,rfl,h1,r0⟩
structure MB where
  Kind:Int
  Old:nB
  New:nB
def JV:MB:=⟨0,XC,XC⟩
def CZ(x:MB):Prop:=SX x.Kind∧Pb x.Old∧Pb x.New
def eK(x:MB):Prop:=rF x.Old∧rF x.New
theorem sW:eK JV:=⟨KK,KK⟩
def YU:HM MB:=fun w S cs x=>∃A1 c1 A2 c2,cs=[.int .i64 x.Kind,.slice A1 x.Old.Vals.length c1,.slice A2 x.New.Vals.length c2]∧oD w S (RF PB) 1 A1 x.Old.Vals.length c1 x.Old.Vals∧oD w S (RF PB) 1 A2 x.New.Vals.length c2 x.New.Vals
def WS:WN MB:=fun w l h cs x=>∃A1 c1 lo1 hi1 A2 c2 lo2 hi2,cs=[.int .i64 x.Kind,.slice A1 x.Old.Vals.length c1,.slice A2 x.New.Vals.length c2]∧KB w lo1 hi1 9 1 (RF PB) A1 x.Old.Vals.length c1 x.Old.Vals∧KB w lo2 hi2 9 1 (RF PB) A2 x.New.Vals.length c2 x.New.Vals∧(l≤lo1∧lo1≤hi1∧hi1≤h)∧(l≤lo2∧lo2≤hi2∧hi2≤h)∧(hi1≤lo2∨hi2≤lo1)
theorem Od:Gd YU:=⟨fun⟨A1,c1,A2,c2,he,h0,h1⟩ hk=>⟨A1,c1,A2,c2,he,RJ gS h0 hk,RJ gS h1 hk⟩,fun⟨A1,c1,A2,c2,he,h0,h1⟩ hw=>⟨A1,c1,A2,c2,he,pF gS h0 hw,pF gS h1 hw⟩,fun⟨A1,c1,A2,c2,he,h0,h1⟩=>by rw[he];rfl⟩
theorem Jc:rR WS YU:=⟨fun⟨A1,c1,lo1,hi1,A2,c2,lo2,hi2,he,h1,h2,r0,r1,r2⟩ hk=>⟨A1,c1,lo1,hi1,A2,c2,lo2,hi2,he,LJ gS h1 (fun b b1 b2 b3=>hk b oM oM b3),LJ gS h2 (fun b b1 b2 b3=>hk b oM oM b3),r0,r1,r2⟩,fun⟨A1,c1,lo1,hi1,A2,c2,lo2,hi2,he,h1,h2,r0,r1,r2⟩=>by rw[he];rfl,fun⟨A1,c1,lo1,hi1,A2,c2,lo2,hi2,he,h1,h2,r0,r1,r2⟩=>⟨A1,c1,A2,c2,he,pF gS (VI gS h1) (fun b hb _=>⟨by have:=hb.1;omega,by have:=hb.2;omega⟩),pF gS (VI gS h2) (fun b hb _=>⟨by have:=hb.1;omega,by have:=hb.2;omega⟩)⟩⟩
theorem Ie{w:World}{l h:Nat}{z0:Int}{lo1 hi1 n1 c1:Nat}{A1:Option Addr}{y1:List vA}{lo2 hi2 n2 c2:Nat}{A2:Option Addr}{y2:List vA}(h1:KB w lo1 hi1 9 1 (RF PB) A1 n1 c1 y1)(h2:KB w lo2 hi2 9 1 (RF PB) A2 n2 c2 y2)(r0:(l≤lo1∧lo1≤hi1∧hi1≤h))(r1:(l≤lo2∧lo2≤hi2∧hi2≤h))(r2:(hi1≤lo2∨hi2≤lo1)):WS w l h [.int .i64 z0,.slice A1 n1 c1,.slice A2 n2 c2] ⟨z0,⟨y1⟩,⟨y2⟩⟩:=by
  obtain rfl:=h1.1;obtain rfl:=h2.1
  exact⟨A1,c1,lo1,hi1,A2,c2,lo2,hi2,rfl,h1,h2,r0,r1,r2⟩
structure iD where
  Kind:Int
  Act:MB
  Idx:vA
  Low:vA
  High:vA
def Yd:iD:=⟨0,JV,[],[],[]⟩
def Sf(x:iD):Prop:=SX x.Kind∧CZ x.Act∧cQ x.Idx∧cQ x.Low∧cQ x.High
def AL(x:iD):Prop:=eK x.Act∧PE x.Idx∧PE x.Low∧PE x.High
theorem Af:AL Yd:=⟨sW,gC,gC,gC⟩
def KZ:HM iD:=fun w S cs x=>∃A1 c1 A2 c2,cs=[.int .i64 x.Kind,.int .i64 x.Act.Kind,.slice A1 x.Act.Old.Vals.length c1,.slice A2 x.Act.New.Vals.length c2,.string (bs x.Idx),.string (bs x.Low),.string (bs x.High)]∧oD w S (RF PB) 1 A1 x.Act.Old.Vals.length c1 x.Act.Old.Vals∧oD w S (RF PB) 1 A2 x.Act.New.Vals.length c2 x.Act.New.Vals
def bY:WN iD:=fun w l h cs x=>∃A1 c1 lo1 hi1 A2 c2 lo2 hi2,cs=[.int .i64 x.Kind,.int .i64 x.Act.Kind,.slice A1 x.Act.Old.Vals.length c1,.slice A2 x.Act.New.Vals.length c2,.string (bs x.Idx),.string (bs x.Low),.string (bs x.High)]∧KB w lo1 hi1 9 1 (RF PB) A1 x.Act.Old.Vals.length c1 x.Act.Old.Vals∧KB w lo2 hi2 9 1 (RF PB) A2 x.Act.New.Vals.length c2 x.Act.New.Vals∧(l≤lo1∧lo1≤hi1∧hi1≤h)∧(l≤lo2∧lo2≤hi2∧hi2≤h)∧(hi1≤lo2∨hi2≤lo1)
theorem Ve:Gd KZ:=⟨fun⟨A1,c1,A2,c2,he,h0,h1⟩ hk=>⟨A1,c1,A2,c2,he,RJ gS h0 hk,RJ gS h1 hk⟩,fun⟨A1,c1,A2,c2,he,h0,h1⟩ hw=>⟨A1,c1,A2,c2,he,pF gS h0 hw,pF gS h1 hw⟩,fun⟨A1,c1,A2,c2,he,h0,h1⟩=>by rw[he];rfl⟩
theorem Ce:rR bY KZ:=⟨fun⟨A1,c1,lo1,hi1,A2,c2,lo2,hi2,he,h1,h2,r0,r1,r2⟩ hk=>⟨A1,c1,lo1,hi1,A2,c2,lo2,hi2,he,LJ gS h1 (fun b b1 b2 b3=>hk b oM oM b3),LJ gS h2 (fun b b1 b2 b3=>hk b oM oM b3),r0,r1,r2⟩,fun⟨A1,c1,lo1,hi1,A2,c2,lo2,hi2,he,h1,h2,r0,r1,r2⟩=>by rw[he];rfl,fun⟨A1,c1,lo1,hi1,A2,c2,lo2,hi2,he,h1,h2,r0,r1,r2⟩=>⟨A1,c1,A2,c2,he,pF gS (VI gS h1) (fun b hb _=>⟨by have:=hb.1;omega,by have:=hb.2;omega⟩),pF gS (VI gS h2) (fun b hb _=>⟨by have:=hb.1;omega,by have:=hb.2;omega⟩)⟩⟩
theorem Kf{w:World}{l h:Nat}{z0:Int}{z1:Int}{lo1 hi1 n1 c1:Nat}{A1:Option Addr}{y1:List vA}{lo2 hi2 n2 c2:Nat}{A2:Option Addr}{y2:List vA}{z4:vA}{z5:vA}{z6:vA}(h1:KB w lo1 hi1 9 1 (RF PB) A1 n1 c1 y1)(h2:KB w lo2 hi2 9 1 (RF PB) A2 n2 c2 y2)(r0:(l≤lo1∧lo1≤hi1∧hi1≤h))(r1:(l≤lo2∧lo2≤hi2∧hi2≤h))(r2:(hi1≤lo2∨hi2≤lo1)):bY w l h [.int .i64 z0,.int .i64 z1,.slice A1 n1 c1,.slice A2 n2 c2,.string (bs z4),.string (bs z5),.string (bs z6)] ⟨z0,⟨z1,⟨y1⟩,⟨y2⟩⟩,z4,z5,z6⟩:=by
  obtain rfl:=h1.1;obtain rfl:=h2.1
  exact⟨A1,c1,lo1,hi1,A2,c2,lo2,hi2,rfl,h1,h2,r0,r1,r2⟩
structure QE where
  val:vA
  primary:vA
def CJ:QE:=⟨[],[]⟩
def Of(x:QE):Prop:=cQ x.val∧cQ x.primary
def rN(x:QE):Prop:=PE x.val∧PE x.primary
theorem uX:rN CJ:=⟨gC,gC⟩
def gL(x:QE):List Value:=[.string (bs x.val),.string (bs x.primary)]
theorem nH:Gd (RF gL):=cK fun _=>rfl
structure UU where
  key:vA
  ops:List qE
def Zd:UU:=⟨[],[]⟩
def Tf(x:UU):Prop:=cQ x.key∧(RU Pf) x.ops
def Tc(x:UU):Prop:=PE x.key∧(gG aL) x.ops
theorem Bf:Tc Zd:=⟨gC,fB _⟩
def LZ:HM UU:=fun w S cs x=>∃A1 c1,cs=[.string (bs x.key),.slice A1 x.ops.length c1]∧oD w S (RF BI) 4 A1 x.ops.length c1 x.ops
def cY:WN UU:=fun w l h cs x=>∃A1 c1 lo1 hi1,cs=[.string (bs x.key),.slice A1 x.ops.length c1]∧KB w lo1 hi1 122 4 (RF BI) A1 x.ops.length c1 x.ops∧(l≤lo1∧lo1≤hi1∧hi1≤h)
theorem We:Gd LZ:=⟨fun⟨A1,c1,he,h0⟩ hk=>⟨A1,c1,he,RJ aC h0 hk⟩,fun⟨A1,c1,he,h0⟩ hw=>⟨A1,c1,he,pF aC h0 hw⟩,fun⟨A1,c1,he,h0⟩=>by rw[he];rfl⟩
theorem De:rR cY LZ:=⟨fun⟨A1,c1,lo1,hi1,he,h1,r0⟩ hk=>⟨A1,c1,lo1,hi1,he,LJ aC h1 (fun b b1 b2 b3=>hk b oM oM b3),r0⟩,fun⟨A1,c1,lo1,hi1,he,h1,r0⟩=>by rw[he];rfl,fun⟨A1,c1,lo1,hi1,he,h1,r0⟩=>⟨A1,c1,he,pF aC (VI aC h1) (fun b hb _=>⟨by have:=hb.1;omega,by have:=hb.2;omega⟩)⟩⟩
theorem Lf{w:World}{l h:Nat}{z0:vA}{lo1 hi1 n1 c1:Nat}{A1:Option Addr}{y1:List qE}(h1:KB w lo1 hi1 122 4 (RF BI) A1 n1 c1 y1)(r0:(l≤lo1∧lo1≤hi1∧hi1≤h)):cY w l h [.string (bs z0),.slice A1 n1 c1] ⟨z0,y1⟩:=by
  obtain rfl:=h1.1
  exact⟨A1,c1,lo1,hi1,rfl,h1,r0⟩
structure xN where
  x:Int
  y:Int
  signed:Bool
  code:Int
def Xb:xN:=⟨0,0,false,0⟩
def Nb(x:xN):Prop:=SX x.x∧SX x.y∧SX x.code
def KS(x:xN):List Value:=[.int .i64 x.x,.int .i64 x.y,.bool x.signed,.int .u8 x.code]
theorem RY:Gd (RF KS):=cK fun _=>rfl
structure BJ where
  msg:vA
  addr:Int
def kO:BJ:=⟨[],0⟩
def SU(x:BJ):Prop:=cQ x.msg∧SX x.addr
def UN(x:BJ):Prop:=PE x.msg
theorem ET:UN kO:=gC
def nO(x:BJ):List Value:=[.string (bs x.msg),.int .u64 x.addr]
theorem qT:Gd (RF nO):=cK fun _=>rfl
structure aY where
  Last:vA
  Over:Bool
def Xd:aY:=⟨[],false⟩
def Rf(x:aY):Prop:=cQ x.Last
def Sc(x:aY):Prop:=PE x.Last
theorem Ze:Sc Xd:=gC
def Ae(x:aY):List Value:=[.string (bs x.Last),.bool x.Over]
theorem Ue:Gd (RF Ae):=cK fun _=>rfl
structure wN where
  lo:Int
  hi:Int
def Wb:wN:=⟨0,0⟩
def Mb(x:wN):Prop:=SX x.lo∧SX x.hi
def JS(x:wN):List Value:=[.int .u8 x.lo,.int .u8 x.hi]
theorem QY:Gd (RF JS):=cK fun _=>rfl
structure XL where
  s:vA
def IS:XL:=⟨[]⟩
def Ob(x:XL):Prop:=cQ x.s
def bS(x:XL):Prop:=PE x.s
theorem eZ:bS IS:=gC
def LS(x:XL):List Value:=[.string (bs x.s)]
theorem SY:Gd (RF LS):=cK fun _=>rfl
def rI:List qE:=[]
def JZ:HM (List qE):=fun w S cs x=>∃A1 c1,cs=[.slice A1 x.length c1]∧oD w S (RF BI) 4 A1 x.length c1 x
theorem JP:Gd JZ:=⟨fun⟨A1,c1,he,h0⟩ hk=>⟨A1,c1,he,RJ aC h0 hk⟩,fun⟨A1,c1,he,h0⟩ hw=>⟨A1,c1,he,pF aC h0 hw⟩,fun⟨A1,c1,he,h0⟩=>by rw[he];rfl⟩
theorem rW:gG aL rI:=fB _
def AG(SA:List vA)(TC:Int)(k3:Nat):Int→YH Int Int | (x4)=>bif decide ((IntKind.wrap .i64 (x4-((SA.getD k3 wA).length:Int)))<0)then .ret (-1)else .cont (IntKind.wrap .i64 (x4-((SA.getD k3 wA).length:Int)))
def eF(SA:List vA)(TC:Int):Int:=bif decide ((IntKind.wrap .i64 (TC-(SA.length:Int)))<0)then -1 else ED (UA (AG SA TC) (SA.length-0) 0 (IntKind.wrap .i64 (TC-(SA.length:Int)))) (fun r=>r) (fun x4=>x4)
def YJ(SA:yF)(TC:Int):Int:=bif decide ((IntKind.wrap .i64 (TC-(SA.Name.length:Int)))<0)then -1 else IntKind.wrap .i64 (TC-(SA.Name.length:Int))
def II(SA:List yF)(TC:Int)(k3:Nat):Int→YH Int Int | (x4)=>bif decide ((YJ (SA.getD k3 MA) x4)<0)then .ret (-1)else .cont ((YJ (SA.getD k3 MA) x4))
def KJ(SA:List yF)(TC:Int):Int:=bif decide ((IntKind.wrap .i64 (TC-(SA.length:Int)))<0)then -1 else ED (UA (II SA TC) (SA.length-0) 0 (IntKind.wrap .i64 (TC-(SA.length:Int)))) (fun r=>r) (fun x4=>x4)
def vF(SA:VA)(TC:Int):Int:=bif decide ((IntKind.wrap .i64 (TC-(SA.Name.length:Int)))<0)then -1 else bif decide ((eF SA.Cols (IntKind.wrap .i64 (TC-(SA.Name.length:Int))))<0)then -1 else bif decide ((KJ SA.Idxs (eF SA.Cols (IntKind.wrap .i64 (TC-(SA.Name.length:Int)))))<0)then -1 else(KJ SA.Idxs (eF SA.Cols (IntKind.wrap .i64 (TC-(SA.Name.length:Int)))))
def uH(SA:pA)(TC:Int):Int:=bif decide ((IntKind.wrap .i64 (TC-(SA.Key.length:Int)))<0)then -1 else bif decide ((IntKind.wrap .i64 ((IntKind.wrap .i64 (TC-(SA.Key.length:Int)))-(SA.Val.length:Int)))<0)then -1 else IntKind.wrap .i64 ((IntKind.wrap .i64 (TC-(SA.Key.length:Int)))-(SA.Val.length:Int))
def CH(SA:List pA)(TC:Int)(k3:Nat):Int→YH Int Int | (x4)=>bif decide ((uH (SA.getD k3 zA) x4)<0)then .ret (-1)else .cont ((uH (SA.getD k3 zA) x4))
def xG(SA:List pA)(TC:Int):Int:=bif decide ((IntKind.wrap .i64 (TC-(SA.length:Int)))<0)then -1 else ED (UA (CH SA TC) (SA.length-0) 0 (IntKind.wrap .i64 (TC-(SA.length:Int)))) (fun r=>r) (fun x4=>x4)
def dJ(SA:List vA)(k10:Nat):(List vA)→YH (List vA) (List vA) | (x18)=>.cont ((x18.set k10 (SA.getD k10 wA)))
def OQ(SA:List vA):List vA:=ED (UA (dJ SA) (SA.length-0) 0 ((List.replicate SA.length wA))) (fun r=>r) (fun x18=>x18)
def kY(SA:yF):yF:=SA
def rK(SA:List yF)(k10:Nat):(List yF)→YH (List yF) (List yF) | (x21)=>.cont ((x21.set k10 (SA.getD k10 MA)))
def fW(SA:List yF):List yF:=ED (UA (rK SA) (SA.length-0) 0 ((List.replicate SA.length MA))) (fun r=>r) (fun x21=>x21)
def wT(SA:VA):VA:=SA
def xT(SA:pA):pA:=SA
def EJ(SA:List pA)(k10:Nat):(List pA)→YH (List pA) (List pA) | (x21)=>.cont ((x21.set k10 (SA.getD k10 zA)))
def VR(SA:List pA):List pA:=ED (UA (EJ SA) (SA.length-0) 0 ((List.replicate SA.length zA))) (fun r=>r) (fun x21=>x21)
def LH(SA:pA)(CE:pA):Bool:=bif SA.Key==CE.Key then bif SA.Val==CE.Val then bif SA.Gone==CE.Gone then true else false else false else false
def AH(SA:List pA)(CE:List pA)(k4:Nat):Unit→YH Bool Unit | ()=>bif LH (SA.getD k4 zA) (CE.getD k4 zA)then .cont ()else .ret false
def EI(SA:List pA)(CE:List pA):Bool:=bif decide ((SA.length:Int)=(CE.length:Int))then ED (UA (AH SA CE) (SA.length-0) 0 ()) (fun r=>r) (fun _=>true)else false
def gH(SA:List vA)(CE:List vA)(k4:Nat):Unit→YH Bool Unit | ()=>bif(SA.getD k4 wA)==(CE.getD k4 wA)then .cont ()else .ret false
def TG(SA:List vA)(CE:List vA):Bool:=bif decide ((SA.length:Int)=(CE.length:Int))then ED (UA (gH SA CE) (SA.length-0) 0 ()) (fun r=>r) (fun _=>true)else false
def DJ(SA:yF)(CE:yF):Bool:=bif SA.Name==CE.Name then bif decide (SA.Col=CE.Col)then bif decide (SA.Stage=CE.Stage)then true else false else false else false
def HI(SA:List yF)(CE:List yF)(k4:Nat):Unit→YH Bool Unit | ()=>bif DJ (SA.getD k4 MA) (CE.getD k4 MA)then .cont ()else .ret false
def HK(SA:List yF)(CE:List yF):Bool:=bif decide ((SA.length:Int)=(CE.length:Int))then ED (UA (HI SA CE) (SA.length-0) 0 ()) (fun r=>r) (fun _=>true)else false
def ZH(SA:VA)(CE:VA):Bool:=bif SA.Name==CE.Name then bif TG SA.Cols CE.Cols then bif HK SA.Idxs CE.Idxs then true else false else false else false
def lI(nG:Int):Int×vA→YH vA (Int×vA) | (x15,x16)=>bif decide (0<x15)then .cont (IntKind.wrap .i64 (Int.tdiv x15 10),(GZ ([IntKind.wrap .u8 (IntKind.wrap .i64 (48+(Int.tmod x15 10)))]:List Int))++x16)else .brk (x15,x16)
def BC(nG:Int):vA:=bif decide (nG≤0)then([109,48]:vA)else ED (aG (lI nG) ((((nG).toNat+1) / 2)+1) (nG,([]:vA))) (fun r=>r) (fun(x15,x16)=>([109]:vA)++x16)
def BH(SA:List vA)(nG:Int)(k3:Nat):Int×(List vA)→YH (Int×(List vA)) (Int×(List vA)) | (x14,x15)=>.cont (IntKind.wrap .i64 (x14+1),(x15.set k3 (BC x14)))
def lD(SA:List vA)(nG:Int):Int×(List vA):=ED (UA (BH SA nG) (SA.length-0) 0 (nG,SA)) (fun r=>r) (fun(x14,x15)=>(x14,x15))
def UI(SA:List yF)(nG:Int)(k3:Nat):Int×(List yF)→YH (Int×(List yF)) (Int×(List yF)) | (x26,x27)=>.cont (IntKind.wrap .i64 ((IntKind.wrap .i64 ((IntKind.wrap .i64 (x26+1))+1))+1),(x27.set k3 (⟨(BC x26),IntKind.wrap .i64 (x26+1),IntKind.wrap .i64 ((IntKind.wrap .i64 (x26+1))+1)⟩:yF)))
def OG(SA:List yF)(nG:Int):Int×(List yF):=ED (UA (UI SA nG) (SA.length-0) 0 (nG,SA)) (fun r=>r) (fun(x26,x27)=>(x26,x27))
def YE(SA:VA)(nG:Int):Int×VA:=((OG SA.Idxs ((lD SA.Cols nG).1)).1,(⟨SA.Name,(lD SA.Cols nG).2,(OG SA.Idxs ((lD SA.Cols nG).1)).2⟩:VA))
def XH(SA:List pA)(nG:Int)(k3:Nat):Int×(List pA)→YH (Int×(List pA)) (Int×(List pA)) | (x29,x30)=>.cont (IntKind.wrap .i64 ((IntKind.wrap .i64 ((IntKind.wrap .i64 (x29+1))+1))+1),(x30.set k3 (⟨(BC x29),(BC (IntKind.wrap .i64 (x29+1))),decide ((Int.tmod (IntKind.wrap .i64 ((IntKind.wrap .i64 (x29+1))+1)) 3)=0)⟩:pA)))
def CC(SA:List pA)(nG:Int):Int×(List pA):=ED (UA (XH SA nG) (SA.length-0) 0 (nG,SA)) (fun r=>r) (fun(x29,x30)=>(x29,x30))
def jE(SA:List pA)(nG:Int)(k2:Nat):Int→YH Int Int | (x3)=>bif((SA.getD k2 zA).Key)==(BC x3)then bif((SA.getD k2 zA).Val)==(BC (IntKind.wrap .i64 (x3+1)))then bif((SA.getD k2 zA).Gone)==(decide ((Int.tmod (IntKind.wrap .i64 ((IntKind.wrap .i64 (x3+1))+1)) 3)=0))then .cont (IntKind.wrap .i64 ((IntKind.wrap .i64 ((IntKind.wrap .i64 (x3+1))+1))+1))else .ret (-1)else .ret (-1)else .ret (-1)
def nE(SA:List pA)(nG:Int):Int:=ED (UA (jE SA nG) (SA.length-0) 0 (nG)) (fun r=>r) (fun x3=>x3)
def wE(iL:Int)(yX:Int)(iZ:Int):Bool:=bif decide (yX≤iL)then decide (iL≤iZ)else false
def AC(YA:vA)(HB:vA)(k3:Nat)(k6:Nat):Bool→YH Bool Bool | (x7)=>bif x7 then .cont (true)else .cont (decide (((YA.getD k3 0).toNat:Int)=((HB.getD k6 0).toNat:Int)))
def pD(YA:vA)(HB:vA)(k3:Nat):Unit→YH Bool Unit | ()=>bif decide (97≤((YA.getD k3 0).toNat:Int))then bif decide (((YA.getD k3 0).toNat:Int)≤122)then ED (UA (AC YA HB k3) (HB.length-0) 0 (true)) (fun r=>YH.ret r) (fun x7=>bif x7 then .cont ()else .ret false)else bif decide (48≤((YA.getD k3 0).toNat:Int))then ED (UA (AC YA HB k3) (HB.length-0) 0 (decide (((YA.getD k3 0).toNat:Int)≤57))) (fun r=>YH.ret r) (fun x12=>bif x12 then .cont ()else .ret false)else ED (UA (AC YA HB k3) (HB.length-0) 0 (false)) (fun r=>YH.ret r) (fun x15=>bif x15 then .cont ()else .ret false)else bif decide (48≤((YA.getD k3 0).toNat:Int))then ED (UA (AC YA HB k3) (HB.length-0) 0 (decide (((YA.getD k3 0).toNat:Int)≤57))) (fun r=>YH.ret r) (fun x19=>bif x19 then .cont ()else .ret false)else ED (UA (AC YA HB k3) (HB.length-0) 0 (false)) (fun r=>YH.ret r) (fun x22=>bif x22 then .cont ()else .ret false)
def YG(YA:vA)(HB:vA):Bool:=ED (UA (pD YA HB) (YA.length-0) 0 ()) (fun r=>r) (fun _=>true)
def GF(YA:vA):Bool:=bif wE (YA.length:Int) 1 12 then(YG YA ([46,47]:vA))else false
def iG(YA:vA):Bool:=bif decide ((YA.length:Int)≤24)then(YG YA ([46,45,44,95]:vA))else false
def GE(sB:vA)(EE:vA)(jK:Bool):Bool:=bif GF sB then bif iG EE then bif jK then EE==([]:vA)else true else false else false
def jF(AB:List pA)(k3:Nat):Unit→YH Bool Unit | ()=>bif GE ((AB.getD k3 zA).Key) ((AB.getD k3 zA).Val) ((AB.getD k3 zA).Gone)then bif decide (0<(k3:Int))then bif cJ ((AB.getD ((IntKind.wrap .i64 ((k3:Int)-1)).toNat) zA).Key) ((AB.getD k3 zA).Key)then .cont ()else .ret false else .cont ()else .ret false
def yG(AB:List pA):Bool:=ED (UA (jF AB) (AB.length-0) 0 ()) (fun r=>r) (fun _=>decide ((AB.length:Int)≤24))
def iI(AB:List pA)(k3:Nat):Unit→YH Bool Unit | ()=>bif(AB.getD k3 zA).Gone then .ret false else .cont ()
def fD(AB:List pA):Bool:=ED (UA (iI AB) (AB.length-0) 0 ()) (fun r=>r) (fun _=>(yG AB))
def fF(YA:vA)(WF:Int)(k2:Nat):Unit→YH Bool Unit | ()=>bif decide (((YA.getD k2 0).toNat:Int)<97)then .ret false else bif decide (122<((YA.getD k2 0).toNat:Int))then .ret false else .cont ()
def rC(YA:vA)(WF:Int):Bool:=ED (UA (fF YA WF) (YA.length-0) 0 ()) (fun r=>r) (fun _=>bif decide (1≤(YA.length:Int))then decide ((YA.length:Int)≤WF)else false)
def kJ(AB:List vA)(YA:vA)(k4:Nat):Unit→YH Int Unit | ()=>bif(AB.getD k4 wA)==YA then .ret (k4:Int)else .cont ()
def gM(AB:List vA)(YA:vA):Int:=ED (UA (kJ AB YA) (AB.length-0) 0 ()) (fun r=>r) (fun _=>-1)
def dG(AB:List vA)(k3:Nat):Unit→YH Bool Unit | ()=>bif rC (AB.getD k3 wA) 3 then bif decide (0≤(gM (AB.take k3) (AB.getD k3 wA)))then .ret false else .cont ()else .ret false
def RI(AB:List vA):Bool:=ED (UA (dG AB) (AB.length-0) 0 ()) (fun r=>r) (fun _=>(wE (AB.length:Int) 2 4))
def DD(rA:VA)(k19:Nat):Unit→YH Bool Unit | ()=>bif rC ((rA.Idxs.getD k19 MA).Name) 1 then bif wE ((rA.Idxs.getD k19 MA).Col) 1 (IntKind.wrap .i64 ((rA.Cols.length:Int)-1))then bif wE ((rA.Idxs.getD k19 MA).Stage) 0 3 then bif decide (0<(k19:Int))then bif cJ ((rA.Idxs.getD ((IntKind.wrap .i64 ((k19:Int)-1)).toNat) MA).Name) ((rA.Idxs.getD k19 MA).Name)then .cont ()else .ret false else .cont ()else .ret false else .ret false else .ret false
def FB(rA:VA):Bool:=bif rC rA.Name 1 then bif RI rA.Cols then bif decide (3<(rA.Idxs.length:Int))then false else ED (UA (DD rA) (rA.Idxs.length-0) 0 ()) (fun r=>r) (fun _=>true)else false else false
def WE(XG:qE):Bool:=bif GF XG.Key then bif decide (XG.Kind=2)then bif iG XG.Val then decide (XG.By=0)else false else bif decide (XG.Kind=7)then bif iG XG.Val then decide (XG.By=0)else false else bif decide (XG.Kind=4)then bif XG.Val==([]:vA)then(wE XG.By (-9999) 9999)else false else bif decide (XG.Kind=5)then bif XG.Val==([]:vA)then(wE XG.By (-9999) 9999)else false else bif decide (XG.Kind=1)then bif XG.Val==([]:vA)then decide (XG.By=0)else false else bif decide (XG.Kind=3)then bif XG.Val==([]:vA)then decide (XG.By=0)else false else bif decide (XG.Kind=6)then bif XG.Val==([]:vA)then decide (XG.By=0)else false else false else false
def fI(AB:List qE)(k3:Nat):Unit→YH Bool Unit | ()=>bif WE (AB.getD k3 EC)then .cont ()else .ret false
def qI(AB:List qE):Bool:=ED (UA (fI AB) (AB.length-0) 0 ()) (fun r=>r) (fun _=>decide ((AB.length:Int)≤8))
def EG(AB:List pA)(DC:pA):Int→YH (List pA) Int | (x11)=>bif decide (0<x11)then bif dN ((AB.getD ((IntKind.wrap .i64 (x11-1)).toNat) zA).Key) DC.Key then .brk (x11)else .cont (IntKind.wrap .i64 (x11-1))else .brk (x11)
def VD(AB:List pA)(DC:pA):List pA:=ED (aG (EG AB DC) ((((AB.length:Int)).toNat)+1) ((AB.length:Int))) (fun r=>r) (fun x11=>bif decide (0<x11)then bif((AB.getD ((IntKind.wrap .i64 (x11-1)).toNat) zA).Key)==DC.Key then((([]:List pA)++AB).set ((IntKind.wrap .i64 (x11-1)).toNat) DC)else(((([]:List pA)++(AB.take ((x11).toNat)))++([DC]:List pA))++(([]:List pA)++(AB.drop ((x11).toNat))))else(((([]:List pA)++(AB.take ((x11).toNat)))++([DC]:List pA))++(([]:List pA)++(AB.drop ((x11).toNat)))))
def sG(JF:List pA)(zD:List ZE)(sB:vA)(k6:Nat):Unit→YH (vA×Bool×Bool) Unit | ()=>bif((JF.getD k6 zA).Key)==sB then .ret ((JF.getD k6 zA).Val,!((JF.getD k6 zA).Gone),true)else .cont ()
def cH(JF:List pA)(zD:List ZE)(sB:vA)(k29:Nat):Unit→YH (vA×Bool×Bool) Unit | ()=>bif((zD.getD k29 EH).Key)==sB then .ret ((zD.getD k29 EH).Val,(zD.getD k29 EH).There,true)else .cont ()
def lC(JF:List pA)(zD:List ZE)(sB:vA):vA×Bool×Bool:=ED (UA (sG JF zD sB) (JF.length-0) 0 ()) (fun r=>r) (fun _=>ED (UA (cH JF zD sB) (zD.length-0) 0 ()) (fun r=>r) (fun _=>(([]:vA),false,false)))
def mE(YA:vA)(k8:Nat):Int→YH Int Int | (x9)=>bif decide (((YA.getD k8 0).toNat:Int)<48)then .ret (-1)else bif decide (57<((YA.getD k8 0).toNat:Int))then .ret (-1)else .cont (IntKind.wrap .i64 ((IntKind.wrap .i64 (10*x9))+(IntKind.wrap .i64 (IntKind.wrap .u8 (((YA.getD k8 0).toNat:Int)-48)))))
def LF(YA:vA):Int:=bif wE (YA.length:Int) 1 6 then bif decide (((YA.getD 0 0).toNat:Int)=48)then bif decide (1<(YA.length:Int))then -1 else ED (UA (mE YA) (YA.length-0) 0 (0)) (fun r=>r) (fun x9=>x9)else ED (UA (mE YA) (YA.length-0) 0 (0)) (fun r=>r) (fun x13=>x13)else -1
def HF(YA:vA):Int×Bool:=bif decide (0<(YA.length:Int))then bif decide (((YA.getD 0 0).toNat:Int)=45)then bif decide ((LF (YA.drop 1))<0)then(0,false)else bif decide ((LF (YA.drop 1))=0)then(0,false)else(IntKind.wrap .i64 (0-(LF (YA.drop 1))),true)else bif decide ((LF YA)<0)then(0,false)else((LF YA),true)else bif decide ((LF YA)<0)then(0,false)else((LF YA),true)
def lE(XG:qE)(EE:vA)(OE:Bool):Bool:=bif decide (XG.Kind=4)then bif OE then bif(HF EE).2 then !(wE (IntKind.wrap .i64 (((HF EE).1)+XG.By)) (-999999) 999999)else true else false else bif decide (XG.Kind=5)then bif OE then bif(HF EE).2 then decide (((HF EE).1)<XG.By)else true else true else bif decide (XG.Kind=6)then OE else bif decide (XG.Kind=7)then bif OE then !(EE==XG.Val)else true else false
def DL(iL:Int):vA:=GZ ([IntKind.wrap .u8 (IntKind.wrap .i64 (48+iL))]:List Int)
def KG(iL:Int):vA:=bif decide (iL<0)then([45]:vA)++(DL (IntKind.wrap .i64 (0-iL)))else(DL iL)
def gD(rA:List qE)(HA:List ZE)(k5:Nat):(List pA)→YH (Int×vA×(List pA)) (List pA) | (x174)=>bif(lC x174 HA ((rA.getD k5 EC).Key)).2.2 then bif lE (rA.getD k5 EC) ((lC x174 HA ((rA.getD k5 EC).Key)).1) ((lC x174 HA ((rA.getD k5 EC).Key)).2.1)then .ret (2,([]:vA),([]:List pA))else bif decide (((rA.getD k5 EC).Kind)=2)then .cont ((VD x174 (⟨(rA.getD k5 EC).Key,(rA.getD k5 EC).Val,false⟩:pA)))else bif decide (((rA.getD k5 EC).Kind)=3)then .cont ((VD x174 (⟨(rA.getD k5 EC).Key,([]:vA),true⟩:pA)))else bif decide (((rA.getD k5 EC).Kind)=4)then bif(lC x174 HA ((rA.getD k5 EC).Key)).2.1 then .cont ((VD x174 (⟨(rA.getD k5 EC).Key,(KG (IntKind.wrap .i64 (((HF ((lC x174 HA ((rA.getD k5 EC).Key)).1)).1)+((rA.getD k5 EC).By)))),false⟩:pA)))else .cont ((VD x174 (⟨(rA.getD k5 EC).Key,(KG (IntKind.wrap .i64 (0+((rA.getD k5 EC).By)))),false⟩:pA)))else .cont (x174)else bif decide (((rA.getD k5 EC).Kind)=2)then bif lE (rA.getD k5 EC) ((lC x174 HA ((rA.getD k5 EC).Key)).1) ((lC x174 HA ((rA.getD k5 EC).Key)).2.1)then .ret (2,([]:vA),([]:List pA))else .cont ((VD x174 (⟨(rA.getD k5 EC).Key,(rA.getD k5 EC).Val,false⟩:pA)))else bif decide (((rA.getD k5 EC).Kind)=3)then bif lE (rA.getD k5 EC) ((lC x174 HA ((rA.getD k5 EC).Key)).1) ((lC x174 HA ((rA.getD k5 EC).Key)).2.1)then .ret (2,([]:vA),([]:List pA))else .cont ((VD x174 (⟨(rA.getD k5 EC).Key,([]:vA),true⟩:pA)))else .ret (1,(rA.getD k5 EC).Key,([]:List pA))
def MD(rA:List qE)(HA:List ZE):Int×vA×(List pA):=ED (UA (gD rA HA) (rA.length-0) 0 (([]:List pA))) (fun r=>r) (fun x174=>(3,([]:vA),x174))
def DH(jB:List pA)(sB:vA)(k10:Nat):Unit→YH ZE Unit | ()=>bif((jB.getD k10 zA).Key)==sB then .ret (⟨sB,(jB.getD k10 zA).Val,true⟩:ZE)else .cont ()
def cG(jB:List pA)(sB:vA):ZE:=ED (UA (DH jB sB) (jB.length-0) 0 ()) (fun r=>r) (fun _=>(⟨sB,([]:vA),false⟩:ZE))
def CG(jB:List pA)(AB:List qE):(List ZE)→YH ((List ZE)×(List pA)×Bool) (List ZE) | (x38)=>bif decide (((MD AB x38).1)=1)then .cont ((x38++([(cG jB ((MD AB x38).2.1))]:List ZE)))else .ret (x38,(MD AB x38).2.2,decide (((MD AB x38).1)=3))
def bD(jB:List pA)(AB:List qE):(List ZE)×(List pA)×Bool:=ED (aG (CG jB AB) (((AB.filter fun o=>!(([]:List ZE).any fun g=>g.Key==o.Key)).length)+1) (([]:List ZE))) (fun r=>r) (fun x38=>(([]:List ZE),([]:List pA),false))
def xI(jB:List pA)(DC:List pA)(k26:Nat):(List pA)→YH (List pA) (List pA) | (x65)=>.cont ((VD x65 (DC.getD k26 zA)))
def jH(jB:List pA)(DC:List pA)(x65:List pA)(k88:Nat):(List pA)→YH (List pA) (List pA) | (x145)=>bif(x65.getD k88 zA).Gone then .cont (x145)else .cont ((x145++([(x65.getD k88 zA)]:List pA)))
def SC(jB:List pA)(DC:List pA):List pA:=ED (UA (xI jB DC) (DC.length-0) 0 ((([]:List pA)++jB))) (fun r=>r) (fun x65=>ED (UA (jH jB DC x65) (x65.length-0) 0 (([]:List pA))) (fun r=>r) (fun x145=>x145))
def gF(rA:List pA)(HA:List (List qE))(k10:Nat):Unit→YH ((List pA)×(List Bool)×Bool) Unit | ()=>bif qI (HA.getD k10 rI)then .cont ()else .ret (([]:List pA),([]:List Bool),false)
def UE(rA:List pA)(HA:List (List qE))(k38:Nat):(List pA)×(List Bool)→YH ((List pA)×(List Bool)×Bool) ((List pA)×(List Bool)) | (x119,x124)=>bif(bD x119 (HA.getD k38 rI)).2.2 then bif fD (SC x119 ((bD x119 (HA.getD k38 rI)).2.1))then .cont ((SC x119 ((bD x119 (HA.getD k38 rI)).2.1)),(x124++([(fD (SC x119 ((bD x119 (HA.getD k38 rI)).2.1)))]:List Bool)))else .cont (x119,(x124++([(fD (SC x119 ((bD x119 (HA.getD k38 rI)).2.1)))]:List Bool)))else .cont (x119,(x124++([false]:List Bool)))
def UC(rA:List pA)(HA:List (List qE)):(List pA)×(List Bool)×Bool:=bif fD rA then bif decide (20<(HA.length:Int))then(([]:List pA),([]:List Bool),false)else ED (UA (gF rA HA) (HA.length-0) 0 ()) (fun r=>r) (fun _=>ED (UA (UE rA HA) (HA.length-0) 0 ((([]:List pA)++rA),([]:List Bool))) (fun r=>r) (fun(x119,x124)=>(x119,x124,true)))else(([]:List pA),([]:List Bool),false)
def SH(ps:List pA)(oF:List qE):(List pA)×Bool:=bif decide ((((UC ps ([oF]:List (List qE))).2.1).length:Int)=1)then((UC ps ([oF]:List (List qE))).1,(((UC ps ([oF]:List (List qE))).2.1).getD 0 HR))else((UC ps ([oF]:List (List qE))).1,false)
def dI(AB:List vA)(cN:vA)(k4:Nat):vA→YH vA vA | (x12)=>bif decide (0<(k4:Int))then .cont ((x12++cN)++(AB.getD k4 wA))else .cont (x12++(AB.getD k4 wA))
def SI(AB:List vA)(cN:vA):vA:=ED (UA (dI AB cN) (AB.length-0) 0 (([]:vA))) (fun r=>r) (fun x12=>x12)
def DB(NA:VA)(DE:nB):pA:=(⟨(NA.Name++([47]:vA))++(DE.Vals.getD 0 wA),(SI (DE.Vals.drop 1) ([44]:vA)),false⟩:pA)
def GG(NA:VA)(SA:MB):List qE:=bif decide (SA.Kind=1)then([(⟨6,(DB NA SA.New).Key,([]:vA),0⟩:qE),(⟨2,(DB NA SA.New).Key,(DB NA SA.New).Val,0⟩:qE)]:List qE)else bif decide (SA.Kind=2)then([(⟨7,(DB NA SA.Old).Key,(DB NA SA.Old).Val,0⟩:qE),(⟨3,(DB NA SA.Old).Key,([]:vA),0⟩:qE)]:List qE)else([(⟨7,(DB NA SA.Old).Key,(DB NA SA.Old).Val,0⟩:qE),(⟨2,(DB NA SA.Old).Key,(DB NA SA.New).Val,0⟩:qE)]:List qE)
def LB(NA:VA)(vD:yF)(DE:nB):vA:=(((((NA.Name++([46]:vA))++vD.Name)++([47]:vA))++(DE.Vals.getD ((vD.Col).toNat) wA))++([47]:vA))++(DE.Vals.getD 0 wA)
def tD(NA:VA)(vD:yF)(SA:MB):List qE:=bif decide (SA.Kind=1)then bif decide (SA.Kind=2)then([]:List qE)else bif(LB NA vD SA.New)==([]:vA)then([]:List qE)else bif decide (2≤vD.Stage)then(([]:List qE)++([(⟨2,(LB NA vD SA.New),([]:vA),0⟩:qE)]:List qE))else([]:List qE)else bif decide (SA.Kind=2)then bif(LB NA vD SA.Old)==([]:vA)then([]:List qE)else bif decide (1≤vD.Stage)then(([]:List qE)++([(⟨3,(LB NA vD SA.Old),([]:vA),0⟩:qE)]:List qE))else([]:List qE)else bif(LB NA vD SA.Old)==([]:vA)then bif(LB NA vD SA.New)==([]:vA)then([]:List qE)else bif decide (2≤vD.Stage)then(([]:List qE)++([(⟨2,(LB NA vD SA.New),([]:vA),0⟩:qE)]:List qE))else([]:List qE)else bif(LB NA vD SA.Old)==(LB NA vD SA.New)then bif(LB NA vD SA.New)==([]:vA)then([]:List qE)else bif decide (2≤vD.Stage)then(([]:List qE)++([(⟨2,(LB NA vD SA.New),([]:vA),0⟩:qE)]:List qE))else([]:List qE)else bif decide (1≤vD.Stage)then bif(LB NA vD SA.New)==([]:vA)then(([]:List qE)++([(⟨3,(LB NA vD SA.Old),([]:vA),0⟩:qE)]:List qE))else bif decide (2≤vD.Stage)then((([]:List qE)++([(⟨3,(LB NA vD SA.Old),([]:vA),0⟩:qE)]:List qE))++([(⟨2,(LB NA vD SA.New),([]:vA),0⟩:qE)]:List qE))else(([]:List qE)++([(⟨3,(LB NA vD SA.Old),([]:vA),0⟩:qE)]:List qE))else bif(LB NA vD SA.New)==([]:vA)then([]:List qE)else bif decide (2≤vD.Stage)then(([]:List qE)++([(⟨2,(LB NA vD SA.New),([]:vA),0⟩:qE)]:List qE))else([]:List qE)
def PJ(NA:VA)(SA:MB)(k26:Nat):(List qE)→YH (List qE) (List qE) | (x88)=>.cont ((x88++(tD NA (NA.Idxs.getD k26 MA) SA)))
def bG(NA:VA)(SA:MB):List qE:=ED (UA (PJ NA SA) (NA.Idxs.length-0) 0 ((GG NA SA))) (fun r=>r) (fun x88=>x88)
def BG(YA:vA)(CE:Int)(k2:Nat):(List vA)×Int→YH (List vA) ((List vA)×Int) | (x20,x24)=>bif decide (((YA.getD k2 0).toNat:Int)=CE)then .cont ((x20++([((YA.take k2).drop ((x24).toNat))]:List vA)),((k2+1:Nat):Int))else .cont (x20,x24)
def PA(YA:vA)(CE:Int):List vA:=ED (UA (BG YA CE) (YA.length-0) 0 (([]:List vA),0)) (fun r=>r) (fun(x20,x24)=>(x20++([(YA.drop ((x24).toNat))]:List vA)))
def QC(YA:vA):nB:=(⟨(PA YA 44)⟩:nB)
def aB(rA:List vA):iD:=bif decide ((rA.length:Int)=3)then bif(rA.getD 0 wA)==([103,101,116]:vA)then(⟨2,(⟨0,(⟨[]⟩:nB),(⟨[]⟩:nB)⟩:MB),([]:vA),(rA.getD 2 wA),([]:vA)⟩:iD)else bif decide ((rA.length:Int)=5)then bif(rA.getD 0 wA)==([114,97,110,103,101]:vA)then(⟨3,(⟨0,(⟨[]⟩:nB),(⟨[]⟩:nB)⟩:MB),(rA.getD 2 wA),(rA.getD 3 wA),(rA.getD 4 wA)⟩:iD)else bif(rA.getD 0 wA)==([105,110,115,101,114,116]:vA)then(⟨1,(⟨1,(⟨[]⟩:nB),(QC (rA.getD 2 wA))⟩:MB),([]:vA),([]:vA),([]:vA)⟩:iD)else bif(rA.getD 0 wA)==([100,101,108,101,116,101]:vA)then(⟨1,(⟨2,(QC (rA.getD 2 wA)),(⟨[]⟩:nB)⟩:MB),([]:vA),([]:vA),([]:vA)⟩:iD)else bif(rA.getD 0 wA)==([117,112,100,97,116,101]:vA)then(⟨1,(⟨3,(QC (rA.getD 2 wA)),(QC (rA.getD 4 wA))⟩:MB),([]:vA),([]:vA),([]:vA)⟩:iD)else(⟨0,(⟨0,(⟨[]⟩:nB),(⟨[]⟩:nB)⟩:MB),([]:vA),([]:vA),([]:vA)⟩:iD)else bif(rA.getD 0 wA)==([105,110,115,101,114,116]:vA)then(⟨1,(⟨1,(⟨[]⟩:nB),(QC (rA.getD 2 wA))⟩:MB),([]:vA),([]:vA),([]:vA)⟩:iD)else bif(rA.getD 0 wA)==([100,101,108,101,116,101]:vA)then(⟨1,(⟨2,(QC (rA.getD 2 wA)),(⟨[]⟩:nB)⟩:MB),([]:vA),([]:vA),([]:vA)⟩:iD)else(⟨0,(⟨0,(⟨[]⟩:nB),(⟨[]⟩:nB)⟩:MB),([]:vA),([]:vA),([]:vA)⟩:iD)else bif decide ((rA.length:Int)=5)then bif(rA.getD 0 wA)==([114,97,110,103,101]:vA)then(⟨3,(⟨0,(⟨[]⟩:nB),(⟨[]⟩:nB)⟩:MB),(rA.getD 2 wA),(rA.getD 3 wA),(rA.getD 4 wA)⟩:iD)else bif(rA.getD 0 wA)==([117,112,100,97,116,101]:vA)then(⟨1,(⟨3,(QC (rA.getD 2 wA)),(QC (rA.getD 4 wA))⟩:MB),([]:vA),([]:vA),([]:vA)⟩:iD)else(⟨0,(⟨0,(⟨[]⟩:nB),(⟨[]⟩:nB)⟩:MB),([]:vA),([]:vA),([]:vA)⟩:iD)else(⟨0,(⟨0,(⟨[]⟩:nB),(⟨[]⟩:nB)⟩:MB),([]:vA),([]:vA),([]:vA)⟩:iD)
def UD(YA:vA):Bool:=bif wE (YA.length:Int) 1 3 then(YG YA ([]:vA))else false
def eI(NA:VA)(DE:nB)(k18:Nat):Unit→YH Bool Unit | ()=>bif UD (DE.Vals.getD k18 wA)then .cont ()else .ret false
def sD(NA:VA)(DE:nB):Bool:=ED (UA (eI NA DE) (DE.Vals.length-0) 0 ()) (fun r=>r) (fun _=>decide ((DE.Vals.length:Int)=(NA.Cols.length:Int)))
def EF(NA:VA)(SA:MB):Bool:=bif decide (SA.Kind=1)then bif decide ((SA.Old.Vals.length:Int)=0)then(sD NA SA.New)else false else bif decide (SA.Kind=2)then bif decide ((SA.New.Vals.length:Int)=0)then(sD NA SA.Old)else false else bif decide (SA.Kind=3)then bif sD NA SA.Old then bif sD NA SA.New then(SA.Old.Vals.getD 0 wA)==(SA.New.Vals.getD 0 wA)else false else false else false
def JI(NA:VA)(pn:vA)(k11:Nat):Unit→YH Int Unit | ()=>bif((NA.Idxs.getD k11 MA).Name)==pn then .ret (k11:Int)else .cont ()
def IE(NA:VA)(pn:vA):Int:=ED (UA (JI NA pn) (NA.Idxs.length-0) 0 ()) (fun r=>r) (fun _=>-1)
def bI(SA:MB):Bool:=bif decide (SA.Kind=0)then bif decide ((SA.Old.Vals.length:Int)=0)then decide ((SA.New.Vals.length:Int)=0)else false else false
def nD(rA:VA)(HA:iD):Bool:=bif decide (HA.Kind=1)then bif EF rA HA.Act then bif HA.Idx==([]:vA)then bif HA.Low==([]:vA)then HA.High==([]:vA)else false else false else false else bif decide (HA.Kind=2)then bif bI HA.Act then bif HA.Idx==([]:vA)then bif UD HA.Low then HA.High==([]:vA)else false else false else false else bif decide (HA.Kind=3)then bif bI HA.Act then bif decide (0≤(IE rA HA.Idx))then bif UD HA.Low then(UD HA.High)else false else false else false else false
def eE(DE:nB):vA:=(SI DE.Vals ([44]:vA))
def FF(rA:VA)(HA:iD):vA:=bif decide (HA.Kind=2)then((([103,101,116,32]:vA)++rA.Name)++([32]:vA))++HA.Low else bif decide (HA.Kind=3)then((((((([114,97,110,103,101,32]:vA)++rA.Name)++([32]:vA))++HA.Idx)++([32]:vA))++HA.Low)++([32]:vA))++HA.High else bif decide (HA.Act.Kind=1)then((([105,110,115,101,114,116,32]:vA)++rA.Name)++([32]:vA))++(eE HA.Act.New)else bif decide (HA.Act.Kind=2)then((([100,101,108,101,116,101,32]:vA)++rA.Name)++([32]:vA))++(eE HA.Act.Old)else((((([117,112,100,97,116,101,32]:vA)++rA.Name)++([32]:vA))++(eE HA.Act.Old))++([32,116,111,32]:vA))++(eE HA.Act.New)
def XB(NA:VA)(VB:vA):iD×Bool:=bif nD NA (aB (PA VB 32))then((aB (PA VB 32)),(FF NA (aB (PA VB 32)))==VB)else((aB (PA VB 32)),false)
def NE(NA:VA)(DC:pA):nB×Bool:=bif decide ((DC.Key.length:Int)<3)then((⟨[]⟩:nB),false)else bif sD NA (⟨(([(DC.Key.drop 2)]:List vA)++(PA DC.Val 44))⟩:nB)then((⟨(([(DC.Key.drop 2)]:List vA)++(PA DC.Val 44))⟩:nB),((((DB NA (⟨(([(DC.Key.drop 2)]:List vA)++(PA DC.Val 44))⟩:nB)).Key)==DC.Key)&&((((DB NA (⟨(([(DC.Key.drop 2)]:List vA)++(PA DC.Val 44))⟩:nB)).Val)==DC.Val)&&(((DB NA (⟨(([(DC.Key.drop 2)]:List vA)++(PA DC.Val 44))⟩:nB)).Gone)==DC.Gone))))else((⟨(([(DC.Key.drop 2)]:List vA)++(PA DC.Val 44))⟩:nB),false)
def aH(NA:VA)(ps:List pA)(k12:Nat):(List nB)→YH (List nB) (List nB) | (x94)=>bif(NE NA (ps.getD k12 zA)).2 then .cont ((x94++([(NE NA (ps.getD k12 zA)).1]:List nB)))else .cont (x94)
def PC(NA:VA)(ps:List pA):List nB:=ED (UA (aH NA ps) (ps.length-0) 0 (([]:List nB))) (fun r=>r) (fun x94=>x94)
def rG(NA:VA)(ps:List pA)(sB:vA)(k19:Nat):(List nB)→YH (List nB) (List nB) | (x77)=>bif((((PC NA ps).getD k19 XC).Vals).getD 0 wA)==sB then .cont ((x77++([((PC NA ps).getD k19 XC)]:List nB)))else .cont (x77)
def dE(NA:VA)(ps:List pA)(sB:vA):List nB:=ED (UA (rG NA ps sB) ((PC NA ps).length-0) 0 (([]:List nB))) (fun r=>r) (fun x77=>x77)
def tC(NA:VA)(pn:vA)(sB:vA):vA×vA×Bool:=bif decide (((PA sB 47).length:Int)=3)then bif((PA sB 47).getD 0 wA)==((NA.Name++([46]:vA))++pn)then bif UD ((PA sB 47).getD 1 wA)then bif UD ((PA sB 47).getD 2 wA)then(((PA sB 47).getD 1 wA),((PA sB 47).getD 2 wA),true)else(([]:vA),([]:vA),false)else(([]:vA),([]:vA),false)else(([]:vA),([]:vA),false)else(([]:vA),([]:vA),false)
def OF(NA:VA)(pn:vA)(ps:List pA)(k13:Nat):(List vA)→YH (List vA) (List vA) | (x75)=>bif(tC NA pn ((ps.getD k13 zA).Key)).2.2 then .cont ((x75++([(ps.getD k13 zA).Key]:List vA)))else .cont (x75)
def tB(NA:VA)(pn:vA)(ps:List pA):List vA:=ED (UA (OF NA pn ps) (ps.length-0) 0 (([]:List vA))) (fun r=>r) (fun x75=>x75)
def QF(SA:nB)(CE:nB)(OH:Int):Bool:=bif(SA.Vals.getD ((OH).toNat) wA)==(CE.Vals.getD ((OH).toNat) wA)then cJ (SA.Vals.getD 0 wA) (CE.Vals.getD 0 wA)else cJ (SA.Vals.getD ((OH).toNat) wA) (CE.Vals.getD ((OH).toNat) wA)
def PF(rA:VA)(HA:vA)(QB:List pA)(k19:Nat)(x181:List nB):Int×(List nB)→YH (List nB) (Int×(List nB)) | (x241,x242)=>bif decide (0<x241)then bif QF (⟨([(tC rA HA ((tB rA HA QB).getD k19 wA)).2.1,(tC rA HA ((tB rA HA QB).getD k19 wA)).1]:List vA)⟩:nB) (x242.getD ((IntKind.wrap .i64 (x241-1)).toNat) XC) 1 then .cont (IntKind.wrap .i64 (x241-1),(x242.set ((x241).toNat) (x242.getD ((IntKind.wrap .i64 (x241-1)).toNat) XC)))else .brk (x241,x242)else .brk (x241,x242)
def bH(rA:VA)(HA:vA)(QB:List pA)(k19:Nat):(List nB)→YH (List nB) (List nB) | (x181)=>ED (aG (PF rA HA QB k19 x181) ((((x181.length:Int)).toNat)+1) ((x181.length:Int),(x181++([(⟨([(tC rA HA ((tB rA HA QB).getD k19 wA)).2.1,(tC rA HA ((tB rA HA QB).getD k19 wA)).1]:List vA)⟩:nB)]:List nB)))) (fun r=>YH.ret r) (fun(x241,x242)=>.cont ((x242.set ((x241).toNat) (⟨([(tC rA HA ((tB rA HA QB).getD k19 wA)).2.1,(tC rA HA ((tB rA HA QB).getD k19 wA)).1]:List vA)⟩:nB))))
def SB(rA:VA)(HA:vA)(QB:List pA):List nB:=ED (UA (bH rA HA QB) ((tB rA HA QB).length-0) 0 (([]:List nB))) (fun r=>r) (fun x181=>x181)
def iH(rA:VA)(HA:List pA)(QB:iD)(k40:Nat):(List nB)→YH ((List nB)×Bool) (List nB) | (x106)=>bif cJ ((((SB rA QB.Idx HA).getD k40 XC).Vals).getD 1 wA) QB.Low then .cont (x106)else bif dN ((((SB rA QB.Idx HA).getD k40 XC).Vals).getD 1 wA) QB.High then .cont ((x106++(dE rA HA ((((SB rA QB.Idx HA).getD k40 XC).Vals).getD 0 wA))))else .cont (x106)
def HD(rA:VA)(HA:List pA)(QB:iD):(List nB)×Bool:=bif decide (QB.Kind=2)then((dE rA HA QB.Low),true)else bif decide (QB.Kind=3)then bif decide (((rA.Idxs.getD (((IE rA QB.Idx)).toNat) MA).Stage)<3)then(([]:List nB),false)else ED (UA (iH rA HA QB) ((SB rA QB.Idx HA).length-0) 0 (([]:List nB))) (fun r=>r) (fun x106=>(x106,true))else(([]:List nB),false)
def MH(rA:VA)(HA:List pA)(QB:vA)(k63:Nat):(List vA)→YH ((List pA)×vA) (List vA) | (x126)=>.cont ((x126++([(eE (((HD rA HA ((XB rA QB).1)).1).getD k63 XC))]:List vA)))
def CD(rA:VA)(HA:List pA)(QB:vA):(List pA)×vA:=bif(XB rA QB).2 then bif decide (((XB rA QB).1.Kind)=1)then bif(SH HA (bG rA ((XB rA QB).1.Act))).2 then((SH HA (bG rA ((XB rA QB).1.Act))).1,([100,111,110,101]:vA))else((SH HA (bG rA ((XB rA QB).1.Act))).1,([110,111,116]:vA))else bif(HD rA HA ((XB rA QB).1)).2 then bif decide ((((HD rA HA ((XB rA QB).1)).1).length:Int)=0)then(HA,([110,111,110,101]:vA))else ED (UA (MH rA HA QB) (((HD rA HA ((XB rA QB).1)).1).length-0) 0 (([]:List vA))) (fun r=>r) (fun x126=>(HA,(SI x126 ([32]:vA))))else(HA,([99,108,111,115,101,100]:vA))else(HA,([119,104,97,116]:vA))
def cI(NA:VA)(ps:List pA)(AB:List vA)(k44:Nat):(List pA)×(List vA)→YH ((List pA)×(List vA)×Bool) ((List pA)×(List vA)) | (x97,x102)=>.cont ((CD NA x97 (AB.getD k44 wA)).1,(x102++([(CD NA x97 (AB.getD k44 wA)).2]:List vA)))
def FE(NA:VA)(ps:List pA)(AB:List vA):(List pA)×(List vA)×Bool:=bif FB NA then bif fD ps then bif decide (12<(AB.length:Int))then(([]:List pA),([]:List vA),false)else ED (UA (cI NA ps AB) (AB.length-0) 0 ((([]:List pA)++ps),([]:List vA))) (fun r=>r) (fun(x97,x102)=>(x97,x102,true))else(([]:List pA),([]:List vA),false)else(([]:List pA),([]:List vA),false)
def gE(YA:List pA)(GI:pA→Bool)(k7:Nat):Unit→YH Int Unit | ()=>bif GI (YA.getD k7 zA)then .ret (k7:Int)else .cont ()
def rE(YA:List pA)(GI:pA→Bool):Int:=ED (UA (gE YA GI) (YA.length-0) 0 ()) (fun r=>r) (fun _=>-1)
def CF(YA:List pA)(GI:pA→Bool):Bool:=decide (0≤(rE YA GI))
def aE(iL:Int)(sN:Int)(VL:Int):Bool:=bif decide (sN≤iL)then decide (iL≤VL)else false
def kE(CE:Int):Bool:=bif decide (97≤CE)then bif decide (CE≤122)then true else bif decide (48≤CE)then decide (CE≤57)else false else bif decide (48≤CE)then decide (CE≤57)else false
def vE(YA:vA)(rY:Int):Int:=VY YA rY
def KH(YA:vA)(rY:Int):Int:=(vE YA rY)
def YF(YA:vA)(vH:vA)(k3:Nat):Unit→YH Bool Unit | ()=>bif kE ((YA.getD k3 0).toNat:Int)then .cont ()else bif decide ((KH vH ((YA.getD k3 0).toNat:Int))<0)then .ret false else .cont ()
def yJ(YA:vA)(vH:vA):Bool:=ED (UA (YF YA vH) (YA.length-0) 0 ()) (fun r=>r) (fun _=>true)
def wK(YA:vA):Bool:=bif aE (YA.length:Int) 1 12 then(yJ YA ([46,47]:vA))else false
def TE(xF:List vA)(k3:Nat):Unit→YH Bool Unit | ()=>bif wK (xF.getD k3 wA)then bif decide (0<(k3:Int))then bif dN (xF.getD k3 wA) (xF.getD ((IntKind.wrap .i64 ((k3:Int)-1)).toNat) wA)then .ret false else .cont ()else .cont ()else .ret false
def mI(xF:List vA):Bool:=ED (UA (TE xF) (xF.length-0) 0 ()) (fun r=>r) (fun _=>true)
def vI(AB:List pA)(k10:Nat):(List vA)→YH (List vA) (List vA) | (x60)=>.cont ((x60++([(AB.getD k10 zA).Key]:List vA)))
def pI(AB:List pA):List vA:=ED (UA (vI AB) (AB.length-0) 0 (([]:List vA))) (fun r=>r) (fun x60=>x60)
def xK(YA:vA):Bool:=bif decide ((YA.length:Int)≤24)then(yJ YA ([46,45,44,95]:vA))else false
def oH(EE:vA)(jK:Bool):Bool:=bif xK EE then bif jK then !(!(EE==([]:vA)))else !false else false
def DI(DC:pA):Bool:=!(oH DC.Val DC.Gone)
def FH(AB:List pA):Bool:=bif decide ((AB.length:Int)≤24)then bif mI (pI AB)then !(CF AB (fun y0=>DI y0))else false else false
def ML(DC:pA):Bool:=DC.Gone
def IF(jB:List pA):Bool:=bif FH jB then !(CF jB (fun y0=>ML y0))else false
def tF(YA:vA)(WF:Int)(k2:Nat):Unit→YH Bool Unit | ()=>bif decide (((YA.getD k2 0).toNat:Int)<97)then .ret false else bif decide (122<((YA.getD k2 0).toNat:Int))then .ret false else .cont ()
def FD(YA:vA)(WF:Int):Bool:=ED (UA (tF YA WF) (YA.length-0) 0 ()) (fun r=>r) (fun _=>(aE (YA.length:Int) 1 WF))
def HE(YA:List vA)(sQ:vA)(k4:Nat):Unit→YH Int Unit | ()=>bif sQ==(YA.getD k4 wA)then .ret (k4:Int)else .cont ()
def VG(YA:List vA)(sQ:vA):Int:=ED (UA (HE YA sQ) (YA.length-0) 0 ()) (fun r=>r) (fun _=>-1)
def eG(YA:List vA)(sQ:vA):Bool:=decide (0≤(VG YA sQ))
def FG(bJ:Int):Bool:=(aE bJ 0 3)
def sF(rA:VA)(k19:Nat):Unit→YH Bool Unit | ()=>bif FD (rA.Cols.getD k19 wA) 3 then bif eG (rA.Cols.take k19) (rA.Cols.getD k19 wA)then .ret false else .cont ()else .ret false
def ID(rA:VA)(k35:Nat):Unit→YH Bool Unit | ()=>bif FD ((rA.Idxs.getD k35 MA).Name) 1 then bif aE ((rA.Idxs.getD k35 MA).Col) 1 (IntKind.wrap .i64 ((rA.Cols.length:Int)-1))then bif FG ((rA.Idxs.getD k35 MA).Stage)then bif decide (0<(k35:Int))then bif dN ((rA.Idxs.getD k35 MA).Name) ((rA.Idxs.getD ((IntKind.wrap .i64 ((k35:Int)-1)).toNat) MA).Name)then .ret false else .cont ()else .cont ()else .ret false else .ret false else .ret false
def AD(rA:VA):Bool:=bif FD rA.Name 1 then bif aE (rA.Cols.length:Int) 2 4 then bif decide (3<(rA.Idxs.length:Int))then false else ED (UA (sF rA) (rA.Cols.length-0) 0 ()) (fun r=>r) (fun _=>ED (UA (ID rA) (rA.Idxs.length-0) 0 ()) (fun r=>r) (fun _=>true))else false else false
def YC(YA:List pA):List pA:=(([]:List pA)++YA)
def pC(vD:List pA)(JG:vA)(OL:pA→vA→Int):Int×Int→YH (Int×Bool) (Int×Int) | (x9,x10)=>bif decide (x9<x10)then bif decide ((OL (vD.getD ((IntKind.wrap .i64 (Int.fdiv (IntKind.wrap .u64 (IntKind.wrap .i64 (x9+x10))) 2)).toNat) zA) JG)<0)then .cont (IntKind.wrap .i64 ((IntKind.wrap .i64 (Int.fdiv (IntKind.wrap .u64 (IntKind.wrap .i64 (x9+x10))) 2))+1),x10)else .cont (x9,IntKind.wrap .i64 (Int.fdiv (IntKind.wrap .u64 (IntKind.wrap .i64 (x9+x10))) 2))else .brk (x9,x10)
def zC(vD:List pA)(JG:vA)(OL:pA→vA→Int):Int×Bool:=ED (aG (pC vD JG OL) ((((vD.length:Int)-0).toNat)+1) (0,(vD.length:Int))) (fun r=>r) (fun(x9,x10)=>bif decide (x9<(vD.length:Int))then(x9,decide ((OL (vD.getD ((x9).toNat) zA) JG)=0))else(x9,false))
def AF(vD:vA):Bool:=!(vD==vD)
def qC(vD:vA)(PS:vA):Int:=bif AF vD then bif AF PS then 0 else -1 else bif AF PS then 1 else bif cJ vD PS then -1 else bif dN vD PS then 0 else 1
def aJ(DC:pA)(sB:vA):Int:=(qC DC.Key sB)
def RC(AB:List pA)(sB:vA):Int×Bool:=((zC AB sB (fun y0 y1=>aJ y0 y1)).1,(zC AB sB (fun y0 y1=>aJ y0 y1)).2)
def bK(YA:List pA)(PI:Nat)(vD:pA):List pA:=YA.take PI++vD::YA.drop PI
def VH(YA:List pA)(PI:Int)(vD:pA):List pA:=bK YA PI.toNat vD
def aF(AB:List pA)(DC:pA):List pA:=bif(RC AB DC.Key).2 then(AB.set (((RC AB DC.Key).1).toNat) DC)else(VH AB ((RC AB DC.Key).1) DC)
def zH(sB:vA)(PD:List pA)(zD:List ZE)(k12:Nat):Unit→YH (vA×Bool×Bool) Unit | ()=>bif((zD.getD k12 EH).Key)==sB then .ret ((zD.getD k12 EH).Val,(zD.getD k12 EH).There,true)else .cont ()
def ME(sB:vA)(PD:List pA)(zD:List ZE):vA×Bool×Bool:=bif(RC PD sB).2 then((PD.getD (((RC PD sB).1).toNat) zA).Val,!((PD.getD (((RC PD sB).1).toNat) zA).Gone),true)else ED (UA (zH sB PD zD) (zD.length-0) 0 ()) (fun r=>r) (fun _=>(([]:vA),false,false))
def NG(YA:vA):Int×Bool:=match Go.Lib.atoiAll YA with
  | .ok n=>bif aE n (-999999) 999999&&(Go.Lib.itoa n==YA)then(n,true)else(0,false)
  | _=>(0,false)
def BE(XG:qE)(EE:vA)(OE:Bool):Bool:=bif decide (XG.Kind=4)then bif OE then bif(NG EE).2 then(aE (IntKind.wrap .i64 (((NG EE).1)+XG.By)) (-999999) 999999)else false else true else bif decide (XG.Kind=5)then bif OE then bif(NG EE).2 then decide (XG.By≤((NG EE).1))else false else false else bif decide (XG.Kind=6)then !OE else bif decide (XG.Kind=7)then bif OE then EE==XG.Val else false else true
def qO(PI:Int):vA:=[(48+PI).toNat.toUInt8]
def KD(rA:List qE)(HA:List ZE)(k12:Nat):(List pA)→YH (Int×vA×(List pA)) (List pA) | (x86)=>bif decide (((rA.getD k12 EC).Kind)=2)then .cont ((aF x86 (⟨(rA.getD k12 EC).Key,(rA.getD k12 EC).Val,false⟩:pA)))else bif decide (((rA.getD k12 EC).Kind)=3)then .cont ((aF x86 (⟨(rA.getD k12 EC).Key,([]:vA),true⟩:pA)))else bif(ME ((rA.getD k12 EC).Key) x86 HA).2.2 then bif BE (rA.getD k12 EC) ((ME ((rA.getD k12 EC).Key) x86 HA).1) ((ME ((rA.getD k12 EC).Key) x86 HA).2.1)then .cont (x86)else .ret (2,([]:vA),([]:List pA))else .ret (1,(rA.getD k12 EC).Key,([]:List pA))
def GD(rA:List qE)(HA:List ZE):Int×vA×(List pA):=ED (UA (KD rA HA) (rA.length-0) 0 (([]:List pA))) (fun r=>r) (fun x86=>(3,([]:vA),x86))
def lH(jB:List pA)(sB:vA):ZE:=bif(RC jB sB).2 then(⟨sB,(jB.getD (((RC jB sB).1).toNat) zA).Val,true⟩:ZE)else(⟨sB,([]:vA),false⟩:ZE)
def ZG(jB:List pA)(AB:List qE):(List ZE)→YH ((List ZE)×(List pA)×Bool) (List ZE) | (x45)=>bif decide (((GD AB x45).1)=1)then .cont ((x45++([(lH jB ((GD AB x45).2.1))]:List ZE)))else .ret (x45,(GD AB x45).2.2,decide (((GD AB x45).1)=3))
def qF(jB:List pA)(AB:List qE):(List ZE)×(List pA)×Bool:=ED (aG (ZG jB AB) (((AB.filter fun o=>!((([]:List ZE):List ZE).any fun g=>g.Key==o.Key)).length)+1) (([]:List ZE))) (fun r=>r) (fun x45=>(([]:List ZE),([]:List pA),false))
def JD(YA:List pA)(GI:pA→Bool):List pA:=YA.filter fun y=>!GI y
def LI(vD:pA):Bool:=vD.Gone
def sJ(jB:List pA)(DC:List pA)(k12:Nat):(List pA)→YH ((List pA)×Bool) (List pA) | (x48)=>.cont ((aF x48 (DC.getD k12 zA)))
def tH(jB:List pA)(DC:List pA):(List pA)×Bool:=ED (UA (sJ jB DC) (DC.length-0) 0 ((YC jB))) (fun r=>r) (fun x48=>bif decide (24<((JD x48 (fun y0=>LI y0)).length:Int))then(([]:List pA),false)else((JD x48 (fun y0=>LI y0)),true))
def eH(ps:List pA)(oF:List qE):(List pA)×Bool:=bif(qF ps oF).2.2 then bif(tH ps ((qF ps oF).2.1)).2 then((tH ps ((qF ps oF).2.1)).1,true)else((([]:List pA)++ps),false)else((([]:List pA)++ps),false)
def xD(lK:List vA)(JE:vA):vA:=JE.intercalate lK
def LA(NA:VA)(DE:nB):pA:=(⟨(NA.Name++([47]:vA))++(DE.Vals.getD 0 wA),(xD (DE.Vals.drop 1) ([44]:vA)),false⟩:pA)
def VC(NA:VA)(pn:vA):vA:=((NA.Name++([46]:vA))++pn)++([47]:vA)
def tE(YA:List yF)(GI:yF→Bool)(k7:Nat):Unit→YH Int Unit | ()=>bif GI (YA.getD k7 MA)then .ret (k7:Int)else .cont ()
def VF(YA:List yF)(GI:yF→Bool):Int:=ED (UA (tE YA GI) (YA.length-0) 0 ()) (fun r=>r) (fun _=>-1)
def BF(vD:yF)(ZJ:vA):Bool:=vD.Name==ZJ
def xC(NA:VA)(pn:vA):Int:=(VF NA.Idxs (fun y0=>BF y0 pn))
def vC(NA:VA)(pn:vA):yF:=(NA.Idxs.getD (((xC NA pn)).toNat) MA)
def cB(NA:VA)(pn:vA)(DE:nB):vA:=(((VC NA pn)++(DE.Vals.getD (((vC NA pn).Col).toNat) wA))++([47]:vA))++(DE.Vals.getD 0 wA)
def ZK(bJ:Int):Bool:=decide (1≤bJ)
def sI(bJ:Int):Bool:=decide (2≤bJ)
def pB(rA:VA)(HA:MB)(k106:Nat):(List qE)→YH (List qE) (List qE) | (x149)=>bif decide (HA.Kind=1)then bif(cB rA ((rA.Idxs.getD k106 MA).Name) HA.New)==([]:vA)then .cont (x149)else bif sI ((rA.Idxs.getD k106 MA).Stage)then .cont ((x149++([(⟨2,(cB rA ((rA.Idxs.getD k106 MA).Name) HA.New),([]:vA),0⟩:qE)]:List qE)))else .cont (x149)else bif decide (HA.Kind=2)then bif(cB rA ((rA.Idxs.getD k106 MA).Name) HA.Old)==([]:vA)then .cont (x149)else bif ZK ((rA.Idxs.getD k106 MA).Stage)then .cont ((x149++([(⟨3,(cB rA ((rA.Idxs.getD k106 MA).Name) HA.Old),([]:vA),0⟩:qE)]:List qE)))else .cont (x149)else bif(cB rA ((rA.Idxs.getD k106 MA).Name) HA.Old)==([]:vA)then bif(cB rA ((rA.Idxs.getD k106 MA).Name) HA.New)==([]:vA)then .cont (x149)else bif sI ((rA.Idxs.getD k106 MA).Stage)then .cont ((x149++([(⟨2,(cB rA ((rA.Idxs.getD k106 MA).Name) HA.New),([]:vA),0⟩:qE)]:List qE)))else .cont (x149)else bif(cB rA ((rA.Idxs.getD k106 MA).Name) HA.Old)==(cB rA ((rA.Idxs.getD k106 MA).Name) HA.New)then bif(cB rA ((rA.Idxs.getD k106 MA).Name) HA.New)==([]:vA)then .cont (x149)else bif sI ((rA.Idxs.getD k106 MA).Stage)then .cont ((x149++([(⟨2,(cB rA ((rA.Idxs.getD k106 MA).Name) HA.New),([]:vA),0⟩:qE)]:List qE)))else .cont (x149)else bif ZK ((rA.Idxs.getD k106 MA).Stage)then bif(cB rA ((rA.Idxs.getD k106 MA).Name) HA.New)==([]:vA)then .cont ((x149++([(⟨3,(cB rA ((rA.Idxs.getD k106 MA).Name) HA.Old),([]:vA),0⟩:qE)]:List qE)))else bif sI ((rA.Idxs.getD k106 MA).Stage)then .cont (((x149++([(⟨3,(cB rA ((rA.Idxs.getD k106 MA).Name) HA.Old),([]:vA),0⟩:qE)]:List qE))++([(⟨2,(cB rA ((rA.Idxs.getD k106 MA).Name) HA.New),([]:vA),0⟩:qE)]:List qE)))else .cont ((x149++([(⟨3,(cB rA ((rA.Idxs.getD k106 MA).Name) HA.Old),([]:vA),0⟩:qE)]:List qE)))else bif(cB rA ((rA.Idxs.getD k106 MA).Name) HA.New)==([]:vA)then .cont (x149)else bif sI ((rA.Idxs.getD k106 MA).Stage)then .cont ((x149++([(⟨2,(cB rA ((rA.Idxs.getD k106 MA).Name) HA.New),([]:vA),0⟩:qE)]:List qE)))else .cont (x149)
def ZD(rA:VA)(HA:MB):List qE:=bif decide (HA.Kind=1)then ED (UA (pB rA HA) (rA.Idxs.length-0) 0 (((([]:List qE)++([(⟨6,(LA rA HA.New).Key,([]:vA),0⟩:qE)]:List qE))++([(⟨2,(LA rA HA.New).Key,(LA rA HA.New).Val,0⟩:qE)]:List qE)))) (fun r=>r) (fun x149=>x149)else bif decide (HA.Kind=2)then ED (UA (pB rA HA) (rA.Idxs.length-0) 0 (((([]:List qE)++([(⟨7,(LA rA HA.Old).Key,(LA rA HA.Old).Val,0⟩:qE)]:List qE))++([(⟨3,(LA rA HA.Old).Key,([]:vA),0⟩:qE)]:List qE)))) (fun r=>r) (fun x470=>x470)else ED (UA (pB rA HA) (rA.Idxs.length-0) 0 (((([]:List qE)++([(⟨7,(LA rA HA.Old).Key,(LA rA HA.Old).Val,0⟩:qE)]:List qE))++([(⟨2,(LA rA HA.New).Key,(LA rA HA.New).Val,0⟩:qE)]:List qE)))) (fun r=>r) (fun x663=>x663)
def xA(YA:vA)(JE:vA):List vA:=sp (JE.headD 0) YA
def mD(VB:vA):nB:=(⟨(xA VB ([44]:vA))⟩:nB)
def XD(YA:List vA)(GI:vA→Bool)(k7:Nat):Unit→YH Int Unit | ()=>bif GI (YA.getD k7 wA)then .ret (k7:Int)else .cont ()
def SF(YA:List vA)(GI:vA→Bool):Int:=ED (UA (XD YA GI) (YA.length-0) 0 ()) (fun r=>r) (fun _=>-1)
def ZF(YA:List vA)(GI:vA→Bool):Bool:=decide (0≤(SF YA GI))
def sH(YA:vA):Bool:=bif aE (YA.length:Int) 1 3 then(yJ YA ([]:vA))else false
def QI(YA:vA):Bool:=!(sH YA)
def wC(NA:VA)(DE:nB):Bool:=bif decide ((DE.Vals.length:Int)=(NA.Cols.length:Int))then !(ZF DE.Vals (fun y0=>QI y0))else false
def HC(NA:VA)(SA:MB):Bool:=bif decide (SA.Kind=1)then bif decide ((SA.Old.Vals.length:Int)=0)then(wC NA SA.New)else false else bif decide (SA.Kind=2)then bif wC NA SA.Old then decide ((SA.New.Vals.length:Int)=0)else false else bif decide (SA.Kind=3)then bif wC NA SA.Old then bif wC NA SA.New then(SA.Old.Vals.getD 0 wA)==(SA.New.Vals.getD 0 wA)else false else false else false
def JJ(SA:MB):Bool:=bif decide (SA.Kind=0)then bif decide ((SA.Old.Vals.length:Int)=0)then decide ((SA.New.Vals.length:Int)=0)else false else false
def UB(rA:VA)(HA:iD):Bool:=bif decide (HA.Kind=1)then bif HC rA HA.Act then bif HA.Idx==([]:vA)then bif HA.Low==([]:vA)then HA.High==([]:vA)else false else false else false else bif decide (HA.Kind=2)then bif JJ HA.Act then bif HA.Idx==([]:vA)then bif sH HA.Low then HA.High==([]:vA)else false else false else false else bif decide (HA.Kind=3)then bif JJ HA.Act then bif decide (0≤(xC rA HA.Idx))then bif sH HA.Low then(sH HA.High)else false else false else false else false
def BD(DE:nB):vA:=(xD DE.Vals ([44]:vA))
def kC(rA:VA)(HA:iD):vA:=bif decide (HA.Kind=2)then((([103,101,116,32]:vA)++rA.Name)++([32]:vA))++HA.Low else bif decide (HA.Kind=3)then((((((([114,97,110,103,101,32]:vA)++rA.Name)++([32]:vA))++HA.Idx)++([32]:vA))++HA.Low)++([32]:vA))++HA.High else bif decide (HA.Act.Kind=1)then((([105,110,115,101,114,116,32]:vA)++rA.Name)++([32]:vA))++(BD HA.Act.New)else bif decide (HA.Act.Kind=2)then((([100,101,108,101,116,101,32]:vA)++rA.Name)++([32]:vA))++(BD HA.Act.Old)else((((([117,112,100,97,116,101,32]:vA)++rA.Name)++([32]:vA))++(BD HA.Act.Old))++([32,116,111,32]:vA))++(BD HA.Act.New)
def FA(rA:VA)(HA:vA):iD×Bool:=bif decide (((xA HA ([32]:vA)).length:Int)=3)then bif((xA HA ([32]:vA)).getD 0 wA)==([105,110,115,101,114,116]:vA)then bif UB rA (⟨1,(⟨1,(⟨[]⟩:nB),(mD ((xA HA ([32]:vA)).getD 2 wA))⟩:MB),([]:vA),([]:vA),([]:vA)⟩:iD)then bif(kC rA (⟨1,(⟨1,(⟨[]⟩:nB),(mD ((xA HA ([32]:vA)).getD 2 wA))⟩:MB),([]:vA),([]:vA),([]:vA)⟩:iD))==HA then((⟨1,(⟨1,(⟨[]⟩:nB),(mD ((xA HA ([32]:vA)).getD 2 wA))⟩:MB),([]:vA),([]:vA),([]:vA)⟩:iD),true)else((⟨0,(⟨0,(⟨[]⟩:nB),(⟨[]⟩:nB)⟩:MB),([]:vA),([]:vA),([]:vA)⟩:iD),false)else((⟨0,(⟨0,(⟨[]⟩:nB),(⟨[]⟩:nB)⟩:MB),([]:vA),([]:vA),([]:vA)⟩:iD),false)else bif((xA HA ([32]:vA)).getD 0 wA)==([100,101,108,101,116,101]:vA)then bif UB rA (⟨1,(⟨2,(mD ((xA HA ([32]:vA)).getD 2 wA)),(⟨[]⟩:nB)⟩:MB),([]:vA),([]:vA),([]:vA)⟩:iD)then bif(kC rA (⟨1,(⟨2,(mD ((xA HA ([32]:vA)).getD 2 wA)),(⟨[]⟩:nB)⟩:MB),([]:vA),([]:vA),([]:vA)⟩:iD))==HA then((⟨1,(⟨2,(mD ((xA HA ([32]:vA)).getD 2 wA)),(⟨[]⟩:nB)⟩:MB),([]:vA),([]:vA),([]:vA)⟩:iD),true)else((⟨0,(⟨0,(⟨[]⟩:nB),(⟨[]⟩:nB)⟩:MB),([]:vA),([]:vA),([]:vA)⟩:iD),false)else((⟨0,(⟨0,(⟨[]⟩:nB),(⟨[]⟩:nB)⟩:MB),([]:vA),([]:vA),([]:vA)⟩:iD),false)else bif decide (((xA HA ([32]:vA)).length:Int)=5)then bif((xA HA ([32]:vA)).getD 0 wA)==([117,112,100,97,116,101]:vA)then bif UB rA (⟨1,(⟨3,(mD ((xA HA ([32]:vA)).getD 2 wA)),(mD ((xA HA ([32]:vA)).getD 4 wA))⟩:MB),([]:vA),([]:vA),([]:vA)⟩:iD)then bif(kC rA (⟨1,(⟨3,(mD ((xA HA ([32]:vA)).getD 2 wA)),(mD ((xA HA ([32]:vA)).getD 4 wA))⟩:MB),([]:vA),([]:vA),([]:vA)⟩:iD))==HA then((⟨1,(⟨3,(mD ((xA HA ([32]:vA)).getD 2 wA)),(mD ((xA HA ([32]:vA)).getD 4 wA))⟩:MB),([]:vA),([]:vA),([]:vA)⟩:iD),true)else((⟨0,(⟨0,(⟨[]⟩:nB),(⟨[]⟩:nB)⟩:MB),([]:vA),([]:vA),([]:vA)⟩:iD),false)else((⟨0,(⟨0,(⟨[]⟩:nB),(⟨[]⟩:nB)⟩:MB),([]:vA),([]:vA),([]:vA)⟩:iD),false)else bif UB rA (⟨2,(⟨0,(⟨[]⟩:nB),(⟨[]⟩:nB)⟩:MB),([]:vA),((xA HA ([32]:vA)).getD 2 wA),([]:vA)⟩:iD)then bif(kC rA (⟨2,(⟨0,(⟨[]⟩:nB),(⟨[]⟩:nB)⟩:MB),([]:vA),((xA HA ([32]:vA)).getD 2 wA),([]:vA)⟩:iD))==HA then((⟨2,(⟨0,(⟨[]⟩:nB),(⟨[]⟩:nB)⟩:MB),([]:vA),((xA HA ([32]:vA)).getD 2 wA),([]:vA)⟩:iD),true)else((⟨0,(⟨0,(⟨[]⟩:nB),(⟨[]⟩:nB)⟩:MB),([]:vA),([]:vA),([]:vA)⟩:iD),false)else((⟨0,(⟨0,(⟨[]⟩:nB),(⟨[]⟩:nB)⟩:MB),([]:vA),([]:vA),([]:vA)⟩:iD),false)else bif UB rA (⟨2,(⟨0,(⟨[]⟩:nB),(⟨[]⟩:nB)⟩:MB),([]:vA),((xA HA ([32]:vA)).getD 2 wA),([]:vA)⟩:iD)then bif(kC rA (⟨2,(⟨0,(⟨[]⟩:nB),(⟨[]⟩:nB)⟩:MB),([]:vA),((xA HA ([32]:vA)).getD 2 wA),([]:vA)⟩:iD))==HA then((⟨2,(⟨0,(⟨[]⟩:nB),(⟨[]⟩:nB)⟩:MB),([]:vA),((xA HA ([32]:vA)).getD 2 wA),([]:vA)⟩:iD),true)else((⟨0,(⟨0,(⟨[]⟩:nB),(⟨[]⟩:nB)⟩:MB),([]:vA),([]:vA),([]:vA)⟩:iD),false)else((⟨0,(⟨0,(⟨[]⟩:nB),(⟨[]⟩:nB)⟩:MB),([]:vA),([]:vA),([]:vA)⟩:iD),false)else bif decide (((xA HA ([32]:vA)).length:Int)=5)then bif((xA HA ([32]:vA)).getD 0 wA)==([117,112,100,97,116,101]:vA)then bif UB rA (⟨1,(⟨3,(mD ((xA HA ([32]:vA)).getD 2 wA)),(mD ((xA HA ([32]:vA)).getD 4 wA))⟩:MB),([]:vA),([]:vA),([]:vA)⟩:iD)then bif(kC rA (⟨1,(⟨3,(mD ((xA HA ([32]:vA)).getD 2 wA)),(mD ((xA HA ([32]:vA)).getD 4 wA))⟩:MB),([]:vA),([]:vA),([]:vA)⟩:iD))==HA then((⟨1,(⟨3,(mD ((xA HA ([32]:vA)).getD 2 wA)),(mD ((xA HA ([32]:vA)).getD 4 wA))⟩:MB),([]:vA),([]:vA),([]:vA)⟩:iD),true)else((⟨0,(⟨0,(⟨[]⟩:nB),(⟨[]⟩:nB)⟩:MB),([]:vA),([]:vA),([]:vA)⟩:iD),false)else((⟨0,(⟨0,(⟨[]⟩:nB),(⟨[]⟩:nB)⟩:MB),([]:vA),([]:vA),([]:vA)⟩:iD),false)else bif UB rA (⟨3,(⟨0,(⟨[]⟩:nB),(⟨[]⟩:nB)⟩:MB),((xA HA ([32]:vA)).getD 2 wA),((xA HA ([32]:vA)).getD 3 wA),((xA HA ([32]:vA)).getD 4 wA)⟩:iD)then bif(kC rA (⟨3,(⟨0,(⟨[]⟩:nB),(⟨[]⟩:nB)⟩:MB),((xA HA ([32]:vA)).getD 2 wA),((xA HA ([32]:vA)).getD 3 wA),((xA HA ([32]:vA)).getD 4 wA)⟩:iD))==HA then((⟨3,(⟨0,(⟨[]⟩:nB),(⟨[]⟩:nB)⟩:MB),((xA HA ([32]:vA)).getD 2 wA),((xA HA ([32]:vA)).getD 3 wA),((xA HA ([32]:vA)).getD 4 wA)⟩:iD),true)else((⟨0,(⟨0,(⟨[]⟩:nB),(⟨[]⟩:nB)⟩:MB),([]:vA),([]:vA),([]:vA)⟩:iD),false)else((⟨0,(⟨0,(⟨[]⟩:nB),(⟨[]⟩:nB)⟩:MB),([]:vA),([]:vA),([]:vA)⟩:iD),false)else bif UB rA (⟨1,(⟨0,(⟨[]⟩:nB),(⟨[]⟩:nB)⟩:MB),([]:vA),([]:vA),([]:vA)⟩:iD)then bif(kC rA (⟨1,(⟨0,(⟨[]⟩:nB),(⟨[]⟩:nB)⟩:MB),([]:vA),([]:vA),([]:vA)⟩:iD))==HA then((⟨1,(⟨0,(⟨[]⟩:nB),(⟨[]⟩:nB)⟩:MB),([]:vA),([]:vA),([]:vA)⟩:iD),true)else((⟨0,(⟨0,(⟨[]⟩:nB),(⟨[]⟩:nB)⟩:MB),([]:vA),([]:vA),([]:vA)⟩:iD),false)else((⟨0,(⟨0,(⟨[]⟩:nB),(⟨[]⟩:nB)⟩:MB),([]:vA),([]:vA),([]:vA)⟩:iD),false)
def kD(YA:vA)(bE:vA):Bool:=bif decide ((bE.length:Int)≤(YA.length:Int))then(YA.take bE.length)==bE else false
def uD(YA:vA)(bE:vA):vA×Bool:=bif kD YA bE then((YA.drop bE.length),true)else(YA,false)
def qB(YA:vA)(bE:vA):vA×Bool:=((uD YA bE).1,(uD YA bE).2)
def ZI(iL:Int):Int:=IntKind.wrap .i64 (Int.tdiv (IntKind.wrap .i64 (iL+16)) 8)
def BB(rA:vA)(HA:vA):Int:=bif HA==rA then 0 else(vE rA ((HA.getD 0 0).toNat:Int))
def jD(YA:vA)(JE:vA):vA×vA×Bool:=bif decide (0≤(BB YA JE))then((YA.take (((BB YA JE)).toNat)),(YA.drop ((IntKind.wrap .i64 ((BB YA JE)+(JE.length:Int))).toNat)),true)else(YA,([]:vA),false)
def sE(YA:vA)(JE:vA):vA×vA×Bool:=((jD YA JE).1,(jD YA JE).2.1,(jD YA JE).2.2)
def uB(NA:VA)(pn:vA)(sB:vA):vA×vA×Bool:=bif(qB sB (VC NA pn)).2 then bif(sE ((qB sB (VC NA pn)).1) ([47]:vA)).2.2 then bif sH ((sE ((qB sB (VC NA pn)).1) ([47]:vA)).1)then bif sH ((sE ((qB sB (VC NA pn)).1) ([47]:vA)).2.1)then((sE ((qB sB (VC NA pn)).1) ([47]:vA)).1,(sE ((qB sB (VC NA pn)).1) ([47]:vA)).2.1,true)else(([]:vA),([]:vA),false)else(([]:vA),([]:vA),false)else(([]:vA),([]:vA),false)else(([]:vA),([]:vA),false)
def pE(NA:VA)(pn:vA)(ps:List pA)(k20:Nat):(List vA)→YH (List vA) (List vA) | (x82)=>bif(uB NA pn ((ps.getD k20 zA).Key)).2.2 then .cont ((x82++([(ps.getD k20 zA).Key]:List vA)))else .cont (x82)
def lB(NA:VA)(pn:vA)(ps:List pA):List vA:=ED (UA (pE NA pn ps) (ps.length-0) 0 (([]:List vA))) (fun r=>r) (fun x82=>x82)
def bC(NA:VA)(DC:pA):nB×Bool:=bif(qB DC.Key (NA.Name++([47]:vA))).2 then bif wC NA (⟨(([(qB DC.Key (NA.Name++([47]:vA))).1]:List vA)++(xA DC.Val ([44]:vA)))⟩:nB)then bif(DC.Key==((LA NA (⟨(([(qB DC.Key (NA.Name++([47]:vA))).1]:List vA)++(xA DC.Val ([44]:vA)))⟩:nB)).Key))&&((DC.Val==((LA NA (⟨(([(qB DC.Key (NA.Name++([47]:vA))).1]:List vA)++(xA DC.Val ([44]:vA)))⟩:nB)).Val))&&(DC.Gone==((LA NA (⟨(([(qB DC.Key (NA.Name++([47]:vA))).1]:List vA)++(xA DC.Val ([44]:vA)))⟩:nB)).Gone)))then((⟨(([(qB DC.Key (NA.Name++([47]:vA))).1]:List vA)++(xA DC.Val ([44]:vA)))⟩:nB),true)else((⟨[]⟩:nB),false)else((⟨[]⟩:nB),false)else((⟨[]⟩:nB),false)
def iF(NA:VA)(ps:List pA)(k19:Nat):(List nB)→YH (List nB) (List nB) | (x101)=>bif(bC NA (ps.getD k19 zA)).2 then .cont ((x101++([(bC NA (ps.getD k19 zA)).1]:List nB)))else .cont (x101)
def OD(NA:VA)(ps:List pA):List nB:=ED (UA (iF NA ps) (ps.length-0) 0 (([]:List nB))) (fun r=>r) (fun x101=>x101)
def uE(YA:List nB)(GI:nB→Bool)(k8:Nat):Unit→YH Int Unit | ()=>bif GI (YA.getD k8 XC)then .ret (k8:Int)else .cont ()
def TD(YA:List nB)(GI:nB→Bool):Int:=ED (UA (uE YA GI) (YA.length-0) 0 ()) (fun r=>r) (fun _=>-1)
def uF(DE:nB)(ZJ:vA):Bool:=(DE.Vals.getD 0 wA)==ZJ
def dD(NA:VA)(ps:List pA)(oG:vA):nB×Bool:=bif decide ((TD (OD NA ps) (fun y0=>uF y0 oG))<0)then((⟨[]⟩:nB),false)else(((OD NA ps).getD (((TD (OD NA ps) (fun y0=>uF y0 oG))).toNat) XC),true)
def cS(x y:vA):Int:=bif cJ x y then -1 else bif dN x y then 0 else 1
def cE(x y:QE):Int:=bif decide (cS x.val y.val=0)then cS x.primary y.primary else cS x.val y.val
def TB(YA:List QE):List QE:=YA.mergeSort fun x y=>!decide (cE y x<0)
def DG(PG:List Int)(k3:Nat):Unit→YH Int Unit | ()=>bif decide ((PG.getD k3 jT)=0)then .cont ()else .ret (PG.getD k3 jT)
def vK(PG:List Int):Int:=ED (UA (DG PG) (PG.length-0) 0 ()) (fun r=>r) (fun _=>0)
def BK(SA:QE)(CE:QE):Int:=(vK ([(qC SA.val CE.val),(qC SA.primary CE.primary)]:List Int))
def AE(rA:VA)(HA:List pA)(QB:iD)(k78:Nat):(List QE)→YH ((List nB)×Bool) (List QE) | (x103)=>bif cJ ((uB rA QB.Idx ((lB rA QB.Idx HA).getD k78 wA)).1) QB.Low then .cont (x103)else bif dN ((uB rA QB.Idx ((lB rA QB.Idx HA).getD k78 wA)).1) QB.High then .cont ((x103++([(⟨(uB rA QB.Idx ((lB rA QB.Idx HA).getD k78 wA)).1,(uB rA QB.Idx ((lB rA QB.Idx HA).getD k78 wA)).2.1⟩:QE)]:List QE)))else .cont (x103)
def bF(rA:VA)(HA:List pA)(QB:iD)(x103:List QE)(k135:Nat):(List nB)→YH ((List nB)×Bool) (List nB) | (x219)=>bif(dD rA HA (((TB x103).getD k135 CJ).primary)).2 then .cont ((x219++([(dD rA HA (((TB x103).getD k135 CJ).primary)).1]:List nB)))else .cont (x219)
def IB(rA:VA)(HA:List pA)(QB:iD):(List nB)×Bool:=bif decide (QB.Kind=2)then bif(dD rA HA QB.Low).2 then((([]:List nB)++([(dD rA HA QB.Low).1]:List nB)),true)else(([]:List nB),true)else bif decide (QB.Kind=3)then bif decide (((vC rA QB.Idx).Stage)=3)then ED (UA (AE rA HA QB) ((lB rA QB.Idx HA).length-0) 0 (([]:List QE))) (fun r=>r) (fun x103=>ED (UA (bF rA HA QB x103) (x103.length-0) 0 (([]:List nB))) (fun r=>r) (fun x219=>(x219,true)))else(([]:List nB),false)else(([]:List nB),false)
def qG(rA:VA)(HA:List pA)(QB:vA)(k69:Nat):(List vA)→YH ((List pA)×vA) (List vA) | (x139)=>.cont ((x139++([(BD (((IB rA HA ((FA rA QB).1)).1).getD k69 XC))]:List vA)))
def LC(rA:VA)(HA:List pA)(QB:vA):(List pA)×vA:=bif(FA rA QB).2 then bif decide (((FA rA QB).1.Kind)=1)then bif(eH HA (ZD rA ((FA rA QB).1.Act))).2 then((eH HA (ZD rA ((FA rA QB).1.Act))).1,([100,111,110,101]:vA))else((eH HA (ZD rA ((FA rA QB).1.Act))).1,([110,111,116]:vA))else bif(IB rA HA ((FA rA QB).1)).2 then bif decide ((((IB rA HA ((FA rA QB).1)).1).length:Int)=0)then(HA,([110,111,110,101]:vA))else ED (UA (qG rA HA QB) (((IB rA HA ((FA rA QB).1)).1).length-0) 0 (([]:List vA))) (fun r=>r) (fun x139=>(HA,(xD x139 ([32]:vA))))else(HA,([99,108,111,115,101,100]:vA))else(HA,([119,104,97,116]:vA))
def NI(NA:VA)(ps:List pA)(AB:List vA)(k37:Nat):(List pA)×(List vA)→YH ((List pA)×(List vA)×Bool) ((List pA)×(List vA)) | (x92,x97)=>.cont ((LC NA x92 (AB.getD k37 wA)).1,(x97++([(LC NA x92 (AB.getD k37 wA)).2]:List vA)))
def iC(NA:VA)(ps:List pA)(AB:List vA):(List pA)×(List vA)×Bool:=bif AD NA then bif IF ps then bif decide (12<(AB.length:Int))then(([]:List pA),([]:List vA),false)else ED (UA (NI NA ps AB) (AB.length-0) 0 ((YC ps),([]:List vA))) (fun r=>r) (fun(x92,x97)=>(x92,x97,true))else(([]:List pA),([]:List vA),false)else(([]:List pA),([]:List vA),false)
def wF(SA:List vA)(nG:Int)(k2:Nat):Int→YH Int Int | (x3)=>bif(SA.getD k2 wA)==(BC x3)then .cont (IntKind.wrap .i64 (x3+1))else .ret (-1)
def dF(SA:List vA)(nG:Int):Int:=ED (UA (wF SA nG) (SA.length-0) 0 (nG)) (fun r=>r) (fun x3=>x3)
def IC(rA:VA)(HA:List pA)(QB:List vA):Bool:=bif decide ((vF rA 1048576)<0)then true else bif decide ((xG HA (vF rA 1048576))<0)then true else bif decide ((eF QB (xG HA (vF rA 1048576)))<0)then true else bif EI ((iC rA HA QB).1) ((FE rA HA QB).1)then bif TG ((iC rA HA QB).2.1) ((FE rA HA QB).2.1)then bif((iC rA HA QB).2.2)==((FE rA HA QB).2.2)then bif ZH rA rA then bif EI HA HA then bif TG QB QB then bif decide (((lD QB ((CC HA ((YE rA 1).1)).1)).1)<0)then false else bif decide ((nE ((CC ((iC rA HA QB).1) 1).2) 1)<0)then false else bif decide ((dF ((lD ((iC rA HA QB).2.1) ((CC ((iC rA HA QB).1) 1).1)).2) (nE ((CC ((iC rA HA QB).1) 1).2) 1))<0)then false else bif decide ((dF ((lD ((iC rA HA QB).2.1) ((CC ((iC rA HA QB).1) 1).1)).2) (nE ((CC ((iC rA HA QB).1) 1).2) 1))=((lD ((iC rA HA QB).2.1) ((CC ((iC rA HA QB).1) 1).1)).1))then true else false else false else false else false else false else false else false
def nI(NA:VA)(pn:vA):Bool:=bif AD NA then decide (0≤(xC NA pn))else false
def NO(NA:VA)(DE:nB):Bool:=bif FB NA then(sD NA DE)else false
def WG(NA:VA)(DE:nB):Bool:=bif AD NA then(wC NA DE)else false
def CL(NA:VA)(pn:vA):yF×Bool:=bif FB NA then bif decide ((IE NA pn)<0)then((⟨([]:vA),0,0⟩:yF),false)else((NA.Idxs.getD (((IE NA pn)).toNat) MA),true)else((⟨([]:vA),0,0⟩:yF),false)
def zL(NA:VA)(SA:MB):Bool:=bif FB NA then(EF NA SA)else false
def hJ(NA:VA)(SA:MB):Bool:=bif AD NA then(HC NA SA)else false
def VN(SA:List yF)(nG:Int)(k2:Nat):Int→YH Int Int | (x3)=>bif((SA.getD k2 MA).Name)==(BC x3)then bif decide (((SA.getD k2 MA).Col)=(IntKind.wrap .i64 (x3+1)))then bif decide (((SA.getD k2 MA).Stage)=(IntKind.wrap .i64 ((IntKind.wrap .i64 (x3+1))+1)))then .cont (IntKind.wrap .i64 ((IntKind.wrap .i64 ((IntKind.wrap .i64 (x3+1))+1))+1))else .ret (-1)else .ret (-1)else .ret (-1)
def zM(SA:List yF)(nG:Int):Int:=ED (UA (VN SA nG) (SA.length-0) 0 (nG)) (fun r=>r) (fun x3=>x3)
def vO(SA:VA)(nG:Int):Int:=bif decide ((dF SA.Cols nG)<0)then -1 else bif decide ((zM SA.Idxs (dF SA.Cols nG))<0)then -1 else(zM SA.Idxs (dF SA.Cols nG))
def vP(NA:VA)(DE:nB):pA×Bool:=bif WG NA DE then((LA NA DE),true)else((⟨([]:vA),([]:vA),false⟩:pA),false)
def QG(NA:VA)(YA:iD):Bool:=bif FB NA then(nD NA YA)else false
def CI(NA:VA)(YA:iD):Bool:=bif AD NA then(UB NA YA)else false
def KP(NA:VA)(pn:vA)(sB:vA):vA×vA×Bool:=bif nI NA pn then((uB NA pn sB).1,(uB NA pn sB).2.1,(uB NA pn sB).2.2)else(([]:vA),([]:vA),false)
def oN(NA:VA)(DC:pA):nB×Bool:=bif AD NA then((bC NA DC).1,(bC NA DC).2)else((⟨[]⟩:nB),false)
end Go.Proofs.YtoimdjojffkefaaGreatDoor
