/- Fn Put Back: the plain forms of the values, and plain models of the functions. -/
import Derived.Test.YtikkoidgamlgnaaE35
set_option linter.unusedVariables false
set_option linter.unusedSimpArgs false
namespace Go.Proofs.Ytikkoidgamlgnaa
open Go.RowKit Go.X
structure FA where
 Key:tB
 Val:tB
 Gone:Bool
def bA:FA:=⟨[],[],false⟩
def LL(x:FA):Prop:=IM x.Key∧IM x.Val
def LC(x:FA):Prop:=MF x.Key∧MF x.Val
theorem cE:LC bA:=⟨yE,yE⟩
def gC(x:FA):List Value:=[.string (bs x.Key),.string (bs x.Val),.bool x.Gone]
theorem gW:Gd (RF gC):=RF.good fun _=>rfl
structure iE where
 Time:Int
 Rows:List FA
def PM:iE:=⟨0,[]⟩
def wN(x:iE):Prop:=BK x.Time∧(YM LL) x.Rows
def xG(x:iE):Prop:=(ME LC) x.Rows
theorem jN:xG PM:=ID _
def dL:KF iE:=fun w S cs x=>∃A1 c1,cs=[.int .i64 x.Time,.slice A1 x.Rows.length c1]∧kC w S (RF gC) 3 A1 x.Rows.length c1 x.Rows
def mK:rF iE:=fun w l h cs x=>∃A1 c1 lo1 hi1,cs=[.int .i64 x.Time,.slice A1 x.Rows.length c1]∧WA w lo1 hi1 57 3 (RF gC) A1 x.Rows.length c1 x.Rows∧(l≤lo1∧lo1≤hi1∧hi1≤h)
theorem eN:Gd dL:=⟨fun⟨A1,c1,he,h0⟩ hk=>⟨A1,c1,he,kC.keep gW h0 hk⟩,fun⟨A1,c1,he,h0⟩ hw=>⟨A1,c1,he,kC.wide gW h0 hw⟩,fun⟨A1,c1,he,h0⟩=>by rw[he];rfl⟩
theorem SM:oG mK dL:=⟨fun⟨A1,c1,lo1,hi1,he,h1,r0⟩ hk=>⟨A1,c1,lo1,hi1,he,WA.keep gW h1 (fun b b1 b2 b3=>hk b oM oM b3),r0⟩,fun⟨A1,c1,lo1,hi1,he,h1,r0⟩=>by rw[he];rfl,fun⟨A1,c1,lo1,hi1,he,h1,r0⟩=>⟨A1,c1,he,kC.wide gW (WA.rdI gW h1) (fun b hb _=>⟨by have:=hb.1;omega,by have:=hb.2;omega⟩)⟩⟩
theorem pN{w:World}{l h:Nat}{z0:Int}{lo1 hi1 n1 c1:Nat}{A1:Option Addr}{y1:List FA}(h1:WA w lo1 hi1 57 3 (RF gC) A1 n1 c1 y1)(r0:(l≤lo1∧lo1≤hi1∧hi1≤h)):mK w l h [.int .i64 z0,.slice A1 n1 c1] ⟨z0,y1⟩:=by
 obtain rfl:=h1.1
 exact⟨A1,c1,lo1,hi1,rfl,h1,r0⟩
structure VA where
 Time:Int
 Val:tB
 Gone:Bool
def rA:VA:=⟨0,[],false⟩
def ZM(x:VA):Prop:=BK x.Time∧IM x.Val
def aH(x:VA):Prop:=MF x.Val
theorem oF:aH rA:=yE
def oD(x:VA):List Value:=[.int .i64 x.Time,.string (bs x.Val),.bool x.Gone]
theorem NA:Gd (RF oD):=RF.good fun _=>rfl
structure tA where
 Key:tB
 Vers:List VA
def iA:tA:=⟨[],[]⟩
def vN(x:tA):Prop:=IM x.Key∧(YM ZM) x.Vers
def CC(x:tA):Prop:=MF x.Key∧(ME aH) x.Vers
theorem rC:CC iA:=⟨yE,ID _⟩
def CE:KF tA:=fun w S cs x=>∃A1 c1,cs=[.string (bs x.Key),.slice A1 x.Vers.length c1]∧kC w S (RF oD) 3 A1 x.Vers.length c1 x.Vers
def TC:rF tA:=fun w l h cs x=>∃A1 c1 lo1 hi1,cs=[.string (bs x.Key),.slice A1 x.Vers.length c1]∧WA w lo1 hi1 73 3 (RF oD) A1 x.Vers.length c1 x.Vers∧(l≤lo1∧lo1≤hi1∧hi1≤h)
theorem BA:Gd CE:=⟨fun⟨A1,c1,he,h0⟩ hk=>⟨A1,c1,he,kC.keep NA h0 hk⟩,fun⟨A1,c1,he,h0⟩ hw=>⟨A1,c1,he,kC.wide NA h0 hw⟩,fun⟨A1,c1,he,h0⟩=>by rw[he];rfl⟩
theorem DA:oG TC CE:=⟨fun⟨A1,c1,lo1,hi1,he,h1,r0⟩ hk=>⟨A1,c1,lo1,hi1,he,WA.keep NA h1 (fun b b1 b2 b3=>hk b oM oM b3),r0⟩,fun⟨A1,c1,lo1,hi1,he,h1,r0⟩=>by rw[he];rfl,fun⟨A1,c1,lo1,hi1,he,h1,r0⟩=>⟨A1,c1,he,kC.wide NA (WA.rdI NA h1) (fun b hb _=>⟨by have:=hb.1;omega,by have:=hb.2;omega⟩)⟩⟩
theorem nF{w:World}{l h:Nat}{z0:tB}{lo1 hi1 n1 c1:Nat}{A1:Option Addr}{y1:List VA}(h1:WA w lo1 hi1 73 3 (RF oD) A1 n1 c1 y1)(r0:(l≤lo1∧lo1≤hi1∧hi1≤h)):TC w l h [.string (bs z0),.slice A1 n1 c1] ⟨z0,y1⟩:=by
 obtain rfl:=h1.1
 exact⟨A1,c1,lo1,hi1,rfl,h1,r0⟩
structure XH where
 code:List Int
 at_:Int
 seed:Int
def dM:XH:=⟨[],0,0⟩
def tN(x:XH):Prop:=(YM BK) x.code∧BK x.at_∧BK x.seed
def wL(x:XH):Prop:=(ME zK) x.code
theorem XM:wL dM:=ID _
def oK:KF XH:=fun w S cs x=>∃A1 c1,cs=[.slice A1 x.code.length c1,.int .i64 x.at_,.int .u64 x.seed]∧kC w S (RF CF) 1 A1 x.code.length c1 x.code
def pJ:rF XH:=fun w l h cs x=>∃A1 c1 lo1 hi1,cs=[.slice A1 x.code.length c1,.int .i64 x.at_,.int .u64 x.seed]∧WA w lo1 hi1 5 1 (RF CF) A1 x.code.length c1 x.code∧(l≤lo1∧lo1≤hi1∧hi1≤h)
theorem UM:Gd oK:=⟨fun⟨A1,c1,he,h0⟩ hk=>⟨A1,c1,he,kC.keep gU h0 hk⟩,fun⟨A1,c1,he,h0⟩ hw=>⟨A1,c1,he,kC.wide gU h0 hw⟩,fun⟨A1,c1,he,h0⟩=>by rw[he];rfl⟩
theorem FM:oG pJ oK:=⟨fun⟨A1,c1,lo1,hi1,he,h1,r0⟩ hk=>⟨A1,c1,lo1,hi1,he,WA.keep gU h1 (fun b b1 b2 b3=>hk b oM oM b3),r0⟩,fun⟨A1,c1,lo1,hi1,he,h1,r0⟩=>by rw[he];rfl,fun⟨A1,c1,lo1,hi1,he,h1,r0⟩=>⟨A1,c1,he,kC.wide gU (WA.rdI gU h1) (fun b hb _=>⟨by have:=hb.1;omega,by have:=hb.2;omega⟩)⟩⟩
theorem gN{w:World}{l h:Nat}{lo1 hi1 n1 c1:Nat}{A1:Option Addr}{y1:List Int}{z1:Int}{z2:Int}(h1:WA w lo1 hi1 5 1 (RF CF) A1 n1 c1 y1)(r0:(l≤lo1∧lo1≤hi1∧hi1≤h)):pJ w l h [.slice A1 n1 c1,.int .i64 z1,.int .u64 z2] ⟨y1,z1,z2⟩:=by
 obtain rfl:=h1.1
 exact⟨A1,c1,lo1,hi1,rfl,h1,r0⟩
structure JF where
 Time:Int
 Group:Int
 Key:tB
 Val:tB
 Gone:Bool
def XJ:JF:=⟨0,0,[],[],false⟩
def GJ(x:JF):Prop:=BK x.Time∧BK x.Group∧IM x.Key∧IM x.Val
def NH(x:JF):Prop:=MF x.Key∧MF x.Val
theorem UL:NH XJ:=⟨yE,yE⟩
def vG(x:JF):List Value:=[.int .i64 x.Time,.int .i64 x.Group,.string (bs x.Key),.string (bs x.Val),.bool x.Gone]
theorem YE:Gd (RF vG):=RF.good fun _=>rfl
structure nG where
 x:Int
 y:Int
 signed:Bool
 code:Int
def TL:nG:=⟨0,0,false,0⟩
def KL(x:nG):Prop:=BK x.x∧BK x.y∧BK x.code
def HI(x:nG):List Value:=[.int .i64 x.x,.int .i64 x.y,.bool x.signed,.int .u8 x.code]
theorem NK:Gd (RF HI):=RF.good fun _=>rfl
structure eE where
 msg:tB
 addr:Int
def FG:eE:=⟨[],0⟩
def nJ(x:eE):Prop:=IM x.msg∧BK x.addr
def BG(x:eE):Prop:=MF x.msg
theorem XI:BG FG:=yE
def IG(x:eE):List Value:=[.string (bs x.msg),.int .u64 x.addr]
theorem TI:Gd (RF IG):=RF.good fun _=>rfl
structure oJ where
 From:Int
 To:Int
 List:List JF
def QM:oJ:=⟨0,0,[]⟩
def xN(x:oJ):Prop:=BK x.From∧BK x.To∧(YM GJ) x.List
def iM(x:oJ):Prop:=(ME NH) x.List
theorem kN:iM QM:=ID _
def eL:KF oJ:=fun w S cs x=>∃A1 c1,cs=[.int .i64 x.From,.int .i64 x.To,.slice A1 x.List.length c1]∧kC w S (RF vG) 5 A1 x.List.length c1 x.List
def nK:rF oJ:=fun w l h cs x=>∃A1 c1 lo1 hi1,cs=[.int .i64 x.From,.int .i64 x.To,.slice A1 x.List.length c1]∧WA w lo1 hi1 67 5 (RF vG) A1 x.List.length c1 x.List∧(l≤lo1∧lo1≤hi1∧hi1≤h)
theorem fN:Gd eL:=⟨fun⟨A1,c1,he,h0⟩ hk=>⟨A1,c1,he,kC.keep YE h0 hk⟩,fun⟨A1,c1,he,h0⟩ hw=>⟨A1,c1,he,kC.wide YE h0 hw⟩,fun⟨A1,c1,he,h0⟩=>by rw[he];rfl⟩
theorem TM:oG nK eL:=⟨fun⟨A1,c1,lo1,hi1,he,h1,r0⟩ hk=>⟨A1,c1,lo1,hi1,he,WA.keep YE h1 (fun b b1 b2 b3=>hk b oM oM b3),r0⟩,fun⟨A1,c1,lo1,hi1,he,h1,r0⟩=>by rw[he];rfl,fun⟨A1,c1,lo1,hi1,he,h1,r0⟩=>⟨A1,c1,he,kC.wide YE (WA.rdI YE h1) (fun b hb _=>⟨by have:=hb.1;omega,by have:=hb.2;omega⟩)⟩⟩
theorem qN{w:World}{l h:Nat}{z0:Int}{z1:Int}{lo1 hi1 n1 c1:Nat}{A1:Option Addr}{y1:List JF}(h1:WA w lo1 hi1 67 5 (RF vG) A1 n1 c1 y1)(r0:(l≤lo1∧lo1≤hi1∧hi1≤h)):nK w l h [.int .i64 z0,.int .i64 z1,.slice A1 n1 c1] ⟨z0,z1,y1⟩:=by
 obtain rfl:=h1.1
 exact⟨A1,c1,lo1,hi1,rfl,h1,r0⟩
structure VH where
 b:tB
 at_:Int
 failed:Bool
def mL:VH:=⟨[],0,false⟩
def mN(x:VH):Prop:=IM x.b∧BK x.at_
def RK(x:VH):Prop:=MF x.b
theorem HM:RK mL:=yE
def oL(x:VH):List Value:=[.string (bs x.b),.int .i64 x.at_,.bool x.failed]
theorem GM:Gd (RF oL):=RF.good fun _=>rfl
def MG(IB:List Int):Bool:=decide (65536<(IB.length:Int))
def CD(jF:List FA)(UE:List FA)(k6:Nat):Unit→wF Bool Unit | ()=>bif(((jF.getD k6 bA).Key)==((UE.getD k6 bA).Key))&&((((jF.getD k6 bA).Val)==((UE.getD k6 bA).Val))&&(((jF.getD k6 bA).Gone)==((UE.getD k6 bA).Gone)))then .cont ()else .ret false
def JE(jF:List FA)(UE:List FA):Bool:=bif decide ((jF.length:Int)=(UE.length:Int))then KC (IA (CD jF UE) (jF.length-0) 0 ()) (fun r=>r) (fun _=>true)else false
def mF(jF:iE)(UE:iE):Bool:=bif decide (jF.Time=UE.Time)then(JE jF.Rows UE.Rows)else false
def BB(pC:List Int)(cA:Int×Int):Int×(Int×Int):=bif decide (cA.1<(pC.length:Int))then bif decide ((IntKind.wrap .i64 (cA.1+1))≤(pC.length:Int))then(IntKind.wrap .i64 (pC.getD ((cA.1).toNat) GG),(IntKind.wrap .i64 (cA.1+1),IntKind.wrap .u64 ((IntKind.wrap .u64 ((IntKind.wrap .u64 (cA.2*6364136223846793005))+(IntKind.wrap .u64 (IntKind.wrap .i64 (pC.getD ((cA.1).toNat) GG)))))+1442695040888963407)))else(IntKind.wrap .i64 (TH .u64 (Int.fdiv (IntKind.wrap .u64 ((IntKind.wrap .u64 ((IntKind.wrap .u64 (cA.2*6364136223846793005))+(IntKind.wrap .u64 (IntKind.wrap .i64 (pC.getD ((cA.1).toNat) GG)))))+1442695040888963407)) 1099511627776) 255),(IntKind.wrap .i64 (cA.1+1),IntKind.wrap .u64 ((IntKind.wrap .u64 ((IntKind.wrap .u64 (cA.2*6364136223846793005))+(IntKind.wrap .u64 (IntKind.wrap .i64 (pC.getD ((cA.1).toNat) GG)))))+1442695040888963407)))else bif decide ((IntKind.wrap .i64 (cA.1+1))≤(pC.length:Int))then(0,(IntKind.wrap .i64 (cA.1+1),IntKind.wrap .u64 ((IntKind.wrap .u64 ((IntKind.wrap .u64 (cA.2*6364136223846793005))+(IntKind.wrap .u64 0)))+1442695040888963407)))else(IntKind.wrap .i64 (TH .u64 (Int.fdiv (IntKind.wrap .u64 ((IntKind.wrap .u64 ((IntKind.wrap .u64 (cA.2*6364136223846793005))+(IntKind.wrap .u64 0)))+1442695040888963407)) 1099511627776) 255),(IntKind.wrap .i64 (cA.1+1),IntKind.wrap .u64 ((IntKind.wrap .u64 ((IntKind.wrap .u64 (cA.2*6364136223846793005))+(IntKind.wrap .u64 0)))+1442695040888963407)))
def lA(pC:List Int)(cA:Int×Int)(WE:Int):Int×(Int×Int):=bif decide (WE≤1)then(0,cA)else bif decide (200<WE)then(Int.tmod (IntKind.wrap .i64 ((IntKind.wrap .i64 (((BB pC cA).1)*256))+((BB pC ((BB pC cA).2)).1))) WE,((BB pC ((BB pC cA).2)).2))else(Int.tmod ((BB pC cA).1) WE,((BB pC cA).2))
def pF(WE:Int)(gK:Int)(TK:Int):Bool:=bif decide (gK≤WE)then decide (WE≤TK)else false
def GA(dB:tB)(oA:tB)(k3:Nat)(k6:Nat):Bool→wF Bool Bool | (x7)=>bif x7 then .cont (true)else .cont (decide (((dB.getD k3 0).toNat:Int)=((oA.getD k6 0).toNat:Int)))
def TA(dB:tB)(oA:tB)(k3:Nat):Unit→wF Bool Unit | ()=>bif decide (97≤((dB.getD k3 0).toNat:Int))then bif decide (((dB.getD k3 0).toNat:Int)≤122)then KC (IA (GA dB oA k3) (oA.length-0) 0 (true)) (fun r=>wF.ret r) (fun x7=>bif x7 then .cont ()else .ret false)else bif decide (48≤((dB.getD k3 0).toNat:Int))then KC (IA (GA dB oA k3) (oA.length-0) 0 (decide (((dB.getD k3 0).toNat:Int)≤57))) (fun r=>wF.ret r) (fun x12=>bif x12 then .cont ()else .ret false)else KC (IA (GA dB oA k3) (oA.length-0) 0 (false)) (fun r=>wF.ret r) (fun x15=>bif x15 then .cont ()else .ret false)else bif decide (48≤((dB.getD k3 0).toNat:Int))then KC (IA (GA dB oA k3) (oA.length-0) 0 (decide (((dB.getD k3 0).toNat:Int)≤57))) (fun r=>wF.ret r) (fun x19=>bif x19 then .cont ()else .ret false)else KC (IA (GA dB oA k3) (oA.length-0) 0 (false)) (fun r=>wF.ret r) (fun x22=>bif x22 then .cont ()else .ret false)
def ZC(dB:tB)(oA:tB):Bool:=KC (IA (TA dB oA) (dB.length-0) 0 ()) (fun r=>r) (fun _=>true)
def lC(dB:tB):Bool:=bif pF (dB.length:Int) 1 12 then(ZC dB ([46,47]:tB))else false
def KE(dB:tB):Bool:=bif decide ((dB.length:Int)≤24)then(ZC dB ([46,45,44,95]:tB))else false
def xB(mB:tB)(nE:tB)(FE:Bool):Bool:=bif lC mB then bif KE nE then bif FE then nE==([]:tB)else true else false else false
def qD(ZI:Int):Bool:=(pF ZI 1 100000)
def SB(cA:tA)(k9:Nat):Unit→wF Bool Unit | ()=>bif qD ((cA.Vers.getD k9 rA).Time)then bif xB cA.Key ((cA.Vers.getD k9 rA).Val) ((cA.Vers.getD k9 rA).Gone)then bif decide (0<(k9:Int))then bif decide (((cA.Vers.getD k9 rA).Time)≤((cA.Vers.getD ((IntKind.wrap .i64 ((k9:Int)-1)).toNat) rA).Time))then .ret false else .cont ()else .cont ()else .ret false else .ret false
def PB(cA:tA):Bool:=KC (IA (SB cA) (cA.Vers.length-0) 0 ()) (fun r=>r) (fun _=>bif lC cA.Key then(pF (cA.Vers.length:Int) 1 16)else false)
def tC(CA:List tA)(k3:Nat):Unit→wF Bool Unit | ()=>bif PB (CA.getD k3 iA)then bif decide (0<(k3:Int))then bif SG ((CA.getD ((IntKind.wrap .i64 ((k3:Int)-1)).toNat) iA).Key) ((CA.getD k3 iA).Key)then .cont ()else .ret false else .cont ()else .ret false
def SC(CA:List tA):Bool:=KC (IA (tC CA) (CA.length-0) 0 ()) (fun r=>r) (fun _=>decide ((CA.length:Int)≤24))
def NE(CA:List tA)(k3:Nat):(List tA)→wF (List tA) (List tA) | (x63)=>.cont ((x63++([(⟨(CA.getD k3 iA).Key,(([]:List VA)++(CA.getD k3 iA).Vers)⟩:tA)]:List tA)))
def fE(CA:List tA):List tA:=KC (IA (NE CA) (CA.length-0) 0 (([]:List tA))) (fun r=>r) (fun x63=>x63)
def ZD(CA:List tA)(mB:tB)(k4:Nat):Unit→wF Int Unit | ()=>bif((CA.getD k4 iA).Key)==mB then .ret (k4:Int)else .cont ()
def BD(CA:List tA)(mB:tB):Int:=KC (IA (ZD CA mB) (CA.length-0) 0 ()) (fun r=>r) (fun _=>-1)
def qF(CA:List tA)(mB:tB):Int:=bif decide ((BD CA mB)<0)then 0 else(((CA.getD (((BD CA mB)).toNat) iA).Vers).getD ((IntKind.wrap .i64 ((((CA.getD (((BD CA mB)).toNat) iA).Vers).length:Int)-1)).toNat) rA).Time
def VC(vC:List tA)(uB:List FA)(RD:Int)(k12:Nat)(x92:List tA):Int→wF ((List tA)×Bool) Int | (x116)=>bif decide (0<x116)then bif XK ((x92.getD ((IntKind.wrap .i64 (x116-1)).toNat) iA).Key) ((uB.getD k12 bA).Key)then .brk (x116)else .cont (IntKind.wrap .i64 (x116-1))else .brk (x116)
def EC(vC:List tA)(uB:List FA)(RD:Int)(k12:Nat):(List tA)→wF ((List tA)×Bool) (List tA) | (x92)=>KC (MD (VC vC uB RD k12 x92) ((((x92.length:Int)).toNat)+1) ((x92.length:Int))) (fun r=>wF.ret r) (fun x116=>bif decide (0<x116)then bif((x92.getD ((IntKind.wrap .i64 (x116-1)).toNat) iA).Key)==((uB.getD k12 bA).Key)then bif decide (RD≤(qF x92 ((uB.getD k12 bA).Key)))then .ret (([]:List tA),false)else .cont ((x92.set ((IntKind.wrap .i64 (x116-1)).toNat) (⟨(x92.getD ((IntKind.wrap .i64 (x116-1)).toNat) iA).Key,((x92.getD ((IntKind.wrap .i64 (x116-1)).toNat) iA).Vers++([(⟨RD,(uB.getD k12 bA).Val,(uB.getD k12 bA).Gone⟩:VA)]:List VA))⟩:tA)))else .cont ((((x92.take ((x116).toNat))++([(⟨(uB.getD k12 bA).Key,([(⟨RD,(uB.getD k12 bA).Val,(uB.getD k12 bA).Gone⟩:VA)]:List VA)⟩:tA)]:List tA))++(x92.drop ((x116).toNat))))else .cont ((((x92.take ((x116).toNat))++([(⟨(uB.getD k12 bA).Key,([(⟨RD,(uB.getD k12 bA).Val,(uB.getD k12 bA).Gone⟩:VA)]:List VA)⟩:tA)]:List tA))++(x92.drop ((x116).toNat)))))
def WD(vC:List tA)(uB:List FA)(RD:Int):(List tA)×Bool:=KC (IA (EC vC uB RD) (uB.length-0) 0 ((fE vC))) (fun r=>r) (fun x92=>(x92,(SC x92)))
def nC(pC:List Int)(cA:Int×Int)(WE:Int):Bool×(Int×Int):=(decide (((lA pC cA WE).1)=0),((lA pC cA WE).2))
def kG(pC:List Int)(cA:Int×Int)(EB:List tB):tB×(Int×Int):=((EB.getD (((lA pC cA (EB.length:Int)).1).toNat) zC),((lA pC cA (EB.length:Int)).2))
def cF(pC:List Int)(cA:Int×Int):tB×(Int×Int):=((kG pC cA ([[],[49],[55],[49,48],[45,51],[120],[97,44,98,95,99]]:List tB)).1,((kG pC cA ([[],[49],[55],[49,48],[45,51],[120],[97,44,98,95,99]]:List tB)).2))
def bC(pC:List Int)(cA:Int×Int)(mB:tB):FA×(Int×Int):=bif(nC pC cA 4).1 then((⟨mB,([]:tB),true⟩:FA),((nC pC cA 4).2))else((⟨mB,(cF pC ((nC pC cA 4).2)).1,false⟩:FA),((cF pC ((nC pC cA 4).2)).2))
def TD(pC:List Int)(cA:Int×Int)(k14:Nat):(List FA)×Int×Int→wF ((List FA)×(Int×Int)) ((List FA)×Int×Int) | (x75,x80,x81)=>bif(nC pC (x80,x81) 4).1 then .cont ((x75++([(bC pC ((nC pC (x80,x81) 4).2) (([[97],[98],[99],[105,47,120,47,49],[109],[110],[114,47,49],[122]]:List tB).getD k14 zC)).1]:List FA)),((bC pC ((nC pC (x80,x81) 4).2) (([[97],[98],[99],[105,47,120,47,49],[109],[110],[114,47,49],[122]]:List tB).getD k14 zC)).2).1,((bC pC ((nC pC (x80,x81) 4).2) (([[97],[98],[99],[105,47,120,47,49],[109],[110],[114,47,49],[122]]:List tB).getD k14 zC)).2).2)else .cont (x75,((nC pC (x80,x81) 4).2).1,((nC pC (x80,x81) 4).2).2)
def NB(pC:List Int)(cA:Int×Int):(List FA)×(Int×Int):=KC (IA (TD pC cA) (8-0) 0 (([]:List FA),cA.1,cA.2)) (fun r=>r) (fun(x75,x80,x81)=>(x75,(x80,x81)))
def DD(pC:List Int)(cA:Int×Int):(List tA)×Int×Int×Int×Int→wF ((List tA)×(Int×Int)) ((List tA)×Int×Int×Int×Int) | (x68,x72,x73,x74,x75)=>bif decide (0<x73)then bif(WD x68 ((NB pC ((lA pC (x74,x75) 4).2)).1) (IntKind.wrap .i64 (x72+(IntKind.wrap .i64 (1+((lA pC (x74,x75) 4).1)))))).2 then .cont ((WD x68 ((NB pC ((lA pC (x74,x75) 4).2)).1) (IntKind.wrap .i64 (x72+(IntKind.wrap .i64 (1+((lA pC (x74,x75) 4).1)))))).1,IntKind.wrap .i64 (x72+(IntKind.wrap .i64 (1+((lA pC (x74,x75) 4).1)))),IntKind.wrap .i64 (x73-1),((NB pC ((lA pC (x74,x75) 4).2)).2).1,((NB pC ((lA pC (x74,x75) 4).2)).2).2)else .cont (x68,IntKind.wrap .i64 (x72+(IntKind.wrap .i64 (1+((lA pC (x74,x75) 4).1)))),IntKind.wrap .i64 (x73-1),((NB pC ((lA pC (x74,x75) 4).2)).2).1,((NB pC ((lA pC (x74,x75) 4).2)).2).2)else .brk (x68,x72,x73,x74,x75)
def fA(pC:List Int)(cA:Int×Int):(List tA)×(Int×Int):=KC (MD (DD pC cA) ((((lA pC cA 6).1).toNat)+1) (([]:List tA),0,(lA pC cA 6).1,((lA pC cA 6).2).1,((lA pC cA 6).2).2)) (fun r=>r) (fun(x68,x72,x73,x74,x75)=>(x68,(x74,x75)))
def iD(pC:List Int)(cA:Int×Int)(EB:List Int):Int×(Int×Int):=((EB.getD (((lA pC cA (EB.length:Int)).1).toNat) vK),((lA pC cA (EB.length:Int)).2))
def YA(pC:List Int)(cA:Int×Int):(List tA)×(Int×Int):=bif decide (0<(((fA pC cA).1).length:Int))then bif decide (((lA pC ((lA pC ((fA pC cA).2) (((fA pC cA).1).length:Int)).2) 30).1)=0)then((((fA pC cA).1).set (((lA pC ((fA pC cA).2) (((fA pC cA).1).length:Int)).1).toNat) (⟨([97]:tB),(((fA pC cA).1).getD (((lA pC ((fA pC cA).2) (((fA pC cA).1).length:Int)).1).toNat) iA).Vers⟩:tA)),((lA pC ((lA pC ((fA pC cA).2) (((fA pC cA).1).length:Int)).2) 30).2))else bif decide (((lA pC ((lA pC ((fA pC cA).2) (((fA pC cA).1).length:Int)).2) 30).1)=1)then((((fA pC cA).1).set (((lA pC ((fA pC cA).2) (((fA pC cA).1).length:Int)).1).toNat) (⟨(((fA pC cA).1).getD (((lA pC ((fA pC cA).2) (((fA pC cA).1).length:Int)).1).toNat) iA).Key,(((((fA pC cA).1).getD (((lA pC ((fA pC cA).2) (((fA pC cA).1).length:Int)).1).toNat) iA).Vers).set 0 (⟨(iD pC ((lA pC ((lA pC ((fA pC cA).2) (((fA pC cA).1).length:Int)).2) 30).2) ([0,100000,100001]:List Int)).1,(((((fA pC cA).1).getD (((lA pC ((fA pC cA).2) (((fA pC cA).1).length:Int)).1).toNat) iA).Vers).getD 0 rA).Val,(((((fA pC cA).1).getD (((lA pC ((fA pC cA).2) (((fA pC cA).1).length:Int)).1).toNat) iA).Vers).getD 0 rA).Gone⟩:VA))⟩:tA)),((iD pC ((lA pC ((lA pC ((fA pC cA).2) (((fA pC cA).1).length:Int)).2) 30).2) ([0,100000,100001]:List Int)).2))else bif decide (((lA pC ((lA pC ((fA pC cA).2) (((fA pC cA).1).length:Int)).2) 30).1)=2)then((((fA pC cA).1).set (((lA pC ((fA pC cA).2) (((fA pC cA).1).length:Int)).1).toNat) (⟨(((fA pC cA).1).getD (((lA pC ((fA pC cA).2) (((fA pC cA).1).length:Int)).1).toNat) iA).Key,([]:List VA)⟩:tA)),((lA pC ((lA pC ((fA pC cA).2) (((fA pC cA).1).length:Int)).2) 30).2))else((fA pC cA).1,((lA pC ((lA pC ((fA pC cA).2) (((fA pC cA).1).length:Int)).2) 30).2))else((fA pC cA).1,((fA pC cA).2))
def uD(IB:List Int):(List tA)×Int:=((YA IB (0,0)).1,IntKind.wrap .i64 (((lA IB ((YA IB (0,0)).2) 20).1)-(IntKind.wrap .i64 (Int.tdiv ((lA IB ((lA IB ((YA IB (0,0)).2) 20).2) 20).1) 19))))
def dA(IB:List Int):(List tA)×Int:=((uD IB).1,(uD IB).2)
def pD(WE:Int)(nI:Int)(BH:Int):Bool:=bif decide (nI≤WE)then decide (WE≤BH)else false
def BC(ZI:Int):Bool:=(pD ZI 1 100000)
def wB(UE:Int):Bool:=bif decide (97≤UE)then bif decide (UE≤122)then true else bif decide (48≤UE)then decide (UE≤57)else false else bif decide (48≤UE)then decide (UE≤57)else false
def ZB(dB:tB)(cA:Int):Int:=rL dB cA
def jD(dB:tB)(cA:Int):Int:=(ZB dB cA)
def wC(dB:tB)(XC:tB)(k3:Nat):Unit→wF Bool Unit | ()=>bif wB ((dB.getD k3 0).toNat:Int)then .cont ()else bif decide ((jD XC ((dB.getD k3 0).toNat:Int))<0)then .ret false else .cont ()
def tE(dB:tB)(XC:tB):Bool:=KC (IA (wC dB XC) (dB.length-0) 0 ()) (fun r=>r) (fun _=>true)
def RE(dB:tB):Bool:=bif decide ((dB.length:Int)≤24)then(tE dB ([46,45,44,95]:tB))else false
def aB(nE:tB)(FE:Bool):Bool:=bif RE nE then bif FE then !(!(nE==([]:tB)))else !false else false
def RB(cA:tA)(k9:Nat):Unit→wF Bool Unit | ()=>bif BC ((cA.Vers.getD k9 rA).Time)then bif aB ((cA.Vers.getD k9 rA).Val) ((cA.Vers.getD k9 rA).Gone)then bif decide (0<(k9:Int))then bif decide (((cA.Vers.getD k9 rA).Time)≤((cA.Vers.getD ((IntKind.wrap .i64 ((k9:Int)-1)).toNat) rA).Time))then .ret false else .cont ()else .cont ()else .ret false else .ret false
def gD(cA:tA):Bool:=KC (IA (RB cA) (cA.Vers.length-0) 0 ()) (fun r=>r) (fun _=>(pD (cA.Vers.length:Int) 1 16))
def QE(dB:tB):Bool:=bif pD (dB.length:Int) 1 12 then(tE dB ([46,47]:tB))else false
def FB(aC:List tB)(k3:Nat):Unit→wF Bool Unit | ()=>bif QE (aC.getD k3 zC)then bif decide (0<(k3:Int))then bif XK (aC.getD k3 zC) (aC.getD ((IntKind.wrap .i64 ((k3:Int)-1)).toNat) zC)then .ret false else .cont ()else .cont ()else .ret false
def mD(aC:List tB):Bool:=KC (IA (FB aC) (aC.length-0) 0 ()) (fun r=>r) (fun _=>true)
def HC(CA:List tA)(k10:Nat):(List tB)→wF Bool (List tB) | (x70)=>bif gD (CA.getD k10 iA)then .cont ((x70++([(CA.getD k10 iA).Key]:List tB)))else .ret false
def lD(CA:List tA):Bool:=KC (IA (HC CA) (CA.length-0) 0 (([]:List tB))) (fun r=>r) (fun x70=>bif decide ((CA.length:Int)≤24)then(mD x70)else false)
def ZE(YI:Int):Bool:=(pD YI 0 100000)
def fI(n k:Nat):List Nat:=(List.range k).map fun j=>n-1-j
def qC(cA:tA)(pA:Int):tB×Bool:=
 match (fI cA.Vers.length cA.Vers.length).find? (fun x=>decide ((cA.Vers.getD x rA).Time≤pA))with
 | some x=>((cA.Vers.getD x rA).Val,!(cA.Vers.getD x rA).Gone)
 | none=>([],false)
def cD(CA:List tA)(pA:Int)(k10:Nat):(List FA)→wF (List FA) (List FA) | (x72)=>bif(qC (CA.getD k10 iA) pA).2 then .cont ((x72++([(⟨(CA.getD k10 iA).Key,(qC (CA.getD k10 iA) pA).1,false⟩:FA)]:List FA)))else .cont (x72)
def QD(CA:List tA)(pA:Int):List FA:=KC (IA (cD CA pA) (CA.length-0) 0 (([]:List FA))) (fun r=>r) (fun x72=>x72)
def lB(CA:List tA)(pA:Int):iE×Bool:=bif lD CA then bif ZE pA then((⟨pA,(QD CA pA)⟩:iE),true)else((⟨0,[]⟩:iE),false)else((⟨0,[]⟩:iE),false)
def bF(ZI:Int):Bool:=(pF ZI 0 100000)
def SD(cA:tA)(pA:Int)(k21:Nat):Bool×Int×tB×Bool→wF (VA×Bool) (Bool×Int×tB×Bool) | (x37,x38,x39,x40)=>bif decide (((cA.Vers.getD k21 rA).Time)≤pA)then .cont (true,(cA.Vers.getD k21 rA).Time,(cA.Vers.getD k21 rA).Val,(cA.Vers.getD k21 rA).Gone)else .cont (x37,x38,x39,x40)
def jC(cA:tA)(pA:Int):VA×Bool:=KC (IA (SD cA pA) (cA.Vers.length-0) 0 (false,0,([]:tB),false)) (fun r=>r) (fun(x37,x38,x39,x40)=>((⟨x38,x39,x40⟩:VA),x37))
def kD(CA:List tA)(pA:Int)(k3:Nat):(List FA)→wF (List FA) (List FA) | (x85)=>bif(jC (CA.getD k3 iA) pA).2 then bif(jC (CA.getD k3 iA) pA).1.Gone then .cont (x85)else .cont ((x85++([(⟨(CA.getD k3 iA).Key,(jC (CA.getD k3 iA) pA).1.Val,false⟩:FA)]:List FA)))else .cont (x85)
def GF(CA:List tA)(pA:Int):List FA:=KC (IA (kD CA pA) (CA.length-0) 0 (([]:List FA))) (fun r=>r) (fun x85=>x85)
def jB(CA:List tA)(pA:Int):(List FA)×Bool:=bif SC CA then bif bF pA then((GF CA pA),true)else(([]:List FA),false)else(([]:List FA),false)
def MC(CA:List tA)(pA:Int):iE×Bool:=bif(jB CA pA).2 then((⟨pA,(jB CA pA).1⟩:iE),true)else((⟨0,[]⟩:iE),false)
def qB(dB:List FA)(yI:FA→Bool)(k7:Nat):Unit→wF Int Unit | ()=>bif yI (dB.getD k7 bA)then .ret (k7:Int)else .cont ()
def xC(dB:List FA)(yI:FA→Bool):Int:=KC (IA (qB dB yI) (dB.length-0) 0 ()) (fun r=>r) (fun _=>-1)
def iC(dB:List FA)(yI:FA→Bool):Bool:=decide (0≤(xC dB yI))
def zD(CA:List FA)(k10:Nat):(List tB)→wF (List tB) (List tB) | (x60)=>.cont ((x60++([(CA.getD k10 bA).Key]:List tB)))
def vD(CA:List FA):List tB:=KC (IA (zD CA) (CA.length-0) 0 (([]:List tB))) (fun r=>r) (fun x60=>x60)
def AD(JI:FA):Bool:=!(aB JI.Val JI.Gone)
def fD(CA:List FA):Bool:=bif decide ((CA.length:Int)≤24)then bif mD (vD CA)then !(iC CA (fun y0=>AD y0))else false else false
def zF(JI:FA):Bool:=JI.Gone
def lE(sF:List FA):Bool:=bif fD sF then !(iC sF (fun y0=>zF y0))else false
def eD(cA:iE):Bool:=bif ZE cA.Time then bif lE cA.Rows then bif decide (0<cA.Time)then true else decide ((cA.Rows.length:Int)=0)else false else false
def YD(cA:iE)(k20:Nat):(List tA)→wF ((List tA)×Bool) (List tA) | (x84)=>.cont ((x84++([(⟨(cA.Rows.getD k20 bA).Key,([(⟨cA.Time,(cA.Rows.getD k20 bA).Val,false⟩:VA)]:List VA)⟩:tA)]:List tA)))
def VB(cA:iE):(List tA)×Bool:=bif eD cA then KC (IA (YD cA) (cA.Rows.length-0) 0 (([]:List tA))) (fun r=>r) (fun x84=>(x84,true))else(([]:List tA),false)
def hF(CA:List tA):Bool:=(SC CA)
def pB(vC:List Int):Bool:=bif MG vC then true else bif((lB ((dA vC).1) ((dA vC).2)).2)==((MC ((dA vC).1) ((dA vC).2)).2)then bif mF ((lB ((dA vC).1) ((dA vC).2)).1) ((MC ((dA vC).1) ((dA vC).2)).1)then bif(lB ((dA vC).1) ((dA vC).2)).2 then bif(VB ((lB ((dA vC).1) ((dA vC).2)).1)).2 then bif(jB ((VB ((lB ((dA vC).1) ((dA vC).2)).1)).1) ((dA vC).2)).2 then bif hF ((VB ((lB ((dA vC).1) ((dA vC).2)).1)).1)then bif JE ((jB ((VB ((lB ((dA vC).1) ((dA vC).2)).1)).1) ((dA vC).2)).1) ((jB ((dA vC).1) ((dA vC).2)).1)then(JE ((jB ((VB ((lB ((dA vC).1) ((dA vC).2)).1)).1) 100000).1) ((jB ((dA vC).1) ((dA vC).2)).1))else false else false else false else false else(mF ((lB ((dA vC).1) ((dA vC).2)).1) (⟨0,[]⟩:iE))else false else false
def CG(CA:List FA)(k3:Nat):Unit→wF Bool Unit | ()=>bif xB ((CA.getD k3 bA).Key) ((CA.getD k3 bA).Val) ((CA.getD k3 bA).Gone)then bif decide (0<(k3:Int))then bif SG ((CA.getD ((IntKind.wrap .i64 ((k3:Int)-1)).toNat) bA).Key) ((CA.getD k3 bA).Key)then .cont ()else .ret false else .cont ()else .ret false
def uE(CA:List FA):Bool:=KC (IA (CG CA) (CA.length-0) 0 ()) (fun r=>r) (fun _=>decide ((CA.length:Int)≤24))
def eH(CA:List FA)(k3:Nat):Unit→wF Bool Unit | ()=>bif(CA.getD k3 bA).Gone then .ret false else .cont ()
def pH(CA:List FA):Bool:=KC (IA (eH CA) (CA.length-0) 0 ()) (fun r=>r) (fun _=>(uE CA))
end Go.Proofs.Ytikkoidgamlgnaa
