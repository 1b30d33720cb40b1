/- Fn Diff Bytes: the plain forms of the values, and plain models of the functions. -/
import Derived.Test.YtikkoidgamlgnaaE34
set_option linter.unusedVariables false
set_option linter.unusedSimpArgs false
namespace Go.Proofs.Ytikkoidgamlgnaa
open Go.RowKit Go.X
structure eC where
 Time:Int
 Val:uB
 Gone:Bool
def bB:eC:=⟨0,[],false⟩
def KP(x:eC):Prop:=LI x.Time∧uP x.Val
def tK(x:eC):Prop:=aF x.Val
theorem hJ:tK bB:=oG
def dG(x:eC):List Value:=[.int .i64 x.Time,.string (bs x.Val),.bool x.Gone]
theorem RB:Gd (RF dG):=RF.good fun _=>rfl
structure iB where
 Key:uB
 Vers:List eC
def xA:iB:=⟨[],[]⟩
def fQ(x:iB):Prop:=uP x.Key∧(JP KP) x.Vers
def OF(x:iB):Prop:=aF x.Key∧(PF tK) x.Vers
theorem fF:OF xA:=⟨oG,dF _⟩
def SH:xH iB:=fun w S cs x=>∃A1 c1,cs=[.string (bs x.Key),.slice A1 x.Vers.length c1]∧cD w S (RF dG) 3 A1 x.Vers.length c1 x.Vers
def yF:TG iB:=fun w l h cs x=>∃A1 c1 lo1 hi1,cs=[.string (bs x.Key),.slice A1 x.Vers.length c1]∧AB w lo1 hi1 73 3 (RF dG) A1 x.Vers.length c1 x.Vers∧(l≤lo1∧lo1≤hi1∧hi1≤h)
theorem EC:Gd SH:=⟨fun⟨A1,c1,he,h0⟩ hk=>⟨A1,c1,he,cD.keep RB h0 hk⟩,fun⟨A1,c1,he,h0⟩ hw=>⟨A1,c1,he,cD.wide RB h0 hw⟩,fun⟨A1,c1,he,h0⟩=>by rw[he];rfl⟩
theorem DB:dI yF SH:=⟨fun⟨A1,c1,lo1,hi1,he,h1,r0⟩ hk=>⟨A1,c1,lo1,hi1,he,AB.keep RB h1 (fun b b1 b2 b3=>hk b oM oM b3),r0⟩,fun⟨A1,c1,lo1,hi1,he,h1,r0⟩=>by rw[he];rfl,fun⟨A1,c1,lo1,hi1,he,h1,r0⟩=>⟨A1,c1,he,cD.wide RB (yD RB h1) (fun b hb _=>⟨by have:=hb.1;omega,by have:=hb.2;omega⟩)⟩⟩
theorem DI{w:World}{l h:Nat}{z0:uB}{lo1 hi1 n1 c1:Nat}{A1:Option Addr}{y1:List eC}(h1:AB w lo1 hi1 73 3 (RF dG) A1 n1 c1 y1)(r0:(l≤lo1∧lo1≤hi1∧hi1≤h)):yF w l h [.string (bs z0),.slice A1 n1 c1] ⟨z0,y1⟩:=by
 obtain rfl:=h1.1
 exact⟨A1,c1,lo1,hi1,rfl,h1,r0⟩
structure RD where
 Key:uB
 Val:uB
 Gone:Bool
def tA:RD:=⟨[],[],false⟩
def wO(x:RD):Prop:=uP x.Key∧uP x.Val
def LH(x:RD):Prop:=aF x.Key∧aF x.Val
theorem OG:LH tA:=⟨oG,oG⟩
def jH(x:RD):List Value:=[.string (bs x.Key),.string (bs x.Val),.bool x.Gone]
theorem gW:Gd (RF jH):=RF.good fun _=>rfl
structure YJ where
 code:List Int
 at_:Int
 seed:Int
def NO:YJ:=⟨[],0,0⟩
def dQ(x:YJ):Prop:=(JP LI) x.code∧LI x.at_∧LI x.seed
def gO(x:YJ):Prop:=(PF rL) x.code
theorem HP:gO NO:=dF _
def OM:xH YJ:=fun w S cs x=>∃A1 c1,cs=[.slice A1 x.code.length c1,.int .i64 x.at_,.int .u64 x.seed]∧cD w S (RF sF) 1 A1 x.code.length c1 x.code
def EL:TG YJ:=fun w l h cs x=>∃A1 c1 lo1 hi1,cs=[.slice A1 x.code.length c1,.int .i64 x.at_,.int .u64 x.seed]∧AB w lo1 hi1 5 1 (RF sF) A1 x.code.length c1 x.code∧(l≤lo1∧lo1≤hi1∧hi1≤h)
theorem DP:Gd OM:=⟨fun⟨A1,c1,he,h0⟩ hk=>⟨A1,c1,he,cD.keep gU h0 hk⟩,fun⟨A1,c1,he,h0⟩ hw=>⟨A1,c1,he,cD.wide gU h0 hw⟩,fun⟨A1,c1,he,h0⟩=>by rw[he];rfl⟩
theorem qP:dI EL OM:=⟨fun⟨A1,c1,lo1,hi1,he,h1,r0⟩ hk=>⟨A1,c1,lo1,hi1,he,AB.keep gU h1 (fun b b1 b2 b3=>hk b oM oM b3),r0⟩,fun⟨A1,c1,lo1,hi1,he,h1,r0⟩=>by rw[he];rfl,fun⟨A1,c1,lo1,hi1,he,h1,r0⟩=>⟨A1,c1,he,cD.wide gU (yD gU h1) (fun b hb _=>⟨by have:=hb.1;omega,by have:=hb.2;omega⟩)⟩⟩
theorem RP{w:World}{l h:Nat}{lo1 hi1 n1 c1:Nat}{A1:Option Addr}{y1:List Int}{z1:Int}{z2:Int}(h1:AB w lo1 hi1 5 1 (RF sF) A1 n1 c1 y1)(r0:(l≤lo1∧lo1≤hi1∧hi1≤h)):EL w l h [.slice A1 n1 c1,.int .i64 z1,.int .u64 z2] ⟨y1,z1,z2⟩:=by
 obtain rfl:=h1.1
 exact⟨A1,c1,lo1,hi1,rfl,h1,r0⟩
structure nA where
 Time:Int
 Group:Int
 Key:uB
 Val:uB
 Gone:Bool
def aA:nA:=⟨0,0,[],[],false⟩
def eM(x:nA):Prop:=LI x.Time∧LI x.Group∧uP x.Key∧uP x.Val
def LB(x:nA):Prop:=aF x.Key∧aF x.Val
theorem nD:LB aA:=⟨oG,oG⟩
def WA(x:nA):List Value:=[.int .i64 x.Time,.int .i64 x.Group,.string (bs x.Key),.string (bs x.Val),.bool x.Gone]
theorem jA:Gd (RF WA):=RF.good fun _=>rfl
structure PB where
 From:Int
 To:Int
 List:List nA
def AP:PB:=⟨0,0,[]⟩
def iQ(x:PB):Prop:=LI x.From∧LI x.To∧(JP eM) x.List
def zF(x:PB):Prop:=(PF LB) x.List
theorem UP:zF AP:=dF _
def IN:xH PB:=fun w S cs x=>∃A1 c1,cs=[.int .i64 x.From,.int .i64 x.To,.slice A1 x.List.length c1]∧cD w S (RF WA) 5 A1 x.List.length c1 x.List
def NM:TG PB:=fun w l h cs x=>∃A1 c1 lo1 hi1,cs=[.int .i64 x.From,.int .i64 x.To,.slice A1 x.List.length c1]∧AB w lo1 hi1 67 5 (RF WA) A1 x.List.length c1 x.List∧(l≤lo1∧lo1≤hi1∧hi1≤h)
theorem QP:Gd IN:=⟨fun⟨A1,c1,he,h0⟩ hk=>⟨A1,c1,he,cD.keep jA h0 hk⟩,fun⟨A1,c1,he,h0⟩ hw=>⟨A1,c1,he,cD.wide jA h0 hw⟩,fun⟨A1,c1,he,h0⟩=>by rw[he];rfl⟩
theorem CP:dI NM IN:=⟨fun⟨A1,c1,lo1,hi1,he,h1,r0⟩ hk=>⟨A1,c1,lo1,hi1,he,AB.keep jA h1 (fun b b1 b2 b3=>hk b oM oM b3),r0⟩,fun⟨A1,c1,lo1,hi1,he,h1,r0⟩=>by rw[he];rfl,fun⟨A1,c1,lo1,hi1,he,h1,r0⟩=>⟨A1,c1,he,cD.wide jA (yD jA h1) (fun b hb _=>⟨by have:=hb.1;omega,by have:=hb.2;omega⟩)⟩⟩
theorem bQ{w:World}{l h:Nat}{z0:Int}{z1:Int}{lo1 hi1 n1 c1:Nat}{A1:Option Addr}{y1:List nA}(h1:AB w lo1 hi1 67 5 (RF WA) A1 n1 c1 y1)(r0:(l≤lo1∧lo1≤hi1∧hi1≤h)):NM w l h [.int .i64 z0,.int .i64 z1,.slice A1 n1 c1] ⟨z0,z1,y1⟩:=by
 obtain rfl:=h1.1
 exact⟨A1,c1,lo1,hi1,rfl,h1,r0⟩
structure UJ where
 b:uB
 at_:Int
 failed:Bool
def RN:UJ:=⟨[],0,false⟩
def YP(x:UJ):Prop:=uP x.b∧LI x.at_
def sN(x:UJ):Prop:=aF x.b
theorem sP:sN RN:=oG
def SN(x:UJ):List Value:=[.string (bs x.b),.int .i64 x.at_,.bool x.failed]
theorem rP:Gd (RF SN):=RF.good fun _=>rfl
structure RH where
 x:Int
 y:Int
 signed:Bool
 code:Int
def BO:RH:=⟨0,0,false,0⟩
def vO(x:RH):Prop:=LI x.x∧LI x.y∧LI x.code
def HK(x:RH):List Value:=[.int .i64 x.x,.int .i64 x.y,.bool x.signed,.int .u8 x.code]
theorem nN:Gd (RF HK):=RF.good fun _=>rfl
structure xF where
 msg:uB
 addr:Int
def sI:xF:=⟨[],0⟩
def BL(x:xF):Prop:=uP x.msg∧LI x.addr
def jI(x:xF):Prop:=aF x.msg
theorem aL:jI sI:=oG
def vI(x:xF):List Value:=[.string (bs x.msg),.int .u64 x.addr]
theorem YK:Gd (RF vI):=RF.good fun _=>rfl
structure CL where
 Time:Int
 Rows:List RD
def zP:CL:=⟨0,[]⟩
def gQ(x:CL):Prop:=LI x.Time∧(JP wO) x.Rows
def YO(x:CL):Prop:=(PF LH) x.Rows
theorem TP:YO zP:=dF _
def HN:xH CL:=fun w S cs x=>∃A1 c1,cs=[.int .i64 x.Time,.slice A1 x.Rows.length c1]∧cD w S (RF jH) 3 A1 x.Rows.length c1 x.Rows
def MM:TG CL:=fun w l h cs x=>∃A1 c1 lo1 hi1,cs=[.int .i64 x.Time,.slice A1 x.Rows.length c1]∧AB w lo1 hi1 57 3 (RF jH) A1 x.Rows.length c1 x.Rows∧(l≤lo1∧lo1≤hi1∧hi1≤h)
theorem PP:Gd HN:=⟨fun⟨A1,c1,he,h0⟩ hk=>⟨A1,c1,he,cD.keep gW h0 hk⟩,fun⟨A1,c1,he,h0⟩ hw=>⟨A1,c1,he,cD.wide gW h0 hw⟩,fun⟨A1,c1,he,h0⟩=>by rw[he];rfl⟩
theorem BP:dI MM HN:=⟨fun⟨A1,c1,lo1,hi1,he,h1,r0⟩ hk=>⟨A1,c1,lo1,hi1,he,AB.keep gW h1 (fun b b1 b2 b3=>hk b oM oM b3),r0⟩,fun⟨A1,c1,lo1,hi1,he,h1,r0⟩=>by rw[he];rfl,fun⟨A1,c1,lo1,hi1,he,h1,r0⟩=>⟨A1,c1,he,cD.wide gW (yD gW h1) (fun b hb _=>⟨by have:=hb.1;omega,by have:=hb.2;omega⟩)⟩⟩
theorem aQ{w:World}{l h:Nat}{z0:Int}{lo1 hi1 n1 c1:Nat}{A1:Option Addr}{y1:List RD}(h1:AB w lo1 hi1 57 3 (RF jH) A1 n1 c1 y1)(r0:(l≤lo1∧lo1≤hi1∧hi1≤h)):MM w l h [.int .i64 z0,.slice A1 n1 c1] ⟨z0,y1⟩:=by
 obtain rfl:=h1.1
 exact⟨A1,c1,lo1,hi1,rfl,h1,r0⟩
def CI(WB:List Int):Bool:=decide (65536<(WB.length:Int))
def qE(WB:List Int)(lO:Int):Int:=bif decide (lO<(WB.length:Int))then IntKind.wrap .i64 (WB.getD ((lO).toNat) AG)else Int.tmod (IntKind.wrap .i64 ((IntKind.wrap .i64 (lO*7))+(WB.length:Int))) 256
def vC(pC:List Int)(oA:Int×Int):Int×(Int×Int):=bif decide (oA.1<(pC.length:Int))then bif decide ((IntKind.wrap .i64 (oA.1+1))≤(pC.length:Int))then(IntKind.wrap .i64 (pC.getD ((oA.1).toNat) AG),(IntKind.wrap .i64 (oA.1+1),IntKind.wrap .u64 ((IntKind.wrap .u64 ((IntKind.wrap .u64 (oA.2*6364136223846793005))+(IntKind.wrap .u64 (IntKind.wrap .i64 (pC.getD ((oA.1).toNat) AG)))))+1442695040888963407)))else(IntKind.wrap .i64 (SJ .u64 (Int.fdiv (IntKind.wrap .u64 ((IntKind.wrap .u64 ((IntKind.wrap .u64 (oA.2*6364136223846793005))+(IntKind.wrap .u64 (IntKind.wrap .i64 (pC.getD ((oA.1).toNat) AG)))))+1442695040888963407)) 1099511627776) 255),(IntKind.wrap .i64 (oA.1+1),IntKind.wrap .u64 ((IntKind.wrap .u64 ((IntKind.wrap .u64 (oA.2*6364136223846793005))+(IntKind.wrap .u64 (IntKind.wrap .i64 (pC.getD ((oA.1).toNat) AG)))))+1442695040888963407)))else bif decide ((IntKind.wrap .i64 (oA.1+1))≤(pC.length:Int))then(0,(IntKind.wrap .i64 (oA.1+1),IntKind.wrap .u64 ((IntKind.wrap .u64 ((IntKind.wrap .u64 (oA.2*6364136223846793005))+(IntKind.wrap .u64 0)))+1442695040888963407)))else(IntKind.wrap .i64 (SJ .u64 (Int.fdiv (IntKind.wrap .u64 ((IntKind.wrap .u64 ((IntKind.wrap .u64 (oA.2*6364136223846793005))+(IntKind.wrap .u64 0)))+1442695040888963407)) 1099511627776) 255),(IntKind.wrap .i64 (oA.1+1),IntKind.wrap .u64 ((IntKind.wrap .u64 ((IntKind.wrap .u64 (oA.2*6364136223846793005))+(IntKind.wrap .u64 0)))+1442695040888963407)))
def wA(pC:List Int)(oA:Int×Int)(fD:Int):Int×(Int×Int):=bif decide (fD≤1)then(0,oA)else bif decide (200<fD)then(Int.tmod (IntKind.wrap .i64 ((IntKind.wrap .i64 (((vC pC oA).1)*256))+((vC pC ((vC pC oA).2)).1))) fD,((vC pC ((vC pC oA).2)).2))else(Int.tmod ((vC pC oA).1) fD,((vC pC oA).2))
def gD(fD:Int)(FM:Int)(uN:Int):Bool:=bif decide (FM≤fD)then decide (fD≤uN)else false
def cB(EB:uB)(JA:uB)(k3:Nat)(k6:Nat):Bool→zG Bool Bool | (x7)=>bif x7 then .cont (true)else .cont (decide (((EB.getD k3 0).toNat:Int)=((JA.getD k6 0).toNat:Int)))
def BB(EB:uB)(JA:uB)(k3:Nat):Unit→zG Bool Unit | ()=>bif decide (97≤((EB.getD k3 0).toNat:Int))then bif decide (((EB.getD k3 0).toNat:Int)≤122)then qD (kB (cB EB JA k3) (JA.length-0) 0 (true)) (fun r=>zG.ret r) (fun x7=>bif x7 then .cont ()else .ret false)else bif decide (48≤((EB.getD k3 0).toNat:Int))then qD (kB (cB EB JA k3) (JA.length-0) 0 (decide (((EB.getD k3 0).toNat:Int)≤57))) (fun r=>zG.ret r) (fun x12=>bif x12 then .cont ()else .ret false)else qD (kB (cB EB JA k3) (JA.length-0) 0 (false)) (fun r=>zG.ret r) (fun x15=>bif x15 then .cont ()else .ret false)else bif decide (48≤((EB.getD k3 0).toNat:Int))then qD (kB (cB EB JA k3) (JA.length-0) 0 (decide (((EB.getD k3 0).toNat:Int)≤57))) (fun r=>zG.ret r) (fun x19=>bif x19 then .cont ()else .ret false)else qD (kB (cB EB JA k3) (JA.length-0) 0 (false)) (fun r=>zG.ret r) (fun x22=>bif x22 then .cont ()else .ret false)
def fE(EB:uB)(JA:uB):Bool:=qD (kB (BB EB JA) (EB.length-0) 0 ()) (fun r=>r) (fun _=>true)
def AF(EB:uB):Bool:=bif gD (EB.length:Int) 1 12 then(fE EB ([46,47]:uB))else false
def aG(EB:uB):Bool:=bif decide ((EB.length:Int)≤24)then(fE EB ([46,45,44,95]:uB))else false
def SC(ZB:uB)(JF:uB)(XF:Bool):Bool:=bif AF ZB then bif aG JF then bif XF then JF==([]:uB)else true else false else false
def KE(vN:Int):Bool:=(gD vN 1 100000)
def ZC(oA:iB)(k9:Nat):Unit→zG Bool Unit | ()=>bif KE ((oA.Vers.getD k9 bB).Time)then bif SC oA.Key ((oA.Vers.getD k9 bB).Val) ((oA.Vers.getD k9 bB).Gone)then bif decide (0<(k9:Int))then bif decide (((oA.Vers.getD k9 bB).Time)≤((oA.Vers.getD ((IntKind.wrap .i64 ((k9:Int)-1)).toNat) bB).Time))then .ret false else .cont ()else .cont ()else .ret false else .ret false
def LD(oA:iB):Bool:=qD (kB (ZC oA) (oA.Vers.length-0) 0 ()) (fun r=>r) (fun _=>bif AF oA.Key then(gD (oA.Vers.length:Int) 1 16)else false)
def zD(QA:List iB)(k3:Nat):Unit→zG Bool Unit | ()=>bif LD (QA.getD k3 xA)then bif decide (0<(k3:Int))then bif fL ((QA.getD ((IntKind.wrap .i64 ((k3:Int)-1)).toNat) xA).Key) ((QA.getD k3 xA).Key)then .cont ()else .ret false else .cont ()else .ret false
def TF(QA:List iB):Bool:=qD (kB (zD QA) (QA.length-0) 0 ()) (fun r=>r) (fun _=>decide ((QA.length:Int)≤24))
def bG(QA:List iB)(k3:Nat):(List iB)→zG (List iB) (List iB) | (x63)=>.cont ((x63++([(⟨(QA.getD k3 xA).Key,(([]:List eC)++(QA.getD k3 xA).Vers)⟩:iB)]:List iB)))
def BF(QA:List iB):List iB:=qD (kB (bG QA) (QA.length-0) 0 (([]:List iB))) (fun r=>r) (fun x63=>x63)
def qF(QA:List iB)(ZB:uB)(k4:Nat):Unit→zG Int Unit | ()=>bif((QA.getD k4 xA).Key)==ZB then .ret (k4:Int)else .cont ()
def TE(QA:List iB)(ZB:uB):Int:=qD (kB (qF QA ZB) (QA.length-0) 0 ()) (fun r=>r) (fun _=>-1)
def IG(QA:List iB)(ZB:uB):Int:=bif decide ((TE QA ZB)<0)then 0 else(((QA.getD (((TE QA ZB)).toNat) xA).Vers).getD ((IntKind.wrap .i64 ((((QA.getD (((TE QA ZB)).toNat) xA).Vers).length:Int)-1)).toNat) bB).Time
def cE(NA:List iB)(OB:List RD)(tE:Int)(k12:Nat)(x92:List iB):Int→zG ((List iB)×Bool) Int | (x116)=>bif decide (0<x116)then bif CO ((x92.getD ((IntKind.wrap .i64 (x116-1)).toNat) xA).Key) ((OB.getD k12 tA).Key)then .brk (x116)else .cont (IntKind.wrap .i64 (x116-1))else .brk (x116)
def DD(NA:List iB)(OB:List RD)(tE:Int)(k12:Nat):(List iB)→zG ((List iB)×Bool) (List iB) | (x92)=>qD (GC (cE NA OB tE k12 x92) ((((x92.length:Int)).toNat)+1) ((x92.length:Int))) (fun r=>zG.ret r) (fun x116=>bif decide (0<x116)then bif((x92.getD ((IntKind.wrap .i64 (x116-1)).toNat) xA).Key)==((OB.getD k12 tA).Key)then bif decide (tE≤(IG x92 ((OB.getD k12 tA).Key)))then .ret (([]:List iB),false)else .cont ((x92.set ((IntKind.wrap .i64 (x116-1)).toNat) (⟨(x92.getD ((IntKind.wrap .i64 (x116-1)).toNat) xA).Key,((x92.getD ((IntKind.wrap .i64 (x116-1)).toNat) xA).Vers++([(⟨tE,(OB.getD k12 tA).Val,(OB.getD k12 tA).Gone⟩:eC)]:List eC))⟩:iB)))else .cont ((((x92.take ((x116).toNat))++([(⟨(OB.getD k12 tA).Key,([(⟨tE,(OB.getD k12 tA).Val,(OB.getD k12 tA).Gone⟩:eC)]:List eC)⟩:iB)]:List iB))++(x92.drop ((x116).toNat))))else .cont ((((x92.take ((x116).toNat))++([(⟨(OB.getD k12 tA).Key,([(⟨tE,(OB.getD k12 tA).Val,(OB.getD k12 tA).Gone⟩:eC)]:List eC)⟩:iB)]:List iB))++(x92.drop ((x116).toNat)))))
def nF(NA:List iB)(OB:List RD)(tE:Int):(List iB)×Bool:=qD (kB (DD NA OB tE) (OB.length-0) 0 ((BF NA))) (fun r=>r) (fun x92=>(x92,(TF x92)))
def rD(pC:List Int)(oA:Int×Int)(fD:Int):Bool×(Int×Int):=(decide (((wA pC oA fD).1)=0),((wA pC oA fD).2))
def PG(pC:List Int)(oA:Int×Int)(DC:List uB):uB×(Int×Int):=((DC.getD (((wA pC oA (DC.length:Int)).1).toNat) ZF),((wA pC oA (DC.length:Int)).2))
def qG(pC:List Int)(oA:Int×Int):uB×(Int×Int):=((PG pC oA ([[],[49],[55],[49,48],[45,51],[120],[97,44,98,95,99]]:List uB)).1,((PG pC oA ([[],[49],[55],[49,48],[45,51],[120],[97,44,98,95,99]]:List uB)).2))
def aB(pC:List Int)(oA:Int×Int)(ZB:uB):RD×(Int×Int):=bif(rD pC oA 4).1 then((⟨ZB,([]:uB),true⟩:RD),((rD pC oA 4).2))else((⟨ZB,(qG pC ((rD pC oA 4).2)).1,false⟩:RD),((qG pC ((rD pC oA 4).2)).2))
def iF(pC:List Int)(oA:Int×Int)(k14:Nat):(List RD)×Int×Int→zG ((List RD)×(Int×Int)) ((List RD)×Int×Int) | (x75,x80,x81)=>bif(rD pC (x80,x81) 4).1 then .cont ((x75++([(aB pC ((rD pC (x80,x81) 4).2) (([[97],[98],[99],[105,47,120,47,49],[109],[110],[114,47,49],[122]]:List uB).getD k14 ZF)).1]:List RD)),((aB pC ((rD pC (x80,x81) 4).2) (([[97],[98],[99],[105,47,120,47,49],[109],[110],[114,47,49],[122]]:List uB).getD k14 ZF)).2).1,((aB pC ((rD pC (x80,x81) 4).2) (([[97],[98],[99],[105,47,120,47,49],[109],[110],[114,47,49],[122]]:List uB).getD k14 ZF)).2).2)else .cont (x75,((rD pC (x80,x81) 4).2).1,((rD pC (x80,x81) 4).2).2)
def OC(pC:List Int)(oA:Int×Int):(List RD)×(Int×Int):=qD (kB (iF pC oA) (8-0) 0 (([]:List RD),oA.1,oA.2)) (fun r=>r) (fun(x75,x80,x81)=>(x75,(x80,x81)))
def YE(pC:List Int)(oA:Int×Int):(List iB)×Int×Int×Int×Int→zG ((List iB)×(Int×Int)) ((List iB)×Int×Int×Int×Int) | (x68,x72,x73,x74,x75)=>bif decide (0<x73)then bif(nF x68 ((OC pC ((wA pC (x74,x75) 4).2)).1) (IntKind.wrap .i64 (x72+(IntKind.wrap .i64 (1+((wA pC (x74,x75) 4).1)))))).2 then .cont ((nF x68 ((OC pC ((wA pC (x74,x75) 4).2)).1) (IntKind.wrap .i64 (x72+(IntKind.wrap .i64 (1+((wA pC (x74,x75) 4).1)))))).1,IntKind.wrap .i64 (x72+(IntKind.wrap .i64 (1+((wA pC (x74,x75) 4).1)))),IntKind.wrap .i64 (x73-1),((OC pC ((wA pC (x74,x75) 4).2)).2).1,((OC pC ((wA pC (x74,x75) 4).2)).2).2)else .cont (x68,IntKind.wrap .i64 (x72+(IntKind.wrap .i64 (1+((wA pC (x74,x75) 4).1)))),IntKind.wrap .i64 (x73-1),((OC pC ((wA pC (x74,x75) 4).2)).2).1,((OC pC ((wA pC (x74,x75) 4).2)).2).2)else .brk (x68,x72,x73,x74,x75)
def eA(pC:List Int)(oA:Int×Int):(List iB)×(Int×Int):=qD (GC (YE pC oA) ((((wA pC oA 6).1).toNat)+1) (([]:List iB),0,(wA pC oA 6).1,((wA pC oA 6).2).1,((wA pC oA 6).2).2)) (fun r=>r) (fun(x68,x72,x73,x74,x75)=>(x68,(x74,x75)))
def uA(pC:List Int)(oA:Int×Int)(DC:List Int):Int×(Int×Int):=((DC.getD (((wA pC oA (DC.length:Int)).1).toNat) QI),((wA pC oA (DC.length:Int)).2))
def fA(pC:List Int)(oA:Int×Int):Int×(Int×Int):=((uA pC oA ([0,1,3,7,10,20,100000]:List Int)).1,((uA pC oA ([0,1,3,7,10,20,100000]:List Int)).2))
def FC(oA:nA):Bool:=bif gD oA.Time 1 100000 then bif gD oA.Group 0 3 then(SC oA.Key oA.Val oA.Gone)else false else false
def fC(QD:nA)(UB:nA):Bool:=bif decide (QD.Time=UB.Time)then bif decide (QD.Group=UB.Group)then fL QD.Key UB.Key else decide (QD.Group<UB.Group)else decide (QD.Time<UB.Time)
def AC(QA:List nA)(k3:Nat):Unit→zG Bool Unit | ()=>bif decide ((k3:Int)≤400)then bif FC (QA.getD k3 aA)then bif decide (0<(k3:Int))then bif fC (QA.getD ((IntKind.wrap .i64 ((k3:Int)-1)).toNat) aA) (QA.getD k3 aA)then .cont ()else .ret false else .cont ()else .ret false else .brk ()
def uE(QA:List nA):Bool:=qD (kB (AC QA) (QA.length-0) 0 ()) (fun r=>r) (fun _=>decide ((QA.length:Int)≤400))
def lD(nB:PB)(k9:Nat):Unit→zG Bool Unit | ()=>bif decide (((nB.List.getD k9 aA).Group)=0)then bif gD ((nB.List.getD k9 aA).Time) (IntKind.wrap .i64 (nB.From+1)) nB.To then .cont ()else .ret false else .ret false
def YC(nB:PB):Bool:=qD (kB (lD nB) (nB.List.length-0) 0 ()) (fun r=>r) (fun _=>bif gD nB.From 0 nB.To then bif decide (nB.To≤100000)then bif decide ((nB.List.length:Int)≤60)then(uE nB.List)else false else false else false)
def EE(nB:PB):PB×Bool:=bif YC nB then(nB,true)else((⟨0,0,[]⟩:PB),false)
def ZD(QA:List nA)(iD:nA):Int→zG ((List nA)×Bool) Int | (x12)=>bif decide (x12<(QA.length:Int))then bif fC (QA.getD ((x12).toNat) aA) iD then .cont (IntKind.wrap .i64 (x12+1))else .brk (x12)else .brk (x12)
def NC(QA:List nA)(iD:nA):(List nA)×Bool:=qD (GC (ZD QA iD) ((QA.length-(0:Int).toNat)+1) (0)) (fun r=>r) (fun x12=>bif decide (x12<(QA.length:Int))then bif fC iD (QA.getD ((x12).toNat) aA)then((((([]:List nA)++(QA.take ((x12).toNat)))++([iD]:List nA))++(QA.drop ((x12).toNat))),true)else(QA,((decide (((QA.getD ((x12).toNat) aA).Time)=iD.Time))&&((decide (((QA.getD ((x12).toNat) aA).Group)=iD.Group))&&((((QA.getD ((x12).toNat) aA).Key)==iD.Key)&&((((QA.getD ((x12).toNat) aA).Val)==iD.Val)&&(((QA.getD ((x12).toNat) aA).Gone)==iD.Gone))))))else((((([]:List nA)++(QA.take ((x12).toNat)))++([iD]:List nA))++(QA.drop ((x12).toNat))),true))
def xE(NA:List iB)(OB:Int)(tE:Int)(uJ:Int)(x160:List nA)(x164:Int):(List nA)×Int→zG (List nA) ((List nA)×Int) | (x212,x216)=>bif decide (x216<(((NA.getD ((x164).toNat) xA).Vers).length:Int))then bif decide (tE<((((NA.getD ((x164).toNat) xA).Vers).getD ((x216).toNat) bB).Time))then bif decide (((((NA.getD ((x164).toNat) xA).Vers).getD ((x216).toNat) bB).Time)≤uJ)then .cont ((NC x212 (⟨(((NA.getD ((x164).toNat) xA).Vers).getD ((x216).toNat) bB).Time,OB,(NA.getD ((x164).toNat) xA).Key,(((NA.getD ((x164).toNat) xA).Vers).getD ((x216).toNat) bB).Val,(((NA.getD ((x164).toNat) xA).Vers).getD ((x216).toNat) bB).Gone⟩:nA)).1,IntKind.wrap .i64 (x216+1))else .cont (x212,IntKind.wrap .i64 (x216+1))else .cont (x212,IntKind.wrap .i64 (x216+1))else .brk (x212,x216)
def IF(NA:List iB)(OB:Int)(tE:Int)(uJ:Int):(List nA)×Int→zG (List nA) ((List nA)×Int) | (x160,x164)=>bif decide (x164<(NA.length:Int))then qD (GC (xE NA OB tE uJ x160 x164) (((NA.getD ((x164:Int).toNat) xA).Vers.length-(0:Int).toNat)+1) (x160,0)) (fun r=>zG.ret r) (fun(x212,x216)=>.cont (x212,IntKind.wrap .i64 (x164+1)))else .brk (x160,x164)
def cF(NA:List iB)(OB:Int)(tE:Int)(uJ:Int):List nA:=qD (GC (IF NA OB tE uJ) ((NA.length-(0:Int).toNat)+1) (([]:List nA),0)) (fun r=>r) (fun(x160,x164)=>x160)
def EA(QA:List iB)(WD:Int)(pG:Int):PB×Bool:=bif TF QA then((EE (⟨WD,pG,(cF QA 0 WD pG)⟩:PB)).1,(EE (⟨WD,pG,(cF QA 0 WD pG)⟩:PB)).2)else((⟨0,0,[]⟩:PB),false)
def lB(pC:List Int)(oA:Int×Int):uB×(Int×Int):=((PG pC oA ([[97],[98],[99],[109],[110],[122],[114,47,49],[105,47,120,47,49]]:List uB)).1,((PG pC oA ([[97],[98],[99],[109],[110],[122],[114,47,49],[105,47,120,47,49]]:List uB)).2))
def dB(pC:List Int)(oA:Int×Int):nA×(Int×Int):=((⟨IntKind.wrap .i64 (1+((wA pC ((aB pC ((lB pC oA).2) ((lB pC oA).1)).2) 30).1)),(wA pC ((wA pC ((aB pC ((lB pC oA).2) ((lB pC oA).1)).2) 30).2) 3).1,(aB pC ((lB pC oA).2) ((lB pC oA).1)).1.Key,(aB pC ((lB pC oA).2) ((lB pC oA).1)).1.Val,(aB pC ((lB pC oA).2) ((lB pC oA).1)).1.Gone⟩:nA),((wA pC ((wA pC ((aB pC ((lB pC oA).2) ((lB pC oA).1)).2) 30).2) 3).2))
def NB(pC:List Int)(oA:Int×Int):PB×(Int×Int):=bif(EA ((eA pC oA).1) ((fA pC ((eA pC oA).2)).1) (IntKind.wrap .i64 (((fA pC ((eA pC oA).2)).1)+((uA pC ((fA pC ((eA pC oA).2)).2) ([0,3,7,20]:List Int)).1)))).2 then bif decide (((wA pC ((uA pC ((fA pC ((eA pC oA).2)).2) ([0,3,7,20]:List Int)).2) 10).1)=0)then((⟨(uA pC ((wA pC ((uA pC ((fA pC ((eA pC oA).2)).2) ([0,3,7,20]:List Int)).2) 10).2) ([-1,IntKind.wrap .i64 (((EA ((eA pC oA).1) ((fA pC ((eA pC oA).2)).1) (IntKind.wrap .i64 (((fA pC ((eA pC oA).2)).1)+((uA pC ((fA pC ((eA pC oA).2)).2) ([0,3,7,20]:List Int)).1)))).1.From)+1),IntKind.wrap .i64 (((EA ((eA pC oA).1) ((fA pC ((eA pC oA).2)).1) (IntKind.wrap .i64 (((fA pC ((eA pC oA).2)).1)+((uA pC ((fA pC ((eA pC oA).2)).2) ([0,3,7,20]:List Int)).1)))).1.To)+1)]:List Int)).1,(EA ((eA pC oA).1) ((fA pC ((eA pC oA).2)).1) (IntKind.wrap .i64 (((fA pC ((eA pC oA).2)).1)+((uA pC ((fA pC ((eA pC oA).2)).2) ([0,3,7,20]:List Int)).1)))).1.To,(EA ((eA pC oA).1) ((fA pC ((eA pC oA).2)).1) (IntKind.wrap .i64 (((fA pC ((eA pC oA).2)).1)+((uA pC ((fA pC ((eA pC oA).2)).2) ([0,3,7,20]:List Int)).1)))).1.List⟩:PB),((uA pC ((wA pC ((uA pC ((fA pC ((eA pC oA).2)).2) ([0,3,7,20]:List Int)).2) 10).2) ([-1,IntKind.wrap .i64 (((EA ((eA pC oA).1) ((fA pC ((eA pC oA).2)).1) (IntKind.wrap .i64 (((fA pC ((eA pC oA).2)).1)+((uA pC ((fA pC ((eA pC oA).2)).2) ([0,3,7,20]:List Int)).1)))).1.From)+1),IntKind.wrap .i64 (((EA ((eA pC oA).1) ((fA pC ((eA pC oA).2)).1) (IntKind.wrap .i64 (((fA pC ((eA pC oA).2)).1)+((uA pC ((fA pC ((eA pC oA).2)).2) ([0,3,7,20]:List Int)).1)))).1.To)+1)]:List Int)).2))else bif decide (((wA pC ((uA pC ((fA pC ((eA pC oA).2)).2) ([0,3,7,20]:List Int)).2) 10).1)=1)then((⟨(EA ((eA pC oA).1) ((fA pC ((eA pC oA).2)).1) (IntKind.wrap .i64 (((fA pC ((eA pC oA).2)).1)+((uA pC ((fA pC ((eA pC oA).2)).2) ([0,3,7,20]:List Int)).1)))).1.From,(EA ((eA pC oA).1) ((fA pC ((eA pC oA).2)).1) (IntKind.wrap .i64 (((fA pC ((eA pC oA).2)).1)+((uA pC ((fA pC ((eA pC oA).2)).2) ([0,3,7,20]:List Int)).1)))).1.To,((EA ((eA pC oA).1) ((fA pC ((eA pC oA).2)).1) (IntKind.wrap .i64 (((fA pC ((eA pC oA).2)).1)+((uA pC ((fA pC ((eA pC oA).2)).2) ([0,3,7,20]:List Int)).1)))).1.List++([(dB pC ((wA pC ((uA pC ((fA pC ((eA pC oA).2)).2) ([0,3,7,20]:List Int)).2) 10).2)).1]:List nA))⟩:PB),((dB pC ((wA pC ((uA pC ((fA pC ((eA pC oA).2)).2) ([0,3,7,20]:List Int)).2) 10).2)).2))else((EA ((eA pC oA).1) ((fA pC ((eA pC oA).2)).1) (IntKind.wrap .i64 (((fA pC ((eA pC oA).2)).1)+((uA pC ((fA pC ((eA pC oA).2)).2) ([0,3,7,20]:List Int)).1)))).1,((wA pC ((uA pC ((fA pC ((eA pC oA).2)).2) ([0,3,7,20]:List Int)).2) 10).2))else bif decide (((wA pC ((uA pC ((fA pC ((eA pC oA).2)).2) ([0,3,7,20]:List Int)).2) 10).1)=0)then((⟨(uA pC ((wA pC ((uA pC ((fA pC ((eA pC oA).2)).2) ([0,3,7,20]:List Int)).2) 10).2) ([-1,IntKind.wrap .i64 (((EA ((eA pC oA).1) 0 100000).1.From)+1),IntKind.wrap .i64 (((EA ((eA pC oA).1) 0 100000).1.To)+1)]:List Int)).1,(EA ((eA pC oA).1) 0 100000).1.To,(EA ((eA pC oA).1) 0 100000).1.List⟩:PB),((uA pC ((wA pC ((uA pC ((fA pC ((eA pC oA).2)).2) ([0,3,7,20]:List Int)).2) 10).2) ([-1,IntKind.wrap .i64 (((EA ((eA pC oA).1) 0 100000).1.From)+1),IntKind.wrap .i64 (((EA ((eA pC oA).1) 0 100000).1.To)+1)]:List Int)).2))else bif decide (((wA pC ((uA pC ((fA pC ((eA pC oA).2)).2) ([0,3,7,20]:List Int)).2) 10).1)=1)then((⟨(EA ((eA pC oA).1) 0 100000).1.From,(EA ((eA pC oA).1) 0 100000).1.To,((EA ((eA pC oA).1) 0 100000).1.List++([(dB pC ((wA pC ((uA pC ((fA pC ((eA pC oA).2)).2) ([0,3,7,20]:List Int)).2) 10).2)).1]:List nA))⟩:PB),((dB pC ((wA pC ((uA pC ((fA pC ((eA pC oA).2)).2) ([0,3,7,20]:List Int)).2) 10).2)).2))else((EA ((eA pC oA).1) 0 100000).1,((wA pC ((uA pC ((fA pC ((eA pC oA).2)).2) ([0,3,7,20]:List Int)).2) 10).2))
def TC(WB:List Int):PB:=(NB WB (0,0)).1
def rA(WB:List Int):PB:=(TC WB)
def yE(fD:Int)(uK:Int)(vJ:Int):Bool:=bif decide (uK≤fD)then decide (fD≤vJ)else false
def EG(bL:Int):Bool:=(yE bL 0 100000)
def QB(EB:List nA)(CK:nA→Bool)(k7:Nat):Unit→zG Int Unit | ()=>bif CK (EB.getD k7 aA)then .ret (k7:Int)else .cont ()
def eD(EB:List nA)(CK:nA→Bool):Int:=qD (kB (QB EB CK) (EB.length-0) 0 ()) (fun r=>r) (fun _=>-1)
def QC(EB:List nA)(CK:nA→Bool):Bool:=decide (0≤(eD EB CK))
def PC(OD:List Int)(k3:Nat):Unit→zG Int Unit | ()=>bif decide ((OD.getD k3 QI)=0)then .cont ()else .ret (OD.getD k3 QI)
def mF(OD:List Int):Int:=qD (kB (PC OD) (OD.length-0) 0 ()) (fun r=>r) (fun _=>0)
def GD(iD:Int):Bool:=!(decide (iD=iD))
def jB(iD:Int)(QH:Int):Int:=bif GD iD then bif GD QH then 0 else -1 else bif GD QH then 1 else bif decide (iD<QH)then -1 else bif decide (QH<iD)then 1 else 0
def dD(iD:uB):Bool:=!(iD==iD)
def rB(iD:uB)(QH:uB):Int:=bif dD iD then bif dD QH then 0 else -1 else bif dD QH then 1 else bif fL iD QH then -1 else bif CO iD QH then 0 else 1
def VD(QD:nA)(UB:nA):Int:=(mF ([(jB QD.Time UB.Time),(jB QD.Group UB.Group),(rB QD.Key UB.Key)]:List Int))
def YD(QA:List nA)(k3:Nat):Unit→zG Bool Unit | ()=>bif decide (0<(k3:Int))then bif decide (0≤(VD (QA.getD ((IntKind.wrap .i64 ((k3:Int)-1)).toNat) aA) (QA.getD k3 aA)))then .ret false else .cont ()else .cont ()
def DG(QA:List nA):Bool:=qD (kB (YD QA) (QA.length-0) 0 ()) (fun r=>r) (fun _=>decide ((QA.length:Int)≤400))
def JH(vN:Int):Bool:=(yE vN 1 100000)
def oC(UB:Int):Bool:=bif decide (97≤UB)then bif decide (UB≤122)then true else bif decide (48≤UB)then decide (UB≤57)else false else bif decide (48≤UB)then decide (UB≤57)else false
def bD(EB:uB)(oA:Int):Int:=XN EB oA
def sE(EB:uB)(oA:Int):Int:=(bD EB oA)
def wD(EB:uB)(eE:uB)(k3:Nat):Unit→zG Bool Unit | ()=>bif oC ((EB.getD k3 0).toNat:Int)then .cont ()else bif decide ((sE eE ((EB.getD k3 0).toNat:Int))<0)then .ret false else .cont ()
def NF(EB:uB)(eE:uB):Bool:=qD (kB (wD EB eE) (EB.length-0) 0 ()) (fun r=>r) (fun _=>true)
def jG(EB:uB):Bool:=bif decide ((EB.length:Int)≤24)then(NF EB ([46,45,44,95]:uB))else false
def bF(JF:uB)(XF:Bool):Bool:=bif jG JF then bif XF then !(!(JF==([]:uB)))else !false else false
def iG(EB:uB):Bool:=bif yE (EB.length:Int) 1 12 then(NF EB ([46,47]:uB))else false
def mH(VP:Int):Bool:=(yE VP 0 3)
def SE(oA:nA):Bool:=bif JH oA.Time then bif mH oA.Group then bif iG oA.Key then(bF oA.Val oA.Gone)else false else false else false
def tF(oA:nA):Bool:=!(SE oA)
def MF(QA:List nA):Bool:=bif DG QA then !(QC QA (fun y0=>tF y0))else false
def UD(oA:nA)(GG:PB):Bool:=bif decide (oA.Group=0)then bif decide (oA.Time≤GG.From)then true else decide (GG.To<oA.Time)else true
def kC(nB:PB):Bool:=bif EG nB.From then bif EG nB.To then bif decide (nB.From≤nB.To)then bif decide ((nB.List.length:Int)≤60)then bif MF nB.List then !(QC nB.List (fun y0=>UD y0 nB))else false else false else false else false else false
def HC(fD:Int):Int×(List Int)→zG uB (Int×(List Int)) | (x27,x28)=>bif decide (128≤x27)then .cont (IntKind.wrap .i64 (Int.tdiv x27 128),(x28++([IntKind.wrap .u8 ((IntKind.wrap .u8 (Int.tmod x27 128))+128)]:List Int)))else .brk (x27,x28)
def OA(fD:Int):uB:=qD (GC (HC fD) (((fD).toNat)+1) (fD,([]:List Int))) (fun r=>r) (fun(x27,x28)=>NI (x28++([IntKind.wrap .u8 x27]:List Int)))
def KB(EB:uB):uB:=(OA (EB.length:Int))++EB
def HF(UB:uB)(k2:Nat):Int→zG Int Int | (x3)=>.cont (Int.tmod (IntKind.wrap .i64 ((IntKind.wrap .i64 ((IntKind.wrap .i64 (31*x3))+(IntKind.wrap .i64 ((UB.getD k2 0).toNat:Int))))+1)) 16000057)
def vD(UB:uB):Int:=qD (kB (HF UB) (UB.length-0) 0 (7)) (fun r=>r) (fun x3=>x3)
def IE(UB:uB):uB:=UB++(NI ([IntKind.wrap .u8 (Int.fdiv (vD UB) 65536),IntKind.wrap .u8 (Int.fdiv (vD UB) 256),IntKind.wrap .u8 (vD UB)]:List Int))
def uD(FI:Bool):uB:=bif FI then([1]:uB)else([0]:uB)
def vE(nB:PB)(k12:Nat):uB→zG uB uB | (x47)=>.cont (x47++((((OA ((nB.List.getD k12 aA).Time))++(KB ((nB.List.getD k12 aA).Key)))++(uD ((nB.List.getD k12 aA).Gone)))++(KB ((nB.List.getD k12 aA).Val))))
def YB(nB:PB):uB:=qD (kB (vE nB) (nB.List.length-0) 0 (((OA nB.From)++(OA nB.To))++(OA (nB.List.length:Int)))) (fun r=>r) (fun x47=>(IE x47))
def LA(nB:PB):uB×Bool:=bif kC nB then bif decide (6000<((YB nB).length:Int))then(([]:uB),false)else((YB nB),true)else(([]:uB),false)
def DE(fD:Int):Int×(List Int)→zG uB (Int×(List Int)) | (x20,x21)=>bif decide (128≤x20)then .cont (IntKind.wrap .i64 (Int.tdiv x20 128),(x21++([IntKind.wrap .u8 (IntKind.wrap .i64 ((Int.tmod x20 128)+128))]:List Int)))else .brk (x20,x21)
def SB(fD:Int):uB:=qD (GC (DE fD) (((fD).toNat)+1) (fD,([]:List Int))) (fun r=>r) (fun(x20,x21)=>NI (x21++([IntKind.wrap .u8 x20]:List Int)))
def KD(EB:uB):uB:=(SB (EB.length:Int))++EB
def lG(fD:Int):uB:=NI ([IntKind.wrap .u8 (IntKind.wrap .i64 (Int.tdiv fD 65536)),IntKind.wrap .u8 (Int.tmod (IntKind.wrap .i64 (Int.tdiv fD 256)) 256),IntKind.wrap .u8 (Int.tmod fD 256)]:List Int)
def tG(UB:uB)(k2:Nat):Int→zG Int Int | (x3)=>.cont (Int.tmod (IntKind.wrap .i64 ((IntKind.wrap .i64 ((IntKind.wrap .i64 (31*x3))+(IntKind.wrap .i64 ((UB.getD k2 0).toNat:Int))))+1)) 16000057)
def DH(UB:uB):Int:=qD (kB (tG UB) (UB.length-0) 0 (7)) (fun r=>r) (fun x3=>x3)
def ZG(UB:uB):uB:=UB++(lG (DH UB))
def oF(FI:Bool):uB:=bif FI then([1]:uB)else([0]:uB)
def wE(nB:PB)(k16:Nat):uB→zG (uB×Bool) uB | (x57)=>.cont ((((x57++(SB ((nB.List.getD k16 aA).Time)))++(KD ((nB.List.getD k16 aA).Key)))++(oF ((nB.List.getD k16 aA).Gone)))++(KD ((nB.List.getD k16 aA).Val)))
def FD(nB:PB):uB×Bool:=bif YC nB then qD (kB (wE nB) (nB.List.length-0) 0 (((SB nB.From)++(SB nB.To))++(SB (nB.List.length:Int)))) (fun r=>r) (fun x57=>bif decide (5997<(x57.length:Int))then(([]:uB),false)else((ZG x57),true))else(([]:uB),false)
def cA(UB:uB):uB×Bool:=bif yE (UB.length:Int) 3 6000 then bif(IE (UB.take ((IntKind.wrap .i64 ((UB.length:Int)-3)).toNat)))==UB then((UB.take ((IntKind.wrap .i64 ((UB.length:Int)-3)).toNat)),true)else(([]:uB),false)else(([]:uB),false)
def mB(GA:uB)(RC:Int×Bool):(Int×Bool):=(RC.1,true)
def kA(GA:uB)(RC:Int×Bool)(fD:Int):uB×(Int×Bool):=bif RC.2 then(([]:uB),(mB GA RC))else bif decide ((IntKind.wrap .i64 ((GA.length:Int)-RC.1))<fD)then(([]:uB),(mB GA RC))else(((GA.take ((IntKind.wrap .i64 (RC.1+fD)).toNat)).drop ((IntKind.wrap .i64 ((IntKind.wrap .i64 (RC.1+fD))-fD)).toNat)),(IntKind.wrap .i64 (RC.1+fD),RC.2))
def CB(GA:uB)(RC:Int×Bool):Int×Int×Int×Bool→zG (Int×(Int×Bool)) (Int×Int×Int×Bool) | (x27,x28,x29,x30)=>bif((kA GA (x29,x30) 1).2).2 then .ret (0,((kA GA (x29,x30) 1).2))else bif decide (1000000000<(IntKind.wrap .i64 (x27+(IntKind.wrap .i64 ((IntKind.wrap .i64 (Int.tmod ((((kA GA (x29,x30) 1).1).getD 0 0).toNat:Int) 128))*x28)))))then .ret (0,(mB GA ((kA GA (x29,x30) 1).2)))else bif decide (5<(IntKind.wrap .i64 ((((kA GA (x29,x30) 1).2).1)-RC.1)))then .ret (0,(mB GA ((kA GA (x29,x30) 1).2)))else bif decide (((((kA GA (x29,x30) 1).1).getD 0 0).toNat:Int)<128)then .brk (IntKind.wrap .i64 (x27+(IntKind.wrap .i64 ((IntKind.wrap .i64 (Int.tmod ((((kA GA (x29,x30) 1).1).getD 0 0).toNat:Int) 128))*x28))),x28,((kA GA (x29,x30) 1).2).1,((kA GA (x29,x30) 1).2).2)else .cont (IntKind.wrap .i64 (x27+(IntKind.wrap .i64 ((IntKind.wrap .i64 (Int.tmod ((((kA GA (x29,x30) 1).1).getD 0 0).toNat:Int) 128))*x28))),IntKind.wrap .i64 (x28*128),((kA GA (x29,x30) 1).2).1,((kA GA (x29,x30) 1).2).2)
def dA(GA:uB)(RC:Int×Bool):Int×(Int×Bool):=qD (GC (CB GA RC) (((6-(RC.1-RC.1)).toNat)+1) (0,1,RC.1,RC.2)) (fun r=>r) (fun(x27,x28,x29,x30)=>bif(OA x27)==((GA.take ((x29).toNat)).drop ((RC.1).toNat))then(x27,(x29,x30))else(0,(mB GA (x29,x30))))
def CA(GA:uB)(RC:Int×Bool):uB×(Int×Bool):=bif decide (60<((dA GA RC).1))then(([]:uB),(mB GA ((dA GA RC).2)))else((kA GA ((dA GA RC).2) ((dA GA RC).1)).1,((kA GA ((dA GA RC).2) ((dA GA RC).1)).2))
def CC(NA:uB):Int×Int×Bool×(List nA)→zG (PB×Bool) (Int×Int×Bool×(List nA)) | (x75,x76,x77,x78)=>bif decide (0<x75)then bif x77 then .brk (x75,x76,x77,x78)else .cont (IntKind.wrap .i64 (x75-1),((CA ((cA NA).1) ((kA ((cA NA).1) ((CA ((cA NA).1) ((dA ((cA NA).1) (x76,x77)).2)).2) 1).2)).2).1,((CA ((cA NA).1) ((kA ((cA NA).1) ((CA ((cA NA).1) ((dA ((cA NA).1) (x76,x77)).2)).2) 1).2)).2).2,(x78++([(⟨(dA ((cA NA).1) (x76,x77)).1,0,(CA ((cA NA).1) ((dA ((cA NA).1) (x76,x77)).2)).1,(CA ((cA NA).1) ((kA ((cA NA).1) ((CA ((cA NA).1) ((dA ((cA NA).1) (x76,x77)).2)).2) 1).2)).1,((kA ((cA NA).1) ((CA ((cA NA).1) ((dA ((cA NA).1) (x76,x77)).2)).2) 1).1)==([1]:uB)⟩:nA)]:List nA)))else .brk (x75,x76,x77,x78)
def FB(NA:uB):PB×Bool:=bif(cA NA).2 then qD (GC (CC NA) ((((dA ((cA NA).1) ((dA ((cA NA).1) ((dA ((cA NA).1) (0,false)).2)).2)).1).toNat)+1) ((dA ((cA NA).1) ((dA ((cA NA).1) ((dA ((cA NA).1) (0,false)).2)).2)).1,((dA ((cA NA).1) ((dA ((cA NA).1) ((dA ((cA NA).1) (0,false)).2)).2)).2).1,((dA ((cA NA).1) ((dA ((cA NA).1) ((dA ((cA NA).1) (0,false)).2)).2)).2).2,([]:List nA))) (fun r=>r) (fun(x75,x76,x77,x78)=>bif x77 then((⟨0,0,[]⟩:PB),false)else bif kC (⟨(dA ((cA NA).1) (0,false)).1,(dA ((cA NA).1) ((dA ((cA NA).1) (0,false)).2)).1,x78⟩:PB)then bif(YB (⟨(dA ((cA NA).1) (0,false)).1,(dA ((cA NA).1) ((dA ((cA NA).1) (0,false)).2)).1,x78⟩:PB))==NA then((⟨(dA ((cA NA).1) (0,false)).1,(dA ((cA NA).1) ((dA ((cA NA).1) (0,false)).2)).1,x78⟩:PB),true)else((⟨0,0,[]⟩:PB),false)else((⟨0,0,[]⟩:PB),false))else((⟨0,0,[]⟩:PB),false)
def CE(QD:List nA)(UB:List nA)(k6:Nat):Unit→zG Bool Unit | ()=>bif(decide (((QD.getD k6 aA).Time)=((UB.getD k6 aA).Time)))&&((decide (((QD.getD k6 aA).Group)=((UB.getD k6 aA).Group)))&&((((QD.getD k6 aA).Key)==((UB.getD k6 aA).Key))&&((((QD.getD k6 aA).Val)==((UB.getD k6 aA).Val))&&(((QD.getD k6 aA).Gone)==((UB.getD k6 aA).Gone)))))then .cont ()else .ret false
def mG(QD:List nA)(UB:List nA):Bool:=bif decide ((QD.length:Int)=(UB.length:Int))then qD (kB (CE QD UB) (QD.length-0) 0 ()) (fun r=>r) (fun _=>true)else false
def FG(QD:PB)(UB:PB):Bool:=bif decide (QD.From=UB.From)then bif decide (QD.To=UB.To)then(mG QD.List UB.List)else false else false
def gC(NA:List Int):Bool:=bif CI NA then true else bif((LA (rA NA)).1)==((FD (rA NA)).1)then bif((LA (rA NA)).2)==((FD (rA NA)).2)then bif(LA (rA NA)).2 then bif(FB ((LA (rA NA)).1)).2 then bif FG ((FB ((LA (rA NA)).1)).1) (rA NA)then !((FB (NI ((MG ((LA (rA NA)).1)).set ((Int.tmod (qE NA 50) ((MG ((LA (rA NA)).1)).length:Int)).toNat) (oK .u8 ((MG ((LA (rA NA)).1)).getD ((Int.tmod (qE NA 50) ((MG ((LA (rA NA)).1)).length:Int)).toNat) AG) (IntKind.wrap .u8 (IntKind.wrap .i64 (1+(Int.tmod (qE NA 51) 255)))))))).2)else false else false else !((FB ((LA (rA NA)).1)).2)else false else false
def wH(nB:PB):Bool:=(YC nB)
end Go.Proofs.Ytikkoidgamlgnaa
