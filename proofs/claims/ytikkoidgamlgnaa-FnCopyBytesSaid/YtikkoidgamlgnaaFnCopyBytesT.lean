/- Fn Copy Bytes: the plain forms of the values, and plain models of the functions. -/
import Derived.Test.YtikkoidgamlgnaaE33
set_option linter.unusedVariables false
set_option linter.unusedSimpArgs false
namespace Go.Proofs.Ytikkoidgamlgnaa
open Go.RowKit Go.X
structure wB where
 Time:Int
 Val:YA
 Gone:Bool
def ZA:wB:=⟨0,[],false⟩
def jP(x:wB):Prop:=qM x.Time∧UO x.Val
def OI(x:wB):Prop:=xE x.Val
theorem yI:OI ZA:=sF
def mF(x:wB):List Value:=[.int .i64 x.Time,.string (bs x.Val),.bool x.Gone]
theorem nB:Gd (RF mF):=RF.good fun _=>rfl
structure JA where
 Key:YA
 Vers:List wB
def vA:JA:=⟨[],[]⟩
def FP(x:JA):Prop:=UO x.Key∧(iP jP) x.Vers
def FE(x:JA):Prop:=xE x.Key∧(EF OI) x.Vers
theorem BE:FE vA:=⟨sF,tE _⟩
def SG:IG JA:=fun w S cs x=>∃A1 c1,cs=[.string (bs x.Key),.slice A1 x.Vers.length c1]∧GC w S (RF mF) 3 A1 x.Vers.length c1 x.Vers
def QE:kG JA:=fun w l h cs x=>∃A1 c1 lo1 hi1,cs=[.string (bs x.Key),.slice A1 x.Vers.length c1]∧mB w lo1 hi1 73 3 (RF mF) A1 x.Vers.length c1 x.Vers∧(l≤lo1∧lo1≤hi1∧hi1≤h)
theorem lC:Gd SG:=⟨fun⟨A1,c1,he,h0⟩ hk=>⟨A1,c1,he,GC.keep nB h0 hk⟩,fun⟨A1,c1,he,h0⟩ hw=>⟨A1,c1,he,GC.wide nB h0 hw⟩,fun⟨A1,c1,he,h0⟩=>by rw[he];rfl⟩
theorem sB:oH QE SG:=⟨fun⟨A1,c1,lo1,hi1,he,h1,r0⟩ hk=>⟨A1,c1,lo1,hi1,he,mB.keep nB h1 (fun b b1 b2 b3=>hk b oM oM b3),r0⟩,fun⟨A1,c1,lo1,hi1,he,h1,r0⟩=>by rw[he];rfl,fun⟨A1,c1,lo1,hi1,he,h1,r0⟩=>⟨A1,c1,he,GC.wide nB (mB.rdI nB h1) (fun b hb _=>⟨by have:=hb.1;omega,by have:=hb.2;omega⟩)⟩⟩
theorem HH{w:World}{l h:Nat}{z0:YA}{lo1 hi1 n1 c1:Nat}{A1:Option Addr}{y1:List wB}(h1:mB w lo1 hi1 73 3 (RF mF) A1 n1 c1 y1)(r0:(l≤lo1∧lo1≤hi1∧hi1≤h)):QE w l h [.string (bs z0),.slice A1 n1 c1] ⟨z0,y1⟩:=by
 obtain rfl:=h1.1
 exact⟨A1,c1,lo1,hi1,rfl,h1,r0⟩
structure LA where
 Key:YA
 Val:YA
 Gone:Bool
def aA:LA:=⟨[],[],false⟩
def UN(x:LA):Prop:=UO x.Key∧UO x.Val
def kD(x:LA):Prop:=xE x.Key∧xE x.Val
theorem YC:kD aA:=⟨sF,sF⟩
def YB(x:LA):List Value:=[.string (bs x.Key),.string (bs x.Val),.bool x.Gone]
theorem gW:Gd (RF YB):=RF.good fun _=>rfl
structure TB where
 Time:Int
 Rows:List LA
def ZO:TB:=⟨0,[]⟩
def GP(x:TB):Prop:=qM x.Time∧(iP UN) x.Rows
def AF(x:TB):Prop:=(EF kD) x.Rows
theorem tP:AF ZO:=tE _
def eN:IG TB:=fun w S cs x=>∃A1 c1,cs=[.int .i64 x.Time,.slice A1 x.Rows.length c1]∧GC w S (RF YB) 3 A1 x.Rows.length c1 x.Rows
def cM:kG TB:=fun w l h cs x=>∃A1 c1 lo1 hi1,cs=[.int .i64 x.Time,.slice A1 x.Rows.length c1]∧mB w lo1 hi1 57 3 (RF YB) A1 x.Rows.length c1 x.Rows∧(l≤lo1∧lo1≤hi1∧hi1≤h)
theorem pP:Gd eN:=⟨fun⟨A1,c1,he,h0⟩ hk=>⟨A1,c1,he,GC.keep gW h0 hk⟩,fun⟨A1,c1,he,h0⟩ hw=>⟨A1,c1,he,GC.wide gW h0 hw⟩,fun⟨A1,c1,he,h0⟩=>by rw[he];rfl⟩
theorem bP:oH cM eN:=⟨fun⟨A1,c1,lo1,hi1,he,h1,r0⟩ hk=>⟨A1,c1,lo1,hi1,he,mB.keep gW h1 (fun b b1 b2 b3=>hk b oM oM b3),r0⟩,fun⟨A1,c1,lo1,hi1,he,h1,r0⟩=>by rw[he];rfl,fun⟨A1,c1,lo1,hi1,he,h1,r0⟩=>⟨A1,c1,he,GC.wide gW (mB.rdI gW h1) (fun b hb _=>⟨by have:=hb.1;omega,by have:=hb.2;omega⟩)⟩⟩
theorem AP{w:World}{l h:Nat}{z0:Int}{lo1 hi1 n1 c1:Nat}{A1:Option Addr}{y1:List LA}(h1:mB w lo1 hi1 57 3 (RF YB) A1 n1 c1 y1)(r0:(l≤lo1∧lo1≤hi1∧hi1≤h)):cM w l h [.int .i64 z0,.slice A1 n1 c1] ⟨z0,y1⟩:=by
 obtain rfl:=h1.1
 exact⟨A1,c1,lo1,hi1,rfl,h1,r0⟩
structure qJ where
 code:List Int
 at_:Int
 seed:Int
def jO:qJ:=⟨[],0,0⟩
def DP(x:qJ):Prop:=(iP qM) x.code∧qM x.at_∧qM x.seed
def EN(x:qJ):Prop:=(EF nL) x.code
theorem gP:EN jO:=tE _
def eM:IG qJ:=fun w S cs x=>∃A1 c1,cs=[.slice A1 x.code.length c1,.int .i64 x.at_,.int .u64 x.seed]∧GC w S (RF OE) 1 A1 x.code.length c1 x.code
def TK:kG qJ:=fun w l h cs x=>∃A1 c1 lo1 hi1,cs=[.slice A1 x.code.length c1,.int .i64 x.at_,.int .u64 x.seed]∧mB w lo1 hi1 5 1 (RF OE) A1 x.code.length c1 x.code∧(l≤lo1∧lo1≤hi1∧hi1≤h)
theorem dP:Gd eM:=⟨fun⟨A1,c1,he,h0⟩ hk=>⟨A1,c1,he,GC.keep gU h0 hk⟩,fun⟨A1,c1,he,h0⟩ hw=>⟨A1,c1,he,GC.wide gU h0 hw⟩,fun⟨A1,c1,he,h0⟩=>by rw[he];rfl⟩
theorem PO:oH TK eM:=⟨fun⟨A1,c1,lo1,hi1,he,h1,r0⟩ hk=>⟨A1,c1,lo1,hi1,he,mB.keep gU h1 (fun b b1 b2 b3=>hk b oM oM b3),r0⟩,fun⟨A1,c1,lo1,hi1,he,h1,r0⟩=>by rw[he];rfl,fun⟨A1,c1,lo1,hi1,he,h1,r0⟩=>⟨A1,c1,he,GC.wide gU (mB.rdI gU h1) (fun b hb _=>⟨by have:=hb.1;omega,by have:=hb.2;omega⟩)⟩⟩
theorem rP{w:World}{l h:Nat}{lo1 hi1 n1 c1:Nat}{A1:Option Addr}{y1:List Int}{z1:Int}{z2:Int}(h1:mB w lo1 hi1 5 1 (RF OE) A1 n1 c1 y1)(r0:(l≤lo1∧lo1≤hi1∧hi1≤h)):TK w l h [.slice A1 n1 c1,.int .i64 z1,.int .u64 z2] ⟨y1,z1,z2⟩:=by
 obtain rfl:=h1.1
 exact⟨A1,c1,lo1,hi1,rfl,h1,r0⟩
structure nJ where
 b:YA
 at_:Int
 failed:Bool
def pN:nJ:=⟨[],0,false⟩
def xP(x:nJ):Prop:=UO x.b∧qM x.at_
def PM(x:nJ):Prop:=xE x.b
theorem SO:PM pN:=sF
def qN(x:nJ):List Value:=[.string (bs x.b),.int .i64 x.at_,.bool x.failed]
theorem QO:Gd (RF qN):=RF.good fun _=>rfl
structure yG where
 Time:Int
 Group:Int
 Key:YA
 Val:YA
 Gone:Bool
def JL:yG:=⟨0,0,[],[],false⟩
def sL(x:yG):Prop:=qM x.Time∧qM x.Group∧UO x.Key∧UO x.Val
def gJ(x:yG):Prop:=xE x.Key∧xE x.Val
theorem aO:gJ JL:=⟨sF,sF⟩
def kH(x:yG):List Value:=[.int .i64 x.Time,.int .i64 x.Group,.string (bs x.Key),.string (bs x.Val),.bool x.Gone]
theorem FF:Gd (RF kH):=RF.good fun _=>rfl
structure fH where
 x:Int
 y:Int
 signed:Bool
 code:Int
def ZN:fH:=⟨0,0,false,0⟩
def TN(x:fH):Prop:=qM x.x∧qM x.y∧qM x.code
def YJ(x:fH):List Value:=[.int .i64 x.x,.int .i64 x.y,.bool x.signed,.int .u8 x.code]
theorem IM:Gd (RF YJ):=RF.good fun _=>rfl
structure PE where
 msg:YA
 addr:Int
def zH:PE:=⟨[],0⟩
def RK(x:PE):Prop:=UO x.msg∧qM x.addr
def tH(x:PE):Prop:=xE x.msg
theorem uK:tH zH:=sF
def BH(x:PE):List Value:=[.string (bs x.msg),.int .u64 x.addr]
theorem qK:Gd (RF BH):=RF.good fun _=>rfl
structure SK where
 From:Int
 To:Int
 List:List yG
def aP:SK:=⟨0,0,[]⟩
def HP(x:SK):Prop:=qM x.From∧qM x.To∧(iP sL) x.List
def tO(x:SK):Prop:=(EF gJ) x.List
theorem uP:tO aP:=tE _
def fN:IG SK:=fun w S cs x=>∃A1 c1,cs=[.int .i64 x.From,.int .i64 x.To,.slice A1 x.List.length c1]∧GC w S (RF kH) 5 A1 x.List.length c1 x.List
def dM:kG SK:=fun w l h cs x=>∃A1 c1 lo1 hi1,cs=[.int .i64 x.From,.int .i64 x.To,.slice A1 x.List.length c1]∧mB w lo1 hi1 67 5 (RF kH) A1 x.List.length c1 x.List∧(l≤lo1∧lo1≤hi1∧hi1≤h)
theorem qP:Gd fN:=⟨fun⟨A1,c1,he,h0⟩ hk=>⟨A1,c1,he,GC.keep FF h0 hk⟩,fun⟨A1,c1,he,h0⟩ hw=>⟨A1,c1,he,GC.wide FF h0 hw⟩,fun⟨A1,c1,he,h0⟩=>by rw[he];rfl⟩
theorem cP:oH dM fN:=⟨fun⟨A1,c1,lo1,hi1,he,h1,r0⟩ hk=>⟨A1,c1,lo1,hi1,he,mB.keep FF h1 (fun b b1 b2 b3=>hk b oM oM b3),r0⟩,fun⟨A1,c1,lo1,hi1,he,h1,r0⟩=>by rw[he];rfl,fun⟨A1,c1,lo1,hi1,he,h1,r0⟩=>⟨A1,c1,he,GC.wide FF (mB.rdI FF h1) (fun b hb _=>⟨by have:=hb.1;omega,by have:=hb.2;omega⟩)⟩⟩
theorem BP{w:World}{l h:Nat}{z0:Int}{z1:Int}{lo1 hi1 n1 c1:Nat}{A1:Option Addr}{y1:List yG}(h1:mB w lo1 hi1 67 5 (RF kH) A1 n1 c1 y1)(r0:(l≤lo1∧lo1≤hi1∧hi1≤h)):dM w l h [.int .i64 z0,.int .i64 z1,.slice A1 n1 c1] ⟨z0,z1,y1⟩:=by
 obtain rfl:=h1.1
 exact⟨A1,c1,lo1,hi1,rfl,h1,r0⟩
def GH(MB:List Int):Bool:=decide (65536<(MB.length:Int))
def tF(FC:Int)(SL:Int)(RM:Int):Bool:=bif decide (SL≤FC)then decide (FC≤RM)else false
def OA(jB:YA)(xA:YA)(k3:Nat)(k6:Nat):Bool→CF Bool Bool | (x7)=>bif x7 then .cont (true)else .cont (decide (((jB.getD k3 0).toNat:Int)=((xA.getD k6 0).toNat:Int)))
def eB(jB:YA)(xA:YA)(k3:Nat):Unit→CF Bool Unit | ()=>bif decide (97≤((jB.getD k3 0).toNat:Int))then bif decide (((jB.getD k3 0).toNat:Int)≤122)then JC (NA (OA jB xA k3) (xA.length-0) 0 (true)) (fun r=>CF.ret r) (fun x7=>bif x7 then .cont ()else .ret false)else bif decide (48≤((jB.getD k3 0).toNat:Int))then JC (NA (OA jB xA k3) (xA.length-0) 0 (decide (((jB.getD k3 0).toNat:Int)≤57))) (fun r=>CF.ret r) (fun x12=>bif x12 then .cont ()else .ret false)else JC (NA (OA jB xA k3) (xA.length-0) 0 (false)) (fun r=>CF.ret r) (fun x15=>bif x15 then .cont ()else .ret false)else bif decide (48≤((jB.getD k3 0).toNat:Int))then JC (NA (OA jB xA k3) (xA.length-0) 0 (decide (((jB.getD k3 0).toNat:Int)≤57))) (fun r=>CF.ret r) (fun x19=>bif x19 then .cont ()else .ret false)else JC (NA (OA jB xA k3) (xA.length-0) 0 (false)) (fun r=>CF.ret r) (fun x22=>bif x22 then .cont ()else .ret false)
def CD(jB:YA)(xA:YA):Bool:=JC (NA (eB jB xA) (jB.length-0) 0 ()) (fun r=>r) (fun _=>true)
def dD(jB:YA):Bool:=bif tF (jB.length:Int) 1 12 then(CD jB ([46,47]:YA))else false
def nF(jB:YA):Bool:=bif decide ((jB.length:Int)≤24)then(CD jB ([46,45,44,95]:YA))else false
def rB(CB:YA)(ZE:YA)(jF:Bool):Bool:=bif dD CB then bif nF ZE then bif jF then ZE==([]:YA)else true else false else false
def RD(TL:Int):Bool:=(tF TL 1 100000)
def qC(jA:JA)(k9:Nat):Unit→CF Bool Unit | ()=>bif RD ((jA.Vers.getD k9 ZA).Time)then bif rB jA.Key ((jA.Vers.getD k9 ZA).Val) ((jA.Vers.getD k9 ZA).Gone)then bif decide (0<(k9:Int))then bif decide (((jA.Vers.getD k9 ZA).Time)≤((jA.Vers.getD ((IntKind.wrap .i64 ((k9:Int)-1)).toNat) ZA).Time))then .ret false else .cont ()else .cont ()else .ret false else .ret false
def CC(jA:JA):Bool:=JC (NA (qC jA) (jA.Vers.length-0) 0 ()) (fun r=>r) (fun _=>bif dD jA.Key then(tF (jA.Vers.length:Int) 1 16)else false)
def NC(MA:List JA)(k3:Nat):Unit→CF Bool Unit | ()=>bif CC (MA.getD k3 vA)then bif decide (0<(k3:Int))then bif PJ ((MA.getD ((IntKind.wrap .i64 ((k3:Int)-1)).toNat) vA).Key) ((MA.getD k3 vA).Key)then .cont ()else .ret false else .cont ()else .ret false
def vE(MA:List JA):Bool:=JC (NA (NC MA) (MA.length-0) 0 ()) (fun r=>r) (fun _=>decide ((MA.length:Int)≤24))
def GG(TL:Int):Bool:=(tF TL 0 100000)
def DE(jA:JA)(XA:Int)(k21:Nat):Bool×Int×YA×Bool→CF (wB×Bool) (Bool×Int×YA×Bool) | (x37,x38,x39,x40)=>bif decide (((jA.Vers.getD k21 ZA).Time)≤XA)then .cont (true,(jA.Vers.getD k21 ZA).Time,(jA.Vers.getD k21 ZA).Val,(jA.Vers.getD k21 ZA).Gone)else .cont (x37,x38,x39,x40)
def EC(jA:JA)(XA:Int):wB×Bool:=JC (NA (DE jA XA) (jA.Vers.length-0) 0 (false,0,([]:YA),false)) (fun r=>r) (fun(x37,x38,x39,x40)=>((⟨x38,x39,x40⟩:wB),x37))
def PD(MA:List JA)(XA:Int)(k3:Nat):(List LA)→CF (List LA) (List LA) | (x85)=>bif(EC (MA.getD k3 vA) XA).2 then bif(EC (MA.getD k3 vA) XA).1.Gone then .cont (x85)else .cont ((x85++([(⟨(MA.getD k3 vA).Key,(EC (MA.getD k3 vA) XA).1.Val,false⟩:LA)]:List LA)))else .cont (x85)
def wG(MA:List JA)(XA:Int):List LA:=JC (NA (PD MA XA) (MA.length-0) 0 (([]:List LA))) (fun r=>r) (fun x85=>x85)
def nD(MA:List JA)(XA:Int):(List LA)×Bool:=bif vE MA then bif GG XA then((wG MA XA),true)else(([]:List LA),false)else(([]:List LA),false)
def tB(MA:List JA)(XA:Int):TB×Bool:=bif(nD MA XA).2 then((⟨XA,(nD MA XA).1⟩:TB),true)else((⟨0,[]⟩:TB),false)
def UB(pC:List Int)(jA:Int×Int):Int×(Int×Int):=bif decide (jA.1<(pC.length:Int))then bif decide ((IntKind.wrap .i64 (jA.1+1))≤(pC.length:Int))then(IntKind.wrap .i64 (pC.getD ((jA.1).toNat) QF),(IntKind.wrap .i64 (jA.1+1),IntKind.wrap .u64 ((IntKind.wrap .u64 ((IntKind.wrap .u64 (jA.2*6364136223846793005))+(IntKind.wrap .u64 (IntKind.wrap .i64 (pC.getD ((jA.1).toNat) QF)))))+1442695040888963407)))else(IntKind.wrap .i64 (lJ .u64 (Int.fdiv (IntKind.wrap .u64 ((IntKind.wrap .u64 ((IntKind.wrap .u64 (jA.2*6364136223846793005))+(IntKind.wrap .u64 (IntKind.wrap .i64 (pC.getD ((jA.1).toNat) QF)))))+1442695040888963407)) 1099511627776) 255),(IntKind.wrap .i64 (jA.1+1),IntKind.wrap .u64 ((IntKind.wrap .u64 ((IntKind.wrap .u64 (jA.2*6364136223846793005))+(IntKind.wrap .u64 (IntKind.wrap .i64 (pC.getD ((jA.1).toNat) QF)))))+1442695040888963407)))else bif decide ((IntKind.wrap .i64 (jA.1+1))≤(pC.length:Int))then(0,(IntKind.wrap .i64 (jA.1+1),IntKind.wrap .u64 ((IntKind.wrap .u64 ((IntKind.wrap .u64 (jA.2*6364136223846793005))+(IntKind.wrap .u64 0)))+1442695040888963407)))else(IntKind.wrap .i64 (lJ .u64 (Int.fdiv (IntKind.wrap .u64 ((IntKind.wrap .u64 ((IntKind.wrap .u64 (jA.2*6364136223846793005))+(IntKind.wrap .u64 0)))+1442695040888963407)) 1099511627776) 255),(IntKind.wrap .i64 (jA.1+1),IntKind.wrap .u64 ((IntKind.wrap .u64 ((IntKind.wrap .u64 (jA.2*6364136223846793005))+(IntKind.wrap .u64 0)))+1442695040888963407)))
def AA(pC:List Int)(jA:Int×Int)(FC:Int):Int×(Int×Int):=bif decide (FC≤1)then(0,jA)else bif decide (200<FC)then(Int.tmod (IntKind.wrap .i64 ((IntKind.wrap .i64 (((UB pC jA).1)*256))+((UB pC ((UB pC jA).2)).1))) FC,((UB pC ((UB pC jA).2)).2))else(Int.tmod ((UB pC jA).1) FC,((UB pC jA).2))
def oF(MA:List JA)(k3:Nat):(List JA)→CF (List JA) (List JA) | (x63)=>.cont ((x63++([(⟨(MA.getD k3 vA).Key,(([]:List wB)++(MA.getD k3 vA).Vers)⟩:JA)]:List JA)))
def RE(MA:List JA):List JA:=JC (NA (oF MA) (MA.length-0) 0 (([]:List JA))) (fun r=>r) (fun x63=>x63)
def IE(MA:List JA)(CB:YA)(k4:Nat):Unit→CF Int Unit | ()=>bif((MA.getD k4 vA).Key)==CB then .ret (k4:Int)else .cont ()
def oE(MA:List JA)(CB:YA):Int:=JC (NA (IE MA CB) (MA.length-0) 0 ()) (fun r=>r) (fun _=>-1)
def WF(MA:List JA)(CB:YA):Int:=bif decide ((oE MA CB)<0)then 0 else(((MA.getD (((oE MA CB)).toNat) vA).Vers).getD ((IntKind.wrap .i64 ((((MA.getD (((oE MA CB)).toNat) vA).Vers).length:Int)-1)).toNat) ZA).Time
def wD(SC:List JA)(QB:List LA)(CE:Int)(k12:Nat)(x92:List JA):Int→CF ((List JA)×Bool) Int | (x116)=>bif decide (0<x116)then bif UM ((x92.getD ((IntKind.wrap .i64 (x116-1)).toNat) vA).Key) ((QB.getD k12 aA).Key)then .brk (x116)else .cont (IntKind.wrap .i64 (x116-1))else .brk (x116)
def iD(SC:List JA)(QB:List LA)(CE:Int)(k12:Nat):(List JA)→CF ((List JA)×Bool) (List JA) | (x92)=>JC (IC (wD SC QB CE k12 x92) ((((x92.length:Int)).toNat)+1) ((x92.length:Int))) (fun r=>CF.ret r) (fun x116=>bif decide (0<x116)then bif((x92.getD ((IntKind.wrap .i64 (x116-1)).toNat) vA).Key)==((QB.getD k12 aA).Key)then bif decide (CE≤(WF x92 ((QB.getD k12 aA).Key)))then .ret (([]:List JA),false)else .cont ((x92.set ((IntKind.wrap .i64 (x116-1)).toNat) (⟨(x92.getD ((IntKind.wrap .i64 (x116-1)).toNat) vA).Key,((x92.getD ((IntKind.wrap .i64 (x116-1)).toNat) vA).Vers++([(⟨CE,(QB.getD k12 aA).Val,(QB.getD k12 aA).Gone⟩:wB)]:List wB))⟩:JA)))else .cont ((((x92.take ((x116).toNat))++([(⟨(QB.getD k12 aA).Key,([(⟨CE,(QB.getD k12 aA).Val,(QB.getD k12 aA).Gone⟩:wB)]:List wB)⟩:JA)]:List JA))++(x92.drop ((x116).toNat))))else .cont ((((x92.take ((x116).toNat))++([(⟨(QB.getD k12 aA).Key,([(⟨CE,(QB.getD k12 aA).Val,(QB.getD k12 aA).Gone⟩:wB)]:List wB)⟩:JA)]:List JA))++(x92.drop ((x116).toNat)))))
def HE(SC:List JA)(QB:List LA)(CE:Int):(List JA)×Bool:=JC (NA (iD SC QB CE) (QB.length-0) 0 ((RE SC))) (fun r=>r) (fun x92=>(x92,(vE x92)))
def LC(pC:List Int)(jA:Int×Int)(FC:Int):Bool×(Int×Int):=(decide (((AA pC jA FC).1)=0),((AA pC jA FC).2))
def aG(pC:List Int)(jA:Int×Int)(cC:List YA):YA×(Int×Int):=((cC.getD (((AA pC jA (cC.length:Int)).1).toNat) XC),((AA pC jA (cC.length:Int)).2))
def IF(pC:List Int)(jA:Int×Int):YA×(Int×Int):=((aG pC jA ([[],[49],[55],[49,48],[45,51],[120],[97,44,98,95,99]]:List YA)).1,((aG pC jA ([[],[49],[55],[49,48],[45,51],[120],[97,44,98,95,99]]:List YA)).2))
def vB(pC:List Int)(jA:Int×Int)(CB:YA):LA×(Int×Int):=bif(LC pC jA 4).1 then((⟨CB,([]:YA),true⟩:LA),((LC pC jA 4).2))else((⟨CB,(IF pC ((LC pC jA 4).2)).1,false⟩:LA),((IF pC ((LC pC jA 4).2)).2))
def EE(pC:List Int)(jA:Int×Int)(k14:Nat):(List LA)×Int×Int→CF ((List LA)×(Int×Int)) ((List LA)×Int×Int) | (x75,x80,x81)=>bif(LC pC (x80,x81) 4).1 then .cont ((x75++([(vB pC ((LC pC (x80,x81) 4).2) (([[97],[98],[99],[105,47,120,47,49],[109],[110],[114,47,49],[122]]:List YA).getD k14 XC)).1]:List LA)),((vB pC ((LC pC (x80,x81) 4).2) (([[97],[98],[99],[105,47,120,47,49],[109],[110],[114,47,49],[122]]:List YA).getD k14 XC)).2).1,((vB pC ((LC pC (x80,x81) 4).2) (([[97],[98],[99],[105,47,120,47,49],[109],[110],[114,47,49],[122]]:List YA).getD k14 XC)).2).2)else .cont (x75,((LC pC (x80,x81) 4).2).1,((LC pC (x80,x81) 4).2).2)
def kC(pC:List Int)(jA:Int×Int):(List LA)×(Int×Int):=JC (NA (EE pC jA) (8-0) 0 (([]:List LA),jA.1,jA.2)) (fun r=>r) (fun(x75,x80,x81)=>(x75,(x80,x81)))
def sE(pC:List Int)(jA:Int×Int):(List JA)×Int×Int×Int×Int→CF ((List JA)×(Int×Int)) ((List JA)×Int×Int×Int×Int) | (x68,x72,x73,x74,x75)=>bif decide (0<x73)then bif(HE x68 ((kC pC ((AA pC (x74,x75) 4).2)).1) (IntKind.wrap .i64 (x72+(IntKind.wrap .i64 (1+((AA pC (x74,x75) 4).1)))))).2 then .cont ((HE x68 ((kC pC ((AA pC (x74,x75) 4).2)).1) (IntKind.wrap .i64 (x72+(IntKind.wrap .i64 (1+((AA pC (x74,x75) 4).1)))))).1,IntKind.wrap .i64 (x72+(IntKind.wrap .i64 (1+((AA pC (x74,x75) 4).1)))),IntKind.wrap .i64 (x73-1),((kC pC ((AA pC (x74,x75) 4).2)).2).1,((kC pC ((AA pC (x74,x75) 4).2)).2).2)else .cont (x68,IntKind.wrap .i64 (x72+(IntKind.wrap .i64 (1+((AA pC (x74,x75) 4).1)))),IntKind.wrap .i64 (x73-1),((kC pC ((AA pC (x74,x75) 4).2)).2).1,((kC pC ((AA pC (x74,x75) 4).2)).2).2)else .brk (x68,x72,x73,x74,x75)
def qA(pC:List Int)(jA:Int×Int):(List JA)×(Int×Int):=JC (IC (sE pC jA) ((((AA pC jA 6).1).toNat)+1) (([]:List JA),0,(AA pC jA 6).1,((AA pC jA 6).2).1,((AA pC jA 6).2).2)) (fun r=>r) (fun(x68,x72,x73,x74,x75)=>(x68,(x74,x75)))
def gD(pC:List Int)(jA:Int×Int)(cC:List Int):Int×(Int×Int):=((cC.getD (((AA pC jA (cC.length:Int)).1).toNat) jM),((AA pC jA (cC.length:Int)).2))
def oA(pC:List Int)(jA:Int×Int):Int×(Int×Int):=((gD pC jA ([0,1,3,7,10,20,100000]:List Int)).1,((gD pC jA ([0,1,3,7,10,20,100000]:List Int)).2))
def vC(pC:List Int)(jA:Int×Int):YA×(Int×Int):=((aG pC jA ([[97],[98],[99],[109],[110],[122],[114,47,49],[105,47,120,47,49]]:List YA)).1,((aG pC jA ([[97],[98],[99],[109],[110],[122],[114,47,49],[105,47,120,47,49]]:List YA)).2))
def dC(pC:List Int)(jA:Int×Int):TB×(Int×Int):=bif decide (((AA pC ((oA pC ((qA pC jA).2)).2) 10).1)=0)then((⟨(gD pC ((AA pC ((oA pC ((qA pC jA).2)).2) 10).2) ([-1,0,100001]:List Int)).1,(tB ((qA pC jA).1) ((oA pC ((qA pC jA).2)).1)).1.Rows⟩:TB),((gD pC ((AA pC ((oA pC ((qA pC jA).2)).2) 10).2) ([-1,0,100001]:List Int)).2))else bif decide (((AA pC ((oA pC ((qA pC jA).2)).2) 10).1)=1)then((⟨(tB ((qA pC jA).1) ((oA pC ((qA pC jA).2)).1)).1.Time,((tB ((qA pC jA).1) ((oA pC ((qA pC jA).2)).1)).1.Rows++([(vB pC ((vC pC ((AA pC ((oA pC ((qA pC jA).2)).2) 10).2)).2) ((vC pC ((AA pC ((oA pC ((qA pC jA).2)).2) 10).2)).1)).1]:List LA))⟩:TB),((vB pC ((vC pC ((AA pC ((oA pC ((qA pC jA).2)).2) 10).2)).2) ((vC pC ((AA pC ((oA pC ((qA pC jA).2)).2) 10).2)).1)).2))else((tB ((qA pC jA).1) ((oA pC ((qA pC jA).2)).1)).1,((AA pC ((oA pC ((qA pC jA).2)).2) 10).2))
def UC(MB:List Int):TB:=(dC MB (0,0)).1
def mA(MB:List Int):TB:=(UC MB)
def cE(FC:Int)(GJ:Int)(PI:Int):Bool:=bif decide (GJ≤FC)then decide (FC≤PI)else false
def qF(vK:Int):Bool:=(cE vK 0 100000)
def SB(aB:Int):Bool:=bif decide (97≤aB)then bif decide (aB≤122)then true else bif decide (48≤aB)then decide (aB≤57)else false else bif decide (48≤aB)then decide (aB≤57)else false
def AC(jB:YA)(jA:Int):Int:=vN jB jA
def MD(jB:YA)(jA:Int):Int:=(AC jB jA)
def TC(jB:YA)(yD:YA)(k3:Nat):Unit→CF Bool Unit | ()=>bif SB ((jB.getD k3 0).toNat:Int)then .cont ()else bif decide ((MD yD ((jB.getD k3 0).toNat:Int))<0)then .ret false else .cont ()
def cF(jB:YA)(yD:YA):Bool:=JC (NA (TC jB yD) (jB.length-0) 0 ()) (fun r=>r) (fun _=>true)
def xF(jB:YA):Bool:=bif cE (jB.length:Int) 1 12 then(cF jB ([46,47]:YA))else false
def eC(BC:List YA)(k3:Nat):Unit→CF Bool Unit | ()=>bif xF (BC.getD k3 XC)then bif decide (0<(k3:Int))then bif UM (BC.getD k3 XC) (BC.getD ((IntKind.wrap .i64 ((k3:Int)-1)).toNat) XC)then .ret false else .cont ()else .cont ()else .ret false
def QD(BC:List YA):Bool:=JC (NA (eC BC) (BC.length-0) 0 ()) (fun r=>r) (fun _=>true)
def EB(jB:List LA)(OJ:LA→Bool)(k7:Nat):Unit→CF Int Unit | ()=>bif OJ (jB.getD k7 aA)then .ret (k7:Int)else .cont ()
def WC(jB:List LA)(OJ:LA→Bool):Int:=JC (NA (EB jB OJ) (jB.length-0) 0 ()) (fun r=>r) (fun _=>-1)
def DC(jB:List LA)(OJ:LA→Bool):Bool:=decide (0≤(WC jB OJ))
def kE(MA:List LA)(k10:Nat):(List YA)→CF (List YA) (List YA) | (x60)=>.cont ((x60++([(MA.getD k10 aA).Key]:List YA)))
def dE(MA:List LA):List YA:=JC (NA (kE MA) (MA.length-0) 0 (([]:List YA))) (fun r=>r) (fun x60=>x60)
def yF(jB:YA):Bool:=bif decide ((jB.length:Int)≤24)then(cF jB ([46,45,44,95]:YA))else false
def PC(ZE:YA)(jF:Bool):Bool:=bif yF ZE then bif jF then !(!(ZE==([]:YA)))else !false else false
def mE(bK:LA):Bool:=!(PC bK.Val bK.Gone)
def JD(MA:List LA):Bool:=bif decide ((MA.length:Int)≤24)then bif QD (dE MA)then !(DC MA (fun y0=>mE y0))else false else false
def nG(bK:LA):Bool:=bK.Gone
def pF(ZF:List LA):Bool:=bif JD ZF then !(DC ZF (fun y0=>nG y0))else false
def LB(jA:TB):Bool:=bif qF jA.Time then bif pF jA.Rows then bif decide (0<jA.Time)then true else decide ((jA.Rows.length:Int)=0)else false else false
def hC(FC:Int):Int×(List Int)→CF YA (Int×(List Int)) | (x27,x28)=>bif decide (128≤x27)then .cont (IntKind.wrap .i64 (Int.tdiv x27 128),(x28++([IntKind.wrap .u8 ((IntKind.wrap .u8 (Int.tmod x27 128))+128)]:List Int)))else .brk (x27,x28)
def bB(FC:Int):YA:=JC (IC (hC FC) (((FC).toNat)+1) (FC,([]:List Int))) (fun r=>r) (fun(x27,x28)=>TH (x28++([IntKind.wrap .u8 x27]:List Int)))
def cB(jB:YA):YA:=(bB (jB.length:Int))++jB
def XE(aB:YA)(k2:Nat):Int→CF Int Int | (x3)=>.cont (Int.tmod (IntKind.wrap .i64 ((IntKind.wrap .i64 ((IntKind.wrap .i64 (31*x3))+(IntKind.wrap .i64 ((aB.getD k2 0).toNat:Int))))+1)) 16000057)
def QC(aB:YA):Int:=JC (NA (XE aB) (aB.length-0) 0 (7)) (fun r=>r) (fun x3=>x3)
def nE(aB:YA):YA:=aB++(TH ([IntKind.wrap .u8 (Int.fdiv (QC aB) 65536),IntKind.wrap .u8 (Int.fdiv (QC aB) 256),IntKind.wrap .u8 (QC aB)]:List Int))
def ND(jA:TB)(k11:Nat):YA→CF YA YA | (x40)=>.cont (x40++((cB ((jA.Rows.getD k11 aA).Key))++(cB ((jA.Rows.getD k11 aA).Val))))
def gC(jA:TB):YA:=JC (NA (ND jA) (jA.Rows.length-0) 0 ((bB jA.Time)++(bB (jA.Rows.length:Int)))) (fun r=>r) (fun x40=>(nE x40))
def CA(jA:TB):YA×Bool:=bif LB jA then((gC jA),true)else(([]:YA),false)
def nC(MA:List LA)(k3:Nat):Unit→CF Bool Unit | ()=>bif rB ((MA.getD k3 aA).Key) ((MA.getD k3 aA).Val) ((MA.getD k3 aA).Gone)then bif decide (0<(k3:Int))then bif PJ ((MA.getD ((IntKind.wrap .i64 ((k3:Int)-1)).toNat) aA).Key) ((MA.getD k3 aA).Key)then .cont ()else .ret false else .cont ()else .ret false
def lD(MA:List LA):Bool:=JC (NA (nC MA) (MA.length-0) 0 ()) (fun r=>r) (fun _=>decide ((MA.length:Int)≤24))
def FD(jA:TB)(k9:Nat):Unit→CF Bool Unit | ()=>bif(jA.Rows.getD k9 aA).Gone then .ret false else .cont ()
def BD(jA:TB):Bool:=JC (NA (FD jA) (jA.Rows.length-0) 0 ()) (fun r=>r) (fun _=>bif tF jA.Time 0 100000 then bif lD jA.Rows then bif decide (0<jA.Time)then true else decide ((jA.Rows.length:Int)=0)else false else false)
def VD(FC:Int):Int×(List Int)→CF YA (Int×(List Int)) | (x20,x21)=>bif decide (128≤x20)then .cont (IntKind.wrap .i64 (Int.tdiv x20 128),(x21++([IntKind.wrap .u8 (IntKind.wrap .i64 ((Int.tmod x20 128)+128))]:List Int)))else .brk (x20,x21)
def KC(FC:Int):YA:=JC (IC (VD FC) (((FC).toNat)+1) (FC,([]:List Int))) (fun r=>r) (fun(x20,x21)=>TH (x21++([IntKind.wrap .u8 x20]:List Int)))
def MC(jB:YA):YA:=(KC (jB.length:Int))++jB
def BF(FC:Int):YA:=TH ([IntKind.wrap .u8 (IntKind.wrap .i64 (Int.tdiv FC 65536)),IntKind.wrap .u8 (Int.tmod (IntKind.wrap .i64 (Int.tdiv FC 256)) 256),IntKind.wrap .u8 (Int.tmod FC 256)]:List Int)
def LF(aB:YA)(k2:Nat):Int→CF Int Int | (x3)=>.cont (Int.tmod (IntKind.wrap .i64 ((IntKind.wrap .i64 ((IntKind.wrap .i64 (31*x3))+(IntKind.wrap .i64 ((aB.getD k2 0).toNat:Int))))+1)) 16000057)
def PG(aB:YA):Int:=JC (NA (LF aB) (aB.length-0) 0 (7)) (fun r=>r) (fun x3=>x3)
def oG(aB:YA):YA:=aB++(BF (PG aB))
def OD(jA:TB)(k15:Nat):YA→CF (YA×Bool) YA | (x22)=>.cont ((x22++(MC ((jA.Rows.getD k15 aA).Key)))++(MC ((jA.Rows.getD k15 aA).Val)))
def AD(jA:TB):YA×Bool:=bif BD jA then JC (NA (OD jA) (jA.Rows.length-0) 0 ((KC jA.Time)++(KC (jA.Rows.length:Int)))) (fun r=>r) (fun x22=>((oG x22),true))else(([]:YA),false)
def gA(aB:YA):YA×Bool:=bif cE (aB.length:Int) 3 6000 then bif(nE (aB.take ((IntKind.wrap .i64 ((aB.length:Int)-3)).toNat)))==aB then((aB.take ((IntKind.wrap .i64 ((aB.length:Int)-3)).toNat)),true)else(([]:YA),false)else(([]:YA),false)
def WA(tA:YA)(mC:Int×Bool):(Int×Bool):=(mC.1,true)
def cA(tA:YA)(mC:Int×Bool)(FC:Int):YA×(Int×Bool):=bif mC.2 then(([]:YA),(WA tA mC))else bif decide ((IntKind.wrap .i64 ((tA.length:Int)-mC.1))<FC)then(([]:YA),(WA tA mC))else(((tA.take ((IntKind.wrap .i64 (mC.1+FC)).toNat)).drop ((IntKind.wrap .i64 ((IntKind.wrap .i64 (mC.1+FC))-FC)).toNat)),(IntKind.wrap .i64 (mC.1+FC),mC.2))
def fB(tA:YA)(mC:Int×Bool):Int×Int×Int×Bool→CF (Int×(Int×Bool)) (Int×Int×Int×Bool) | (x27,x28,x29,x30)=>bif((cA tA (x29,x30) 1).2).2 then .ret (0,((cA tA (x29,x30) 1).2))else bif decide (1000000000<(IntKind.wrap .i64 (x27+(IntKind.wrap .i64 ((IntKind.wrap .i64 (Int.tmod ((((cA tA (x29,x30) 1).1).getD 0 0).toNat:Int) 128))*x28)))))then .ret (0,(WA tA ((cA tA (x29,x30) 1).2)))else bif decide (5<(IntKind.wrap .i64 ((((cA tA (x29,x30) 1).2).1)-mC.1)))then .ret (0,(WA tA ((cA tA (x29,x30) 1).2)))else bif decide (((((cA tA (x29,x30) 1).1).getD 0 0).toNat:Int)<128)then .brk (IntKind.wrap .i64 (x27+(IntKind.wrap .i64 ((IntKind.wrap .i64 (Int.tmod ((((cA tA (x29,x30) 1).1).getD 0 0).toNat:Int) 128))*x28))),x28,((cA tA (x29,x30) 1).2).1,((cA tA (x29,x30) 1).2).2)else .cont (IntKind.wrap .i64 (x27+(IntKind.wrap .i64 ((IntKind.wrap .i64 (Int.tmod ((((cA tA (x29,x30) 1).1).getD 0 0).toNat:Int) 128))*x28))),IntKind.wrap .i64 (x28*128),((cA tA (x29,x30) 1).2).1,((cA tA (x29,x30) 1).2).2)
def dA(tA:YA)(mC:Int×Bool):Int×(Int×Bool):=JC (IC (fB tA mC) (((6-(mC.1-mC.1)).toNat)+1) (0,1,mC.1,mC.2)) (fun r=>r) (fun(x27,x28,x29,x30)=>bif(bB x27)==((tA.take ((x29).toNat)).drop ((mC.1).toNat))then(x27,(x29,x30))else(0,(WA tA (x29,x30))))
def wA(tA:YA)(mC:Int×Bool):YA×(Int×Bool):=bif decide (60<((dA tA mC).1))then(([]:YA),(WA tA ((dA tA mC).2)))else((cA tA ((dA tA mC).2) ((dA tA mC).1)).1,((cA tA ((dA tA mC).2) ((dA tA mC).1)).2))
def aC(aB:YA):Int×Int×Bool×(List LA)→CF (TB×Bool) (Int×Int×Bool×(List LA)) | (x65,x66,x67,x68)=>bif decide (0<x65)then bif x67 then .brk (x65,x66,x67,x68)else .cont (IntKind.wrap .i64 (x65-1),((wA ((gA aB).1) ((wA ((gA aB).1) (x66,x67)).2)).2).1,((wA ((gA aB).1) ((wA ((gA aB).1) (x66,x67)).2)).2).2,(x68++([(⟨(wA ((gA aB).1) (x66,x67)).1,(wA ((gA aB).1) ((wA ((gA aB).1) (x66,x67)).2)).1,false⟩:LA)]:List LA)))else .brk (x65,x66,x67,x68)
def qB(aB:YA):TB×Bool:=bif(gA aB).2 then JC (IC (aC aB) ((((dA ((gA aB).1) ((dA ((gA aB).1) (0,false)).2)).1).toNat)+1) ((dA ((gA aB).1) ((dA ((gA aB).1) (0,false)).2)).1,((dA ((gA aB).1) ((dA ((gA aB).1) (0,false)).2)).2).1,((dA ((gA aB).1) ((dA ((gA aB).1) (0,false)).2)).2).2,([]:List LA))) (fun r=>r) (fun(x65,x66,x67,x68)=>bif x67 then((⟨0,[]⟩:TB),false)else bif LB (⟨(dA ((gA aB).1) (0,false)).1,x68⟩:TB)then bif(gC (⟨(dA ((gA aB).1) (0,false)).1,x68⟩:TB))==aB then((⟨(dA ((gA aB).1) (0,false)).1,x68⟩:TB),true)else((⟨0,[]⟩:TB),false)else((⟨0,[]⟩:TB),false))else((⟨0,[]⟩:TB),false)
def UD(MB:List Int)(IN:Int):Int:=bif decide (IN<(MB.length:Int))then IntKind.wrap .i64 (MB.getD ((IN).toNat) QF)else Int.tmod (IntKind.wrap .i64 ((IntKind.wrap .i64 (IN*7))+(MB.length:Int))) 256
def rE(PF:List LA)(aB:List LA)(k6:Nat):Unit→CF Bool Unit | ()=>bif(((PF.getD k6 aA).Key)==((aB.getD k6 aA).Key))&&((((PF.getD k6 aA).Val)==((aB.getD k6 aA).Val))&&(((PF.getD k6 aA).Gone)==((aB.getD k6 aA).Gone)))then .cont ()else .ret false
def eG(PF:List LA)(aB:List LA):Bool:=bif decide ((PF.length:Int)=(aB.length:Int))then JC (NA (rE PF aB) (PF.length-0) 0 ()) (fun r=>r) (fun _=>true)else false
def vG(PF:TB)(aB:TB):Bool:=bif decide (PF.Time=aB.Time)then(eG PF.Rows aB.Rows)else false
def IB(SC:List Int):Bool:=bif GH SC then true else bif((CA (mA SC)).1)==((AD (mA SC)).1)then bif((CA (mA SC)).2)==((AD (mA SC)).2)then bif(CA (mA SC)).2 then bif(qB ((CA (mA SC)).1)).2 then bif vG ((qB ((CA (mA SC)).1)).1) (mA SC)then !((qB (TH ((pG ((CA (mA SC)).1)).set ((Int.tmod (UD SC 50) ((pG ((CA (mA SC)).1)).length:Int)).toNat) (aK .u8 ((pG ((CA (mA SC)).1)).getD ((Int.tmod (UD SC 50) ((pG ((CA (mA SC)).1)).length:Int)).toNat) QF) (IntKind.wrap .u8 (IntKind.wrap .i64 (1+(Int.tmod (UD SC 51) 255)))))))).2)else false else false else !((qB ((CA (mA SC)).1)).2)else false else false
def cI(jA:TB):Bool:=(BD jA)
def FH(TL:Int):Bool:=(cE TL 1 100000)
def gI(jA:JA)(k9:Nat):Unit→CF Bool Unit | ()=>bif FH ((jA.Vers.getD k9 ZA).Time)then bif PC ((jA.Vers.getD k9 ZA).Val) ((jA.Vers.getD k9 ZA).Gone)then bif decide (0<(k9:Int))then bif decide (((jA.Vers.getD k9 ZA).Time)≤((jA.Vers.getD ((IntKind.wrap .i64 ((k9:Int)-1)).toNat) ZA).Time))then .ret false else .cont ()else .cont ()else .ret false else .ret false
def TF(jA:JA):Bool:=JC (NA (gI jA) (jA.Vers.length-0) 0 ()) (fun r=>r) (fun _=>(cE (jA.Vers.length:Int) 1 16))
def nH(MA:List JA)(k10:Nat):(List YA)→CF Bool (List YA) | (x70)=>bif TF (MA.getD k10 vA)then .cont ((x70++([(MA.getD k10 vA).Key]:List YA)))else .ret false
def MG(MA:List JA):Bool:=JC (NA (nH MA) (MA.length-0) 0 (([]:List YA))) (fun r=>r) (fun x70=>bif decide ((MA.length:Int)≤24)then(QD x70)else false)
def zP(n k:Nat):List Nat:=(List.range k).map fun j=>n-1-j
def LH(jA:JA)(XA:Int):YA×Bool:=
 match (zP jA.Vers.length jA.Vers.length).find? (fun x=>decide ((jA.Vers.getD x ZA).Time≤XA))with
 | some x=>((jA.Vers.getD x ZA).Val,!(jA.Vers.getD x ZA).Gone)
 | none=>([],false)
def QG(MA:List JA)(XA:Int)(k10:Nat):(List LA)→CF (List LA) (List LA) | (x72)=>bif(LH (MA.getD k10 vA) XA).2 then .cont ((x72++([(⟨(MA.getD k10 vA).Key,(LH (MA.getD k10 vA) XA).1,false⟩:LA)]:List LA)))else .cont (x72)
def NI(MA:List JA)(XA:Int):List LA:=JC (NA (QG MA XA) (MA.length-0) 0 (([]:List LA))) (fun r=>r) (fun x72=>x72)
def vI(MA:List JA)(XA:Int):TB×Bool:=bif MG MA then bif qF XA then((⟨XA,(NI MA XA)⟩:TB),true)else((⟨0,[]⟩:TB),false)else((⟨0,[]⟩:TB),false)
end Go.Proofs.Ytikkoidgamlgnaa
