/- Clear Piece: plain laws of the models. -/
import Derived.Test.YtoimdjojffkefaaGreatDoorClearPieceT
set_option linter.unusedVariables false
set_option linter.unusedSimpArgs false
namespace Go.Proofs.YtoimdjojffkefaaGreatDoor
open Go.RowKit Go.X
theorem VU{x:zE}{L:Int}(hw:qO x)(hL:0≤L∧L≤1048576)(h:¬TH x L<0):FK x∧0≤TH x L∧TH x L≤1048576:=by
 unfold TH at h ⊢
 obtain⟨a0,e0,h⟩:=eW h
 rw[e0]
 have s0:=WM hw.1 hL a0
 exact⟨s0.1,s0.2⟩
theorem DW(x:zE):MS x=x:=rfl
theorem qW(x:zE):AH x x=true:=by unfold AH;simp only[beq_self_eq_true,cond_true,decide_true]
theorem xR(x:List QA)(L:Int):mE x L=WT (fun s L=>IntKind.wrap .i64 (L-(s.length:Int))) uB x L:=by
 unfold mE WT dW
 have:UE x L=fun k y=>bif decide (IntKind.wrap .i64 (y-((x.getD k uB).length:Int))<0)then .ret (-1)else .cont (IntKind.wrap .i64 (y-((x.getD k uB).length:Int))):=by
  funext k y;rfl
 rw[this]
theorem mQ{x:List QA}{L:Int}(hw:(CR GM) x)(hL:0≤L∧L≤1048576)(h:¬mE x L<0):(WE sE) x∧0≤mE x L∧mE x L≤1048576:=by
 rw[xR]at h ⊢
 exact lQ uB WM hw hL h
theorem DS(x:List QA):hN x=x:=CS uB (f:=fun s=>s) (fun _=>rfl) x
theorem ZR(x:List QA):ZG x x=true:=UN uB (f:=fun a b=>a==b) (fun _=>beq_self_eq_true _) x
theorem XT{x:List zE}{L:Int}(hw:(CR qO) x)(hL:0≤L∧L≤1048576)(h:¬IH x L<0):(WE FK) x∧0≤IH x L∧IH x L≤1048576:=lQ IA (f:=TH) VU hw hL h
theorem PV(x:List zE):jR x=x:=CS IA (f:=fun s=>s) (fun _=>rfl) x
theorem yV(x:List zE):CI x x=true:=UN IA (f:=AH) qW x
theorem RD{x:BB}{L:Int}(hw:wL x)(hL:0≤L∧L≤1048576)(h:¬VD x L<0):LF x∧0≤VD x L∧VD x L≤1048576:=by
 unfold VD at h ⊢
 obtain⟨a0,e0,h⟩:=eW h
 rw[e0]
 have s0:=WM hw.1 hL a0
 obtain⟨a1,e1,h⟩:=eW h
 rw[e1]
 have s1:=mQ hw.2.1 s0.2 a1
 obtain⟨a2,e2,h⟩:=eW h
 rw[e2]
 have s2:=XT hw.2.2 s1.2 a2
 exact⟨⟨s0.1,s1.1,s2.1⟩,s2.2⟩
theorem XU(x:BB):iP x=x:=rfl
theorem vU(x:BB):nG x x=true:=by unfold nG;simp only[ZR,yV,beq_self_eq_true,cond_true,decide_true]
theorem BS{x:dA}{L:Int}(hw:oK x)(hL:0≤L∧L≤1048576)(h:¬KF x L<0):nB x∧0≤KF x L∧KF x L≤1048576:=by
 unfold KF at h ⊢
 obtain⟨a0,e0,h⟩:=eW h
 rw[e0]
 have s0:=WM hw.1 hL a0
 obtain⟨a1,e1,h⟩:=eW h
 rw[e1]
 have s1:=WM hw.2 s0.2 a1
 exact⟨⟨s0.1,s1.1⟩,s1.2⟩
theorem YU(x:dA):jP x=x:=rfl
theorem wU(x:dA):dG x x=true:=by unfold dG;simp only[beq_self_eq_true,cond_true,decide_true]
theorem EJ{x:ND}{L:Int}(hw:zN x)(hL:0≤L∧L≤1048576)(h:¬YH x L<0):XG x∧0≤YH x L∧YH x L≤1048576:=by
 unfold YH at h ⊢
 obtain⟨a0,e0,h⟩:=eW h
 rw[e0]
 have s0:=WM hw hL a0
 exact⟨s0.1,s0.2⟩
theorem OV(x:ND):iR x=x:=rfl
theorem xV(x:ND):nI x x=true:=by unfold nI;simp only[beq_self_eq_true,cond_true,decide_true]
theorem oF{x:List dA}{L:Int}(hw:(CR oK) x)(hL:0≤L∧L≤1048576)(h:¬RE x L<0):(WE nB) x∧0≤RE x L∧RE x L≤1048576:=lQ lA (f:=KF) BS hw hL h
theorem ZT(x:List dA):cO x=x:=CS lA (f:=fun s=>s) (fun _=>rfl) x
theorem rT(x:List dA):QG x x=true:=UN lA (f:=dG) wU x
def OJ(_:dA)(k:Int):Int×dA:=(IntKind.wrap .i64 ((IntKind.wrap .i64 ((IntKind.wrap .i64 (k+1))+1))+1),⟨LB k,LB (IntKind.wrap .i64 (k+1)),decide (Int.tmod (IntKind.wrap .i64 ((IntKind.wrap .i64 (k+1))+1)) 3=0)⟩)
theorem oP(x:dA)(k:Int)(h0:0≤k)(h1:k+((3:Nat):Int)≤4611686018427387904):(OJ x k).1=k+((3:Nat):Int):=by
 unfold OJ
 simp only[IntKind.wrap_i64];omega
theorem oL(a:List dA)(k:Int):HC a k=eO OJ a k:=by
 unfold HC
 exact JU (d:=lA) (mk:=OJ) (fun i k xs hi=>by unfold lG;simp only[List.set_set,wF hi,OJ]) a k
theorem aR(a:List dA)(k:Int)(h0:0≤k)(h1:k+(PM (fun _=>3) a:Int)≤4611686018427387904):MD (HC a k).2 k=(HC a k).1:=by
 rw[oL]
 unfold MD
 exact AU (d:=lA) (mk:=OJ) (c:=fun _=>3) a k oP (fun i k x hx _ _=>by unfold QC;simp only[hx,OJ,eq_self,decide_true,beq_self_eq_true,cond_true]) h0 h1
theorem nP(a:List dA)(k:Int)(h0:0≤k)(h1:k+(((3:Nat)*a.length:Nat):Int)≤4611686018427387904):MD (HC a k).2 k=(HC a k).1∧(HC a k).1=k+(((3:Nat)*a.length:Nat):Int)∧(HC a k).2.length=a.length:=by
 rw[←zK]at h1 ⊢
 refine⟨aR a k h0 h1,?_,?_⟩
 ·rw[oL];exact yN oP a k h0 h1
 ·rw[oL];exact NJ _ _ _
theorem ML(a:List dA)(k:Int)(h:k≤9223372036854775807):(HC a k).1≤9223372036854775807:=by
 unfold HC
 refine jD (fun _ (s:Int×List dA)=>s.1≤9223372036854775807) (fun(v:Int×List dA)=>v.1≤9223372036854775807) h (fun s hs=>hs) ?_
 rintro j ⟨k,x⟩ _ _ hk
 exact AN _
theorem LL(a:List dA)(k:Int)(h:k≤9223372036854775807):MD a k≤9223372036854775807:=by
 unfold MD
 refine jD (fun _ (s:Int)=>s≤9223372036854775807) (fun v=>v≤9223372036854775807) h (fun s hs=>hs) ?_
 intro j k' _ _ hk
 unfold QC
 dsimp only
 cases (((a.getD j lA).Key)==LB k')<;>cases (((a.getD j lA).Val)==LB (IntKind.wrap .i64 (k'+1)))<;>cases (((a.getD j lA).Gone)==decide (Int.tmod (IntKind.wrap .i64 ((IntKind.wrap .i64 (k'+1))+1)) 3=0))<;>first | exact AN _ | exact FV
theorem uO(xs:List zE)(f:zE→Bool):vE xs f=bR f IA xs:=rfl
theorem FJ(xs:List dA)(f:dA→Bool):dE xs f=xs.any f:=YN f lA xs
theorem rN(xs:List QA)(y:QA):FE xs y=xs.any (fun x=>y==x):=YN _ uB xs
def UI(_:QA)(k:Int):Int×QA:=(IntKind.wrap .i64 (k+1),LB k)
theorem fO(x:QA)(k:Int)(h0:0≤k)(h1:k+((1:Nat):Int)≤4611686018427387904):(UI x k).1=k+((1:Nat):Int):=by
 unfold UI
 simp only[IntKind.wrap_i64];omega
theorem EK(a:List QA)(k:Int):wD a k=eO UI a k:=by
 unfold wD
 exact JU (d:=uB) (mk:=UI) (fun i k xs hi=>by unfold QF;simp only[List.set_set,wF hi,UI]) a k
theorem VP(a:List QA)(k:Int)(h0:0≤k)(h1:k+(PM (fun _=>1) a:Int)≤4611686018427387904):cI (wD a k).2 k=(wD a k).1:=by
 rw[EK]
 unfold cI
 exact AU (d:=uB) (mk:=UI) (c:=fun _=>1) a k fO (fun i k x hx _ _=>by unfold SJ;simp only[hx,UI,eq_self,decide_true,beq_self_eq_true,cond_true]) h0 h1
theorem kS(a:List QA)(k:Int)(h0:0≤k)(h1:k+(((1:Nat)*a.length:Nat):Int)≤4611686018427387904):cI (wD a k).2 k=(wD a k).1∧(wD a k).1=k+(((1:Nat)*a.length:Nat):Int)∧(wD a k).2.length=a.length:=by
 rw[←zK]at h1 ⊢
 refine⟨VP a k h0 h1,?_,?_⟩
 ·rw[EK];exact yN fO a k h0 h1
 ·rw[EK];exact NJ _ _ _
theorem rL(a:List QA)(k:Int)(h:k≤9223372036854775807):(wD a k).1≤9223372036854775807:=by
 unfold wD
 refine jD (fun _ (s:Int×List QA)=>s.1≤9223372036854775807) (fun(v:Int×List QA)=>v.1≤9223372036854775807) h (fun s hs=>hs) ?_
 rintro j ⟨k,x⟩ _ _ hk
 exact AN _
def dM(_:zE)(k:Int):Int×zE:=(IntKind.wrap .i64 ((IntKind.wrap .i64 ((IntKind.wrap .i64 (k+1))+1))+1),⟨LB k,IntKind.wrap .i64 (k+1),IntKind.wrap .i64 ((IntKind.wrap .i64 (k+1))+1)⟩)
theorem NS(x:zE)(k:Int)(h0:0≤k)(h1:k+((3:Nat):Int)≤4611686018427387904):(dM x k).1=k+((3:Nat):Int):=by
 unfold dM
 simp only[IntKind.wrap_i64];omega
theorem QM(a:List zE)(k:Int):kF a k=eO dM a k:=by
 unfold kF
 exact JU (d:=IA) (mk:=dM) (fun i k xs hi=>by unfold cH;simp only[List.set_set,wF hi,dM]) a k
theorem xT(a:List zE)(k:Int)(h0:0≤k)(h1:k+(PM (fun _=>3) a:Int)≤4611686018427387904):MJ (kF a k).2 k=(kF a k).1:=by
 rw[QM]
 unfold MJ
 exact AU (d:=IA) (mk:=dM) (c:=fun _=>3) a k NS (fun i k x hx _ _=>by unfold RK;simp only[hx,dM,eq_self,decide_true,beq_self_eq_true,cond_true]) h0 h1
theorem EV(a:List zE)(k:Int)(h0:0≤k)(h1:k+(((3:Nat)*a.length:Nat):Int)≤4611686018427387904):MJ (kF a k).2 k=(kF a k).1∧(kF a k).1=k+(((3:Nat)*a.length:Nat):Int)∧(kF a k).2.length=a.length:=by
 rw[←zK]at h1 ⊢
 refine⟨xT a k h0 h1,?_,?_⟩
 ·rw[QM];exact yN NS a k h0 h1
 ·rw[QM];exact NJ _ _ _
theorem nN(a:List zE)(k:Int)(h:k≤9223372036854775807):(kF a k).1≤9223372036854775807:=by
 unfold kF
 refine jD (fun _ (s:Int×List zE)=>s.1≤9223372036854775807) (fun(v:Int×List zE)=>v.1≤9223372036854775807) h (fun s hs=>hs) ?_
 rintro j ⟨k,x⟩ _ _ hk
 exact AN _
theorem KU(a:BB)(k:Int)(h0:0≤k)(h1:k+((1*a.Cols.length+3*a.Idxs.length:Nat):Int)≤4611686018427387904):nL (WD a k).2 k=(WD a k).1∧(WD a k).1=k+((1*a.Cols.length+3*a.Idxs.length:Nat):Int):=by
 obtain⟨e0,n0,_⟩:=kS a.Cols k oM oM
 obtain⟨e1,n1,_⟩:=EV a.Idxs (k+((1*a.Cols.length:Nat):Int)) oM oM
 have q1:nL (WD a k).2 k=(k+((1*a.Cols.length:Nat):Int))+((3*a.Idxs.length:Nat):Int):=by unfold nL WD;simp only[e0,n0,e1,n1,decide_eq_false (show ¬k+((1*a.Cols.length:Nat):Int)<0 by omega),decide_eq_false (show ¬(k+((1*a.Cols.length:Nat):Int))+((3*a.Idxs.length:Nat):Int)<0 by omega),cond_false]
 have q2:(WD a k).1=(k+((1*a.Cols.length:Nat):Int))+((3*a.Idxs.length:Nat):Int):=by unfold WD;simp only[n0,n1]
 exact⟨q1.trans q2.symm,q2.trans oM⟩
theorem gQ(a:BB)(k:Int)(h:k≤9223372036854775807):(WD a k).1≤9223372036854775807:=by
 unfold WD
 exact(nN _ _ (rL _ _ h))
theorem EL:AC=fD:=rfl
theorem dK{n lo hi:Int}(h:fD n lo hi=true):lo≤n∧n≤hi:=by
 unfold fD at h
 obtain⟨h1,h2⟩:=eE h
 exact⟨of_decide_eq_true h1,of_decide_eq_true h2⟩
theorem kK{n lo hi:Int}(h:AC n lo hi=true):lo≤n∧n≤hi:=dK h
theorem NO(l:List UInt8)(c:UInt8):decide (Lib.indexByte l c<0)=!(l.contains c):=by
 induction l with
 | nil=>rfl
 | cons b l ih=>
  have hge:=Lib.indexByte_ge l c
  rw[Bool.eq_iff_iff]at ih ⊢
  simp only[decide_eq_true_eq,Bool.not_eq_true',List.contains_cons]at ih ⊢
  unfold Lib.indexByte
  by_cases hb:b=c
  ·subst hb;simp
  ·have hb1:(b==c)=false:=by simpa using hb
   have hb2:(c==b)=false:=by simpa using fun h=>hb h.symm
   rw[hb1,hb2]
   simp only[Bool.false_or,Bool.false_eq_true,if_false]
   split
   ·rename_i h
    have:Lib.indexByte l c=-1:=by simpa using h
    rw[←ih];omega
   ·rename_i h
    have:Lib.indexByte l c≠-1:=by simpa using h
    constructor
    ·intro h;omega
    ·intro h;have:=ih.2 h;omega
theorem byte_back(b:UInt8):((b.toNat:Int)).toNat.toUInt8=b:=by simp
theorem CU(s:QA)(b:UInt8):decide (yT s (b.toNat:Int)<0)=!(s.contains b):=by
 unfold yT
 rw[byte_back,NO]
def SK(more:QA)(b:UInt8):Bool:=iD (b.toNat:Int)||more.contains b
theorem lL(s more:QA):vH s more=s.all (SK more):=by
 unfold vH
 rw[bT (0:UInt8) (SK more) (r:=false) fun k=>by
  unfold AE SK cG eD
  rw[CU]
  cases iD ((s.getD k 0).toNat:Int)<;>cases more.contains (s.getD k 0)<;>rfl]
 cases s.all (SK more)<;>rfl
theorem yR(a b:UInt8):decide ((a.toNat:Int)=(b.toNat:Int))=(a==b):=by
 rw[Bool.eq_iff_iff,decide_eq_true_iff,beq_iff_eq]
 constructor
 ·intro h;exact UInt8.toNat.inj oM
 ·intro h;rw[h]
theorem kX{T:Type}(s more:QA)(k:Nat)(x0:Bool)(fr:Bool→T)(fd:Bool→T):OC (BA (zB s more k) (more.length-0) 0 x0) fr fd=fd (x0||more.contains (s.getD k 0)):=by
 rw[yX (0:UInt8) (fun b=>(s.getD k 0)==b) fun j x=>by
  unfold zB
  rw[yR]
  cases x<;>rfl]
 rw[List.contains_eq_any_beq]
theorem DK(s more:QA):sF s more=s.all (SK more):=by
 unfold sF
 rw[bT (0:UInt8) (SK more) (r:=false) fun k=>by
  unfold cC SK iD
  simp only[kX]
  cases decide (97≤((s.getD k 0).toNat:Int))<;>cases decide (((s.getD k 0).toNat:Int)≤122)<;>cases decide (48≤((s.getD k 0).toNat:Int))<;>cases decide (((s.getD k 0).toNat:Int)≤57)<;>cases more.contains (s.getD k 0)<;>rfl]
 cases s.all (SK more)<;>rfl
theorem FN(s:QA):bI s=fE s:=by
 unfold bI fE
 rw[lL,DK,EL]
theorem wQ(f:ND):uH f=lH f:=by
 unfold uH lH
 rw[FN]
theorem ER(s:QA):tI s=mH s:=by
 unfold tI mH
 rw[lL,DK]
theorem nQ(l:List dA):BG l=l.map (·.Key):=by
 unfold BG
 rw[lX (body:=KG l) (xs:=l) lA (fun w=>w.Key) fun k x _=>rfl]
 rfl
def RI(ks:List QA)(k:Nat):Bool:=bif decide (0<(k:Int))then aI (ks.getD ((IntKind.wrap .i64 ((k:Int)-1)).toNat) uB) (ks.getD k uB)else true
theorem AP(ks:List QA):AG ks=(List.range ks.length).all fun k=>fE (ks.getD k uB)&&RI ks k:=by
 unfold AG
 rw[lP (fun k=>fE (ks.getD k uB)&&RI ks k) (r:=false) fun k _=>by
  unfold CD RI
  rw[FN,HK]
  cases fE (ks.getD k uB)<;>cases decide (0<(k:Int))<;>cases aI (ks.getD ((IntKind.wrap .i64 ((k:Int)-1)).toNat) uB) (ks.getD k uB)<;>rfl]
 cases (List.range ks.length).all fun k=>fE (ks.getD k uB)&&RI ks k<;>rfl
theorem iJ(l:List dA):TE l=(((List.range l.length).all fun k=>kD ((l.getD k lA).Key) ((l.getD k lA).Val) ((l.getD k lA).Gone)&&RI (l.map (·.Key)) k)&&decide ((l.length:Int)≤24)):=by
 have hg:∀k,(l.map (·.Key)).getD k uB=(l.getD k lA).Key:=by
  intro k
  simp only[List.getD_eq_getElem?_getD,List.getElem?_map]
  cases l[k]? <;> rfl
 unfold TE
 rw[lP (fun k=>kD ((l.getD k lA).Key) ((l.getD k lA).Val) ((l.getD k lA).Gone)&&RI (l.map (·.Key)) k) (r:=false) fun k _=>by
  unfold JD RI
  rw[hg,hg]
  cases kD ((l.getD k lA).Key) ((l.getD k lA).Val) ((l.getD k lA).Gone)<;>cases decide (0<(k:Int))<;>cases aI (l.getD ((IntKind.wrap .i64 ((k:Int)-1)).toNat) lA).Key (l.getD k lA).Key<;>rfl]
 cases ((List.range l.length).all fun k=>kD ((l.getD k lA).Key) ((l.getD k lA).Val) ((l.getD k lA).Gone)&&RI (l.map (·.Key)) k)<;>rfl
theorem qV{α:Type}(l:List α)(p q:α→Bool):(l.all p&&l.all q)=l.all fun x=>p x&&q x:=by
 induction l with
 | nil=>rfl
 | cons x l ih=>
  simp only[List.all_cons,←ih]
  cases p x<;>cases q x<;>cases l.all p<;>rfl
theorem fN(v:QA)(g:Bool):FF v g=(mH v&&(!g||v==([]:QA))):=by
 unfold FF
 rw[ER]
 cases mH v<;>cases g<;>cases (v==([]:QA))<;>rfl
theorem bO(k v:QA)(g:Bool):kD k v g=(fE k&&FF v g):=by
 rw[fN]
 unfold kD
 cases fE k<;>cases mH v<;>cases g<;>cases (v==([]:QA))<;>rfl
theorem tO(l:List dA):YF l=TE l:=by
 have hg:∀k,(l.map (·.Key)).getD k uB=(l.getD k lA).Key:=by
  intro k
  simp only[List.getD_eq_getElem?_getD,List.getElem?_map]
  cases l[k]? <;> rfl
 unfold YF
 rw[nQ,AP,iJ,FJ,List.length_map]
 have h1:(!(l.any fun y=>PG y))=(List.range l.length).all fun k=>FF (l.getD k lA).Val (l.getD k lA).Gone:=by
  rw[List.not_any_eq_all_not,←sP lA]
  unfold PG
  simp only[Bool.not_not]
 rw[h1]
 have h2:((List.range l.length).all fun k=>kD ((l.getD k lA).Key) ((l.getD k lA).Val) ((l.getD k lA).Gone)&&RI (l.map (·.Key)) k)=(((List.range l.length).all fun k=>fE ((l.map (·.Key)).getD k uB)&&RI (l.map (·.Key)) k)&&(List.range l.length).all fun k=>FF (l.getD k lA).Val (l.getD k lA).Gone):=by
  rw[qV]
  congr 1;funext k
  rw[bO,hg]
  cases fE (l.getD k lA).Key<;>cases FF (l.getD k lA).Val (l.getD k lA).Gone<;>cases RI (l.map (·.Key)) k<;>rfl
 rw[h2]
 cases decide ((l.length:Int)≤24)<;>cases ((List.range l.length).all fun k=>fE ((l.map (·.Key)).getD k uB)&&RI (l.map (·.Key)) k)<;>cases ((List.range l.length).all fun k=>FF (l.getD k lA).Val (l.getD k lA).Gone)<;>rfl
theorem BL(l:List dA):HH l=(TE l&&l.all fun w=>!w.Gone):=by
 unfold HH
 rw[tO,FJ,List.not_any_eq_all_not]
 cases TE l<;>rfl
theorem cM:oC=DB:=by
 funext s m
 unfold oC DB
 rfl
theorem ZN(s:QA):GH s=GF s:=by
 unfold GH GF
 rw[lL,DK,EL]
theorem AT(l:List QA)(s:QA):decide (0≤zJ l s)=l.any fun x=>x==s:=by
 have:zJ l s=bR (fun x=>x==s) uB l:=rfl
 rw[this,YN]
def PN(l:List QA)(k:Nat):Bool:=DB (l.getD k uB) 3&&!((l.take k).any fun x=>x==l.getD k uB)
theorem aO(l:List QA):bH l=((List.range l.length).all (PN l)&&fD (l.length:Int) 2 4):=by
 unfold bH
 rw[lP (PN l) (r:=false) fun k _=>by
  unfold EE PN
  rw[AT]
  cases DB (l.getD k uB) 3<;>cases ((l.take k).any fun x=>x==l.getD k uB)<;>rfl]
 cases (List.range l.length).all (PN l)<;>rfl
theorem rI(t:BB):ZC t=zC t:=by
 unfold ZC zC
 rw[aO,cM,EL]
 rw[lP (PN t.Cols) (r:=false) fun k _=>by
  unfold SD PN
  rw[rN,cM]
  rw[show((t.Cols.take k).any fun x=>t.Cols.getD k uB==x)=((t.Cols.take k).any fun x=>x==t.Cols.getD k uB)by congr 1;funext x;rw[Bool.beq_comm]]
  cases DB (t.Cols.getD k uB) 3<;>cases ((t.Cols.take k).any fun x=>x==t.Cols.getD k uB)<;>rfl]
 have hb:vC t=mC t:=by
  funext k u
  unfold vC mC bF
  rw[cM,EL,HK]
  cases DB ((t.Idxs.getD k IA).Name) 1<;>cases fD ((t.Idxs.getD k IA).Col) 1 (IntKind.wrap .i64 ((t.Cols.length:Int)-1))<;>cases fD ((t.Idxs.getD k IA).Stage) 0 3<;>cases decide (0<(k:Int))<;>cases aI ((t.Idxs.getD ((IntKind.wrap .i64 ((k:Int)-1)).toNat) IA).Name) ((t.Idxs.getD k IA).Name)<;>rfl
 rw[hb]
 cases DB t.Name 1<;>cases fD (t.Cols.length:Int) 2 4<;>cases decide (3<(t.Idxs.length:Int))<;>cases (List.range t.Cols.length).all (PN t.Cols)<;>rfl
theorem BI{t:BB}(h:zC t=true):2≤(t.Cols.length:Int)∧(t.Cols.length:Int)≤4∧(t.Idxs.length:Int)≤3:=by
 unfold zC at h
 obtain⟨_,h⟩:=eE h
 obtain⟨h1,h⟩:=eE h
 rw[aO,Bool.and_eq_true]at h1
 have h2:=dK h1.2
 refine⟨h2.1,h2.2,?_⟩
 cases h3:decide (3<(t.Idxs.length:Int))
 ·have:=of_decide_eq_false h3;omega
 ·rw[h3]at h;cases h
theorem MO{t:BB}(h:ZC t=true):2≤(t.Cols.length:Int)∧(t.Cols.length:Int)≤4∧(t.Idxs.length:Int)≤3:=BI (rI t▸h)
theorem LI(t:BB)(s:QA):vD t s=uE t s:=by
 unfold vD
 rw[uO]
 rfl
theorem fR(t:BB)(n:QA):uE t n=bR (fun y=>aE y n) IA t.Idxs:=rfl
theorem gN(t:BB)(n:QA):(uE t n=-1∧∀x∈t.Idxs,x.Name≠n)∨∃(k:Nat) (_:k<t.Idxs.length),uE t n=(k:Int)∧(t.Idxs.getD k IA).Name=n∧∀j,j<k→(t.Idxs.getD j IA).Name≠n:=by
 rw[fR]
 rcases CJ (fun y=>aE y n) IA t.Idxs with⟨h1,h2⟩ | ⟨k,hk,h1,h2,h3⟩
 ·exact .inl ⟨h1,fun x hx e=>by have:=h2 x hx;unfold aE at this;rw[e,beq_self_eq_true]at this;cases this⟩
 ·refine .inr ⟨k,hk,h1,?_,fun j hj e=>?_⟩
  ·rw[nE hk];unfold aE at h2;exact eq_of_beq h2
  ·have:=h3 j hj;rw[nE oM]at e;unfold aE at this;rw[e,beq_self_eq_true]at this;cases this
theorem ZJ(t:BB)(n:QA):-1≤uE t n∧uE t n<(t.Idxs.length:Int):=by
 rcases gN t n with⟨h,_⟩ | ⟨k,hk,h,_⟩<;>omega
theorem vM(t:BB)(n:QA):-1≤vD t n∧vD t n<(t.Idxs.length:Int):=by rw[LI];exact ZJ t n
def hP(t:BB)(k:Nat):Bool:=DB (t.Idxs.getD k IA).Name 1&&fD (t.Idxs.getD k IA).Col 1 (IntKind.wrap .i64 ((t.Cols.length:Int)-1))&&fD (t.Idxs.getD k IA).Stage 0 3&&bif decide (0<(k:Int))then aI (t.Idxs.getD ((IntKind.wrap .i64 ((k:Int)-1)).toNat) IA).Name (t.Idxs.getD k IA).Name else true
theorem sL(t:BB):zC t=(DB t.Name 1&&bH t.Cols&&decide (t.Idxs.length≤3)&&(List.range t.Idxs.length).all (hP t)):=by
 unfold zC
 rw[lP (hP t) (r:=false) fun k _=>by
  unfold mC hP
  cases DB (t.Idxs.getD k IA).Name 1<;>cases fD (t.Idxs.getD k IA).Col 1 (IntKind.wrap .i64 ((t.Cols.length:Int)-1))<;>cases fD (t.Idxs.getD k IA).Stage 0 3<;>cases decide (0<(k:Int))<;>cases aI (t.Idxs.getD ((IntKind.wrap .i64 ((k:Int)-1)).toNat) IA).Name (t.Idxs.getD k IA).Name<;>rfl]
 have e:decide (t.Idxs.length≤3)=!decide (3<(t.Idxs.length:Int)):=by
  by_cases h:t.Idxs.length≤3
  ·rw[decide_eq_true h,decide_eq_false oM];rfl
  ·rw[decide_eq_false h,decide_eq_true oM];rfl
 rw[e]
 cases DB t.Name 1<;>cases bH t.Cols<;>cases decide (3<(t.Idxs.length:Int))<;>cases (List.range t.Idxs.length).all (hP t)<;>rfl
def ZP(b:UInt8):Bool:=!decide ((b.toNat:Int)<97)&&!decide (122<(b.toNat:Int))
theorem KL(s:QA)(m:Int):DB s m=(s.all ZP&&decide (1≤(s.length:Int))&&decide ((s.length:Int)≤m)):=by
 unfold DB
 rw[bT (0:UInt8) ZP (r:=false) fun k=>by
  unfold HD ZP
  cases decide (((s.getD k 0).toNat:Int)<97)<;>cases decide (122<((s.getD k 0).toNat:Int))<;>rfl]
 cases s.all ZP<;>cases decide (1≤(s.length:Int))<;>rfl
theorem jN{s:QA}{m:Int}(h:DB s m=true):1≤(s.length:Int)∧(s.length:Int)≤m:=by
 rw[KL]at h
 simp only[Bool.and_eq_true,decide_eq_true_eq]at h
 exact⟨h.1.2,h.2⟩
structure xQ (t:BB):Prop where
 name:t.Name.length=1
 cols:2≤t.Cols.length∧t.Cols.length≤4
 idxs:t.Idxs.length≤3
 idx:∀k,k<t.Idxs.length→(t.Idxs.getD k IA).Name.length=1∧1≤(t.Idxs.getD k IA).Col∧(t.Idxs.getD k IA).Col<(t.Cols.length:Int)∧0≤(t.Idxs.getD k IA).Stage∧(t.Idxs.getD k IA).Stage≤3
 rise:∀k,k+1<t.Idxs.length→(t.Idxs.getD k IA).Name<(t.Idxs.getD (k+1) IA).Name
theorem xQ.of{t:BB}(h:zC t=true):xQ t:=by
 have hf:=BI h
 rw[sL]at h
 simp only[Bool.and_eq_true,decide_eq_true_eq,List.all_eq_true,List.mem_range]at h
 obtain⟨⟨⟨h1,h2⟩,h3⟩,h4⟩:=h
 have h5:∀k,k<t.Idxs.length→_:=fun k hk=>h4 k hk
 unfold hP at h5
 simp only[Bool.and_eq_true]at h5
 refine⟨by have:=jN h1;omega,oM,h3,fun k hk=>?_,fun k hk=>?_⟩
 ·obtain⟨⟨⟨a,b⟩,c⟩,d⟩:=h5 k hk
  have a:=jN a
  have b:=dK b
  have c:=dK c
  rw[EF oM]at b
  omega
 ·have d:=(h5 (k+1) hk).2
  rw[EF oM,decide_eq_true (show 0<((k+1:Nat):Int)by omega)]at d
  have e:(((k+1:Nat):Int)-1).toNat=k:=by omega
  rw[e]at d
  exact(SS _ _).1 d
theorem VQ{t:BB}{n:QA}(h:IF t n=true):(2≤(t.Cols.length:Int)∧(t.Cols.length:Int)≤4∧(t.Idxs.length:Int)≤3)∧(0≤vD t n∧vD t n<(t.Idxs.length:Int))∧1≤(HF t n).Col∧(HF t n).Col<(t.Cols.length:Int):=by
 unfold IF at h
 obtain⟨h1,h2⟩:=eE h
 have h2:=of_decide_eq_true h2
 have h3:=vM t n
 rw[rI]at h1
 have hg:=xQ.of h1
 refine⟨BI h1,⟨h2,h3.2⟩,?_⟩
 unfold HF
 have:=hg.idx (vD t n).toNat oM
 omega
theorem aS{t:BB}{n:QA}(h:(ZI t n).2=true):(2≤(t.Cols.length:Int)∧(t.Cols.length:Int)≤4∧(t.Idxs.length:Int)≤3)∧(0≤uE t n∧uE t n<(t.Idxs.length:Int))∧1≤(ZI t n).1.Col∧(ZI t n).1.Col<(t.Cols.length:Int):=by
 unfold ZI at h ⊢
 cases h1:zC t
 ·rw[h1]at h;cases h
 ·rw[h1]at h
  simp only[cond_true]at h ⊢
  cases h2:decide (uE t n<0)
  ·simp only[cond_false]
   have h2:=of_decide_eq_false h2
   have h3:=ZJ t n
   have:=(xQ.of h1).idx (uE t n).toNat oM
   exact⟨BI h1,⟨by omega,h3.2⟩,by omega⟩
  ·rw[h2]at h;cases h
theorem wT(t:BB)(n:QA):IF t n=(ZI t n).2:=by
 unfold IF ZI
 rw[rI,LI]
 cases zC t
 ·rfl
 ·simp only[cond_true]
  by_cases h:uE t n<0
  ·rw[decide_eq_true h,decide_eq_false (show ¬0≤uE t n by omega)];rfl
  ·rw[decide_eq_false h,decide_eq_true (show 0≤uE t n by omega)];rfl
theorem SO{t:BB}{n:QA}(h:(ZI t n).2=true):(ZI t n).1=HF t n∧(HF t n).Name=n:=by
 have hf:=aS h
 unfold ZI at h ⊢
 unfold HF
 cases h1:zC t
 ·rw[h1]at h;cases h
 ·simp only[cond_true]
  rw[decide_eq_false (show ¬uE t n<0 by omega),LI]
  refine⟨rfl,?_⟩
  rcases gN t n with⟨h,_⟩ | ⟨k,hk,h,h',_⟩
  ·omega
  ·rw[h];exact h'
theorem iO(t:BB)(n:QA):(EC t n).length=t.Name.length+n.length+2:=by
 unfold EC
 simp only[lN];omega
theorem ZL{t:BB}{n:QA}(h:IF t n=true):(2≤(t.Cols.length:Int)∧(t.Cols.length:Int)≤4∧(t.Idxs.length:Int)≤3)∧(0≤vD t n∧vD t n<(t.Idxs.length:Int))∧1≤(HF t n).Col∧(HF t n).Col<(t.Cols.length:Int)∧0≤(HF t n).Stage∧(HF t n).Stage≤3∧t.Name.length=1∧n.length=1:=by
 have h0:=VQ h
 unfold IF at h
 obtain⟨h1,h2⟩:=eE h
 rw[rI]at h1
 have hg:=xQ.of h1
 have h3:=SO (t:=t) (n:=n) (by unfold ZI;rw[h1,cond_true,decide_eq_false (by have:=of_decide_eq_true h2;rw[LI]at this;omega)];rfl)
 refine⟨h0.1,h0.2.1,h0.2.2.1,h0.2.2.2,?_⟩
 have h4:=hg.idx (vD t n).toNat oM
 have h5:(t.Idxs.getD (vD t n).toNat IA).Name=n:=h3.2
 rw[h5]at h4
 unfold HF
 exact⟨h4.2.2.2.1,h4.2.2.2.2,hg.name,h4.1⟩
theorem uW(t:BB)(n:QA):HF t n=t.Idxs.getD (uE t n).toNat IA:=by unfold HF;rw[LI]
theorem uI(l:List dA):lC l=HH l:=by
 rw[BL]
 unfold lC
 rw[bT lA (fun w=>!w.Gone) (r:=false) fun k=>by
  unfold sG
  cases (l.getD k lA).Gone<;>rfl]
 cases TE l<;>cases (l.all fun w=>!w.Gone)<;>rfl
theorem dS(t:BB)(n:QA):IF t n=true↔zC t=true∧0≤uE t n:=by
 unfold IF
 rw[rI,LI]
 constructor
 ·intro h
  obtain⟨h1,h2⟩:=eE h
  exact⟨h1,of_decide_eq_true h2⟩
 ·rintro⟨h1,h2⟩
  rw[h1,decide_eq_true h2];rfl
theorem wR{t:BB}(hw:wL t)(h:¬VD t 1048576<0):t.Cols.length≤2147483648∧t.Idxs.length≤2147483648:=by
 have:=(RD hw (by decide) h).1
 exact⟨this.2.1.1,this.2.2.1⟩
theorem CT{s:QA}(h:fE s=true):s.length≤12:=by
 unfold fE at h
 have:=dK (eE h).1
 omega
theorem DT{s:QA}(h:mH s=true):s.length≤24:=by
 unfold mH at h
 have:=of_decide_eq_true (eE h).1
 omega
theorem gR{k v:QA}{g:Bool}(h:kD k v g=true):k.length≤12∧v.length≤24:=by
 rw[bO,fN]at h
 simp only[Bool.and_eq_true]at h
 exact⟨CT h.1,DT h.2.1⟩
theorem aM{l:List dA}(h:TE l=true):l.length≤24∧∀k,k<l.length→(l.getD k lA).Key.length≤12∧(l.getD k lA).Val.length≤24:=by
 rw[iJ,Bool.and_eq_true,decide_eq_true_eq]at h
 refine⟨by omega,fun k hk=>?_⟩
 have:=List.all_eq_true.1 h.1 k (List.mem_range.2 hk)
 rw[Bool.and_eq_true]at this
 exact gR this.1
theorem HM(s:QA)(c:UInt8):WA s [c]=Lib.indexByte s c:=by
 unfold WA eD yT
 have h:((([c]:QA).getD 0 0).toNat:Int).toNat.toUInt8=c:=by simp
 rw[h]
 cases hc:([c]:QA)==s
 ·rfl
 ·have:s=[c]:=(eq_of_beq hc).symm
  subst this
  simp[Lib.indexByte]
theorem rR{s sub:QA}(h:sub.length=1):-1≤WA s sub∧WA s sub≤(s.length:Int)-1:=by
 match sub,h with
 | [c],_=>
  rw[HM]
  rcases WH c s with⟨_,h2⟩ | ⟨a,r,h1,_,h3⟩
  ·rw[h2];omega
  ·rw[h3,h1];simp only[List.length_append,List.length_cons];omega
theorem RW{s sub:QA}(o:sE s)(h:sub.length=1)(hd:decide (0≤WA s sub)=true):0≤IntKind.wrap .i64 ((WA s sub)+(sub.length:Int))∧IntKind.wrap .i64 ((WA s sub)+(sub.length:Int))≤(s.length:Int):=by
 have h1:=of_decide_eq_true hd
 have h2:=rR (s:=s) h
 unfold sE at o
 rw[h,EF oM]
 omega
theorem UQ{s p:QA}(h:YB s p=true):p.length≤s.length:=by
 unfold YB at h
 have:=of_decide_eq_true (eE h).1
 omega
theorem SP{t:BB}{n:QA}{l:List dA}(h:CF t n l=true):t.Name.length≤1∧n.length≤1:=by
 unfold CF at h
 have:=ZL (eE h).1
 omega
theorem mR{t:BB}{n:QA}(h:t.Name.length≤1∧n.length≤1):sE (EC t n):=by
 have:=iO t n
 unfold sE;omega
theorem XJ{s:QA}(h:sE s)(b:Int)(i:Nat):sE ((iC s b).getD i uB):=by
 have hh:∀x∈iC s b,sE x:=by
  unfold iC
  refine jD (fun _ (p:List QA×Int)=>∀x∈p.1,sE x) (fun(v:List QA)=>∀x∈v,sE x) (fun _ h=>by cases h) ?_ ?_
  ·rintro⟨x,a⟩ hx y hy
   rcases List.mem_append.1 hy with hy | hy
   ·exact hx y hy
   ·rw[List.mem_singleton.1 hy];exact h.drop _
  ·rintro j ⟨x,a⟩ _ _ hx
   unfold uF
   dsimp only
   cases decide (((s.getD j 0).toNat:Int)=b)
   ·exact hx
   ·intro y hy
    rcases List.mem_append.1 hy with hy | hy
    ·exact hx y hy
    ·rw[List.mem_singleton.1 hy];exact(h.take _).drop _
 rw[List.getD_eq_getElem?_getD]
 cases h1:(iC s b)[i]? with
 | none=>exact pE
 | some x=>exact hh x (List.mem_of_getElem? h1)
theorem eS(s:QA)(b:UInt8):iC s (b.toNat:Int)=sp b s:=by
 unfold iC
 refine jD (fun k (p:List QA×Int)=>0≤p.2∧p.2.toNat≤k∧b∉(s.take k).drop p.2.toNat∧p.1++sp b (s.drop p.2.toNat)=sp b s) (fun(v:List QA)=>v=sp b s) ⟨by omega,by simp,by simp,by simp⟩ ?_ ?_
 ·rintro⟨x,a⟩ ⟨h1,h2,h3,h4⟩
  dsimp only at h1 h2 h3 h4 ⊢
  rw[show s.take (0+(s.length-0))=s from by rw[List.take_of_length_le oM]]at h3
  rw[AM h3]at h4
  exact h4
 ·rintro j ⟨x,a⟩ _ hj ⟨h1,h2,h3,h4⟩
  have hj':j<s.length:=by omega
  unfold uF
  dsimp only at h1 h2 h3 h4 ⊢
  have ht:(s.take (j+1)).drop a.toNat=(s.take j).drop a.toNat++[s.getD j 0]:=by
   rw[nE hj',List.take_succ_eq_append_getElem hj',List.drop_append_of_le_length (by rw[List.length_take];omega)]
  have hd:s.drop a.toNat=(s.take j).drop a.toNat++s.getD j 0::s.drop (j+1):=by
   conv=>lhs;rw[←List.take_append_drop j s]
   rw[List.drop_append_of_le_length (by rw[List.length_take];omega),nE hj',List.drop_eq_getElem_cons hj']
  rw[yR]
  cases hc:s.getD j 0==b
  ·refine⟨h1,oM,?_,h4⟩
   rw[ht]
   intro hm
   rcases List.mem_append.1 hm with hm | hm
   ·exact h3 hm
   ·rw[←List.mem_singleton.1 hm]at hc;simp at hc
  ·have hb:s.getD j 0=b:=eq_of_beq hc
   refine⟨by omega,by simp,by simp,?_⟩
   rw[hd,hb,AJ h3]at h4
   rw[←h4,List.append_assoc]
   show x++([_]++sp b (s.drop _))=_
   rw[show(((j+1:Nat):Int)).toNat=j+1 from by simp]
   rfl
theorem eU{s:QA}{c:UInt8}(h:c∉s):(cD s [c]).2.2=false:=by
 have h1:WA s [c]=-1:=by
  rw[HM]
  rcases WH c s with⟨_,h2⟩ | ⟨a,r,h2,_,_⟩
  ·exact h2
  ·rw[h2]at h;simp at h
 unfold cD XB
 rw[h1];rfl
theorem fU{a r:QA}{c:UInt8}(h:c∉a)(hl:a.length≤1073741824):cD (a++c::r) [c]=(a,r,true):=by
 have h1:WA (a++c::r) [c]=(a.length:Int):=by
  rw[HM]
  rcases WH c (a++c::r)with⟨h2,_⟩ | ⟨a',r',h2,h3,h4⟩
  ·simp at h2
  ·have:a'::sp c r'=a::sp c r:=by rw[←AJ h3,←AJ h,h2]
   rw[h4,(List.cons.inj this).1]
 unfold cD XB
 rw[h1,decide_eq_true oM]
 simp only[cond_true]
 rw[EF (by simp only[List.length_cons,List.length_nil];omega)]
 have h2:((a.length:Int)).toNat=a.length:=by simp
 have h3:((a.length:Int)+(([c]:QA).length:Int)).toNat=a.length+1:=by simp only[List.length_cons,List.length_nil];omega
 rw[h2,h3]
 simp
theorem uR{s:QA}(h:GF s=true):(47:UInt8)∉s:=by
 unfold GF at h
 obtain⟨_,h2⟩:=eE h
 rw[DK,List.all_eq_true]at h2
 intro hm
 exact absurd (h2 _ hm) (by decide)
theorem sO(k p:QA):(IB k p).2=p.isPrefixOf k∧((IB k p).2=true→(IB k p).1=k.drop p.length):=by
 have h:YB k p=p.isPrefixOf k:=by
  unfold YB
  by_cases hp:p <+: k
  ·obtain⟨r,rfl⟩:=hp
   rw[decide_eq_true (by rw[List.length_append];omega),cond_true,List.take_left]
   simp
  ·rw[show p.isPrefixOf k=false from by rw[Bool.eq_false_iff];intro e;exact hp (List.isPrefixOf_iff_prefix.1 e)]
   cases hd:decide ((p.length:Int)≤(k.length:Int))
   ·rfl
   ·rw[cond_true,beq_eq_false_iff_ne]
    intro e
    exact hp (e▸List.take_prefix ..)
 unfold IB gC
 rw[h]
 cases p.isPrefixOf k<;>simp
theorem XV{α:Type}(x d:α)(xs:List α):(x::xs).getD 0 d=x:=rfl
theorem TW{α:Type}(x y d:α)(xs:List α):(x::y::xs).getD 1 d=y:=rfl
theorem UW{α:Type}(x y z d:α)(xs:List α):(x::y::z::xs).getD 2 d=z:=rfl
theorem vW{α:Type}{x y z:α}{xs:List α}(h:0<xs.length):decide (((x::y::z::xs).length:Int)=3)=false:=decide_eq_false (by simp only[List.length_cons];omega)
theorem JV{t:BB}{n k:QA}(hh:(47:UInt8)∉(t.Name++([46]:QA))++n)(hk:k.length≤1073741824):ZB t n k=LC t n k:=by
 have hsp:iC k 47=sp 47 k:=eS k 47
 have hd:EC t n=((t.Name++([46]:QA))++n)++([47]:QA):=rfl
 unfold ZB LC
 rw[hsp,hd]
 generalize (t.Name++([46]:QA))++n=hd at hh
 obtain⟨hc1,hc2⟩:=sO k (hd++([47]:QA))
 rcases PP 47 k with h47 | ⟨a,r,rfl,ha⟩
 ·have hp:(IB k (hd++([47]:QA))).2=false:=by
   rw[hc1,Bool.eq_false_iff];intro e
   obtain⟨r,rfl⟩:=List.isPrefixOf_iff_prefix.1 e
   simp at h47
  rw[hp,AM h47];rfl
 ·rw[AJ ha]
  by_cases e:a=hd
  ·subst e
   have hp:(a++([47]:QA)).isPrefixOf (a++47::r)=true:=List.isPrefixOf_iff_prefix.2 ⟨r,by simp⟩
   have hr:(IB (a++47::r) (a++([47]:QA))).1=r:=by
    rw[hc2 (hc1.trans hp)]
    rw[show a++47::r=(a++([47]:QA))++r from by simp,List.drop_left]
   rw[hc1.trans hp,hr,cond_true,XV,beq_self_eq_true,cond_true]
   rcases PP 47 r with h47 | ⟨b,u,rfl,hb⟩
   ·rw[eU h47,AM h47];rfl
   ·rw[fU hb (by simp only[List.length_append,List.length_cons]at hk;omega),AJ hb]
    rw[TW]
    dsimp only
    rw[ZN,ZN,cond_true]
    rcases PP 47 u with h47 | ⟨d,v,rfl,hdd⟩
    ·rw[AM h47,UW];rfl
    ·have hf:GF (d++47::v)=false:=by
      rw[Bool.eq_false_iff];intro e;exact uR e (by simp)
     rw[AJ hdd,vW (aX 47 v),hf]
     cases GF b<;>rfl
  ·have hp:(IB (a++47::r) (hd++([47]:QA))).2=false:=by
    rw[hc1,Bool.eq_false_iff];intro h
    obtain⟨r',h'⟩:=List.isPrefixOf_iff_prefix.1 h
    rw[List.append_assoc]at h'
    have:hd::sp 47 r'=a::sp 47 r:=by rw[←AJ hh,←AJ ha,←h'];rfl
    exact e (List.cons.inj this).1.symm
   have hg:((a::sp 47 r).getD 0 uB==hd)=false:=by rw[XV,beq_eq_false_iff_ne];exact e
   rw[hp,hg]
   cases decide (((a::sp 47 r).length:Int)=3)<;>rfl
theorem NL{s:QA}{m:Int}(h:DB s m=true):(47:UInt8)∉s:=by
 rw[KL,Bool.and_eq_true,Bool.and_eq_true,List.all_eq_true]at h
 intro hm
 exact absurd (h.1.1 _ hm) (by decide)
theorem wS{t:BB}{n:QA}(h:IF t n=true):(47:UInt8)∉(t.Name++([46]:QA))++n:=by
 have h2:=SO (wT t n▸h)
 obtain⟨h3,h4⟩:=(dS t n).1 h
 have h5:=ZJ t n
 rw[uW]at h2
 rw[sL]at h3
 simp only[Bool.and_eq_true,List.all_eq_true,List.mem_range]at h3
 have h6:=h3.2 (uE t n).toNat oM
 unfold hP at h6
 simp only[Bool.and_eq_true]at h6
 have h7:=NL h6.1.1.1
 rw[h2.2]at h7
 have h8:=NL h3.1.1.1
 intro hm
 rcases List.mem_append.1 hm with hm | hm
 ·rcases List.mem_append.1 hm with hm | hm
  ·exact h8 hm
  ·exact absurd (List.mem_singleton.1 hm) (by decide)
 ·exact h7 hm
theorem kN{ρ σ:Type}{b b':Nat→σ→nH ρ σ}:∀(n k:Nat) (s:σ),(∀j s,k≤j→j<k+n→b j s=b' j s)→BA b n k s=BA b' n k s
 | 0,_,_,_=>rfl
 | n+1,k,s,h=>by
  have h1:=h k s (Nat.le_refl _) oM
  have ih:=fun s=>kN n (k+1) s fun j s h2 h3=>h j s oM oM
  simp only[BA]
  rw[h1]
  cases b' k s with
  | ret r=>rfl
  | brk s=>rfl
  | cont s=>exact ih s
theorem TN{t:BB}{n:QA}{l:List dA}(h:IF t n=true)(hl:TE l=true):eB t n l=TA t n l:=by
 have hk:=(aM hl).2
 unfold eB TA
 rw[kN (b:=XC t n l) (b':=UD t n l) _ _ _ fun j x _ hj=>by
  unfold XC UD
  have:=(hk j oM).1
  rw[JV (wS h) oM]]
theorem mL{l:List dA}(h:HH l=true):TE l=true:=by
 rw[BL,Bool.and_eq_true]at h
 exact h.1
theorem WQ{s:Int}(h:bF s=true):0≤s∧s≤3:=kK h
theorem uS(s:QA)(b:Int):1≤(iC s b).length∧(iC s b).length≤s.length+1:=by
 unfold iC
 refine jD (fun k (p:List QA×Int)=>p.1.length≤k) (fun(v:List QA)=>1≤v.length∧v.length≤s.length+1) (Nat.zero_le _) ?_ ?_
 ·rintro⟨x,a⟩ h1
  dsimp only at h1 ⊢
  rw[List.length_append,List.length_singleton];omega
 ·rintro j ⟨x,a⟩ _ hj h1
  dsimp only at h1
  unfold uF
  dsimp only
  cases decide (((s.getD j 0).toNat:Int)=b)
  ·exact Nat.le_succ_of_le h1
  ·show(x++_).length≤_
   rw[List.length_append,List.length_singleton];omega
theorem jO(n:Int):(aJ n).length=1:=rfl
theorem nK{a b c:QA}(h1:aI a b=true)(h2:aI b c=true):aI a c=true:=by
 unfold aI at *
 rw[tJ,decide_eq_true_eq]at *
 exact List.lt_trans h1 h2
theorem VI(a:QA):¬aI a a=true:=by
 unfold aI
 rw[tJ,decide_eq_true_eq]
 exact List.lt_irrefl a
theorem VM(n:Int):(eF n).length≤2:=by
 unfold eF
 cases decide (n<0)
 ·exact Nat.le_succ 1
 ·show(([45]:QA)++aJ _).length≤2
  rw[List.length_append,jO];exact Nat.le_refl 2
theorem rP(n:Int):sE (eF n):=by
 have:=VM n
 unfold sE;omega
theorem WU(rows:List dA)(k:QA):(DE rows k).Key=k:=by
 unfold DE
 refine jD (fun _ _=>True) (fun(v:ED)=>v.Key=k) trivial (fun _ _=>rfl) (fun j s _ _ _=>?_)
 unfold TF
 dsimp only
 cases ((rows.getD j lA).Key==k)
 ·trivial
 ·rfl
theorem zS{buf:List dA}{got:List ED}{k:QA}(h:(pB buf got k).2.2=false):(got.any fun g=>g.Key==k)=false:=by
 revert h
 unfold pB
 refine jD (fun _ _=>True) (fun(v:QA×Bool×Bool)=>v.2.2=false→(got.any fun g=>g.Key==k)=false) trivial (fun _ _=>?_) (fun j s _ _ _=>?_)
 ·refine jD (fun j _=>((got.take j).any fun g=>g.Key==k)=false) (fun(v:QA×Bool×Bool)=>v.2.2=false→(got.any fun g=>g.Key==k)=false) rfl (fun s hs _=>?_) (fun j s _ hj hs=>?_)
  ·rw[List.take_of_length_le oM]at hs;exact hs
  ·have hj':j<got.length:=by omega
   unfold vF
   dsimp only
   cases h1:((got.getD j XF).Key==k)
   ·show((got.take (j+1)).any fun g=>g.Key==k)=false
    have hs:((got.take j).any fun g=>g.Key==k)=false:=hs
    rw[List.take_succ_eq_append_getElem hj',List.any_append,hs,←nE (d:=XF) hj',List.any_cons,h1];rfl
   ·exact fun h=>by cases h
 ·unfold OE
  cases ((buf.getD j lA).Key==k)
  ·trivial
  ·exact fun h=>by cases h
theorem TT{l:List EG}{got:List ED}(h:(BC l got).1=1):∃o∈l,(BC l got).2.1=o.Key∧(got.any fun g=>g.Key==o.Key)=false:=by
 revert h
 unfold BC
 refine jD (fun _ _=>True) (fun(v:Int×QA×List dA)=>v.1=1→∃o∈l,v.2.1=o.Key∧(got.any fun g=>g.Key==o.Key)=false) trivial (fun _ _ h=>?_) (fun j s _ hj _=>?_)
 ·cases h
 ·have hm:l.getD j CB∈l:=zG (d:=CB) oM
  unfold UB
  dsimp only
  cases hk:(pB s got (l.getD j CB).Key).2.2
  ·have hn:=zS hk
   cases decide ((l.getD j CB).Kind=2)
   ·cases decide ((l.getD j CB).Kind=3)
    ·exact fun _=>⟨_,hm,rfl,hn⟩
    ·cases SC (l.getD j CB) ((pB s got (l.getD j CB).Key).1) ((pB s got (l.getD j CB).Key).2.1)
     ·trivial
     ·exact fun h=>by cases h
   ·cases SC (l.getD j CB) ((pB s got (l.getD j CB).Key).1) ((pB s got (l.getD j CB).Key).2.1)
    ·trivial
    ·exact fun h=>by cases h
  ·cases SC (l.getD j CB) ((pB s got (l.getD j CB).Key).1) ((pB s got (l.getD j CB).Key).2.1)
   ·cases decide ((l.getD j CB).Kind=2)
    ·cases decide ((l.getD j CB).Kind=3)
     ·cases decide ((l.getD j CB).Kind=4)
      ·trivial
      ·cases (pB s got (l.getD j CB).Key).2.1<;>trivial
     ·trivial
    ·trivial
   ·exact fun h=>by cases h
theorem jL{α:Type}{p q:α→Bool}(hpq:∀x,q x=true→p x=true):∀{l:List α},(∃x∈l,p x=true∧q x=false)→(l.filter q).length<(l.filter p).length
 | [],h=>by obtain⟨x,hx,_⟩:=h;cases hx
 | y::l,h=>by
  have hle:∀l:List α,(l.filter q).length≤(l.filter p).length:=fun l=>by
   induction l with
   | nil=>exact Nat.le_refl _
   | cons y l ih=>cases hq:q y<;>cases hp:p y<;>simp[hq,hp]<;>first | omega | (have:=hpq y hq;rw[hp]at this;cases this)
  obtain⟨x,hx,h1,h2⟩:=h
  rcases List.mem_cons.1 hx with rfl | hx
  ·have:=hle l;simp[h1,h2];omega
  ·have ih:=jL hpq ⟨x,hx,h1,h2⟩
   cases hq:q y<;>cases hp:p y<;>simp[hq,hp]<;>first | omega | (have:=hpq y hq;rw[hp]at this;cases this)
theorem IN{rows:List dA}{l:List EG}{got:List ED}(h:(BC l got).1=1):(l.filter fun o=>!((got++([(DE rows ((BC l got).2.1))]:List ED)).any fun g=>g.Key==o.Key)).length<(l.filter fun o=>!(got.any fun g=>g.Key==o.Key)).length:=by
 obtain⟨o,ho,hk,hn⟩:=TT h
 refine jL (fun x hx=>?_) ⟨o,ho,by rw[hn];rfl,?_⟩
 ·rw[List.any_append,Bool.not_or,Bool.and_eq_true]at hx;exact hx.1
 ·rw[List.any_append,hk]
  simp[WU]
theorem nU(l:List EG):([]:List ED).length+(l.filter fun o=>!(([]:List ED).any fun g=>g.Key==o.Key)).length≤l.length:=by
 rw[List.length_nil,Nat.zero_add];exact List.length_filter_le _ _
theorem bM{l:List dA}(h:lC l=true):l.length≤24:=by
 rw[uI]at h
 exact(aM (mL h)).1
theorem GR(rows:List dA)(k:QA):OB rows [⟨3,k,[],0⟩]=([],[⟨k,[],true⟩],true):=rfl
theorem RS{rows:List dA}{f:List EG}{got:List ED}{x:List dA}{d:Bool}(hr:lC rows=true)(hf:DG f=true)(ha:OB rows f=(got,x,d)):NB rows [f]=bif d&&lC (HB rows x)then(HB rows x,[true],true)else(rows,[false],true):=by
 unfold NB
 rw[hr,cond_true]
 have b0:ID rows [f] 0 ()=.cont ():=by
  unfold ID
  show(bif DG f then _ else _)=_
  rw[hf];rfl
 have e0:BA (ID rows [f]) (([f]:List (List EG)).length-0) 0 ()=.done ():=by
  show BA (ID rows [f]) 1 0 ()=_
  simp only[BA,b0]
 have b1:DD rows [f] 0 (rows,[])=.cont (bif d&&lC (HB rows x)then(HB rows x,[true])else(rows,[false])):=by
  unfold DD
  show(bif(OB rows f).2.2 then bif lC (HB rows (OB rows f).2.1)then _ else _ else _)=_
  rw[ha]
  cases d
  ·rfl
  ·cases h:lC (HB rows x)
   ·simp only[cond_true,cond_false,Bool.true_and,h]
    show nH.cont (rows,[]++[lC (HB rows (OB rows f).2.1)])=_
    rw[ha];simp only[h];rfl
   ·simp only[cond_true,cond_false,Bool.true_and,h]
    show nH.cont (HB rows (OB rows f).2.1,[]++[lC (HB rows (OB rows f).2.1)])=_
    rw[ha];simp only[h];rfl
 have e1:BA (DD rows [f]) (([f]:List (List EG)).length-0) 0 ((([]:List dA)++rows),([]:List Bool))=.done (bif d&&lC (HB rows x)then(HB rows x,[true])else(rows,[false])):=by
  show BA (DD rows [f]) 1 0 (rows,[])=_
  simp only[BA,b1]
 rw[e0,e1]
 cases d&&lC (HB rows x)<;>rfl
theorem xU(l:List EG)(h:l.all XD=true)(hl:l.length≤8):DG l=true:=by
 unfold DG
 rw[bT CB XD (r:=false) fun k=>rfl,h,cond_true,decide_eq_true oM]
theorem HV{k:QA}(hk:fE k=true):XD ⟨3,k,[],0⟩=true:=by
 unfold XD
 dsimp only
 rw[hk];rfl
theorem YL(t:BB)(n:QA)(l:List dA):(TA t n l).length≤l.length:=by
 unfold TA
 refine jD (fun k (p:List QA)=>p.length≤k) (fun(v:List QA)=>v.length≤l.length) (Nat.le_refl _) (fun s hs=>by omega) ?_
 intro j x _ _ h1
 unfold UD
 dsimp only
 cases (LC t n (l.getD j lA).Key).2.2
 ·exact Nat.le_succ_of_le h1
 ·show List.length (_++_)≤_
  rw[List.length_append,List.length_singleton];omega
def eR(y:uQ):EN:=⟨y.Vals.getD 1 uB,y.Vals.getD 0 uB⟩
theorem TS{a b:QA}(h1:aI a b=false)(h2:aI b a=false):a=b:=by
 have h3:pI a b=true:=by rw[HK,h2];rfl
 unfold pI at h3
 rw[h1,Bool.false_or]at h3
 exact eq_of_beq h3
theorem lW(x y:QA):decide (cS x y<0)=aI x y:=by
 unfold cS
 cases aI x y
 ·cases pI x y<;>rfl
 ·rfl
theorem rV(x y:QA):decide (cS x y=0)=decide (x=y):=by
 by_cases h:x=y
 ·subst h
  rw[decide_eq_true rfl]
  unfold cS
  have h1:aI x x=false:=by cases h:aI x x;rfl;exact absurd h (VI x)
  have h2:pI x x=true:=by unfold pI;rw[beq_self_eq_true,Bool.or_true]
  rw[h1,h2];rfl
 ·rw[decide_eq_false h]
  unfold cS
  cases h1:aI x y
  ·cases h2:pI x y
   ·rfl
   ·unfold pI at h2
    rw[h1,Bool.false_or]at h2
    exact absurd (eq_of_beq h2) h
  ·rfl
theorem LV(a:QA):aI a a=false:=by cases h:aI a a;rfl;exact absurd h (VI a)
theorem tR{a b:QA}(h:aI a b=true):aI b a=false:=by
 cases h2:aI b a
 ·rfl
 ·exact absurd (nK h h2) (VI _)
theorem IR{i j:Int}(h0:0≤i)(h1:i<j)(h2:j≤2147483648):IntKind.wrap .i64 (Int.fdiv (IntKind.wrap .u64 (IntKind.wrap .i64 (i+j))) 2)=(i+j) / 2:=by
 rw[show IntKind.wrap .i64 (i+j)=i+j from EF oM,show IntKind.wrap .u64 (i+j)=i+j by simp[IntKind.wrap,IntKind.bits,IntKind.signed];omega,Int.fdiv_eq_ediv_of_nonneg _ oM]
 exact EF oM
theorem kW(l:List dA)(k:QA)(f:dA→QA→Int)(hl:l.length≤2147483648):(0≤(wB l k f).1∧(wB l k f).1≤(l.length:Int))∧((wB l k f).2=true→(wB l k f).1<(l.length:Int)):=by
 unfold wB
 refine DJ (body:=tB l k f) (fun(p:Int×Int)=>0≤p.1∧p.1≤p.2∧p.2≤(l.length:Int)) (fun p=>(p.2-p.1).toNat) (fun(v:Int×Bool)=>(0≤v.1∧v.1≤(l.length:Int))∧(v.2=true→v.1<(l.length:Int))) ?_ _ (0,(l.length:Int)) ⟨oM,(by show(0:Int)≤(l.length:Int);omega),Int.le_refl _⟩ (by show((l.length:Int)-0).toNat<_;omega)
 rintro⟨a,b⟩ ⟨h0,h1,h2⟩
 dsimp only at h0 h1 h2
 unfold tB
 dsimp only
 cases hd:decide (a<b)
 ·dsimp only[cond_false]
  show(0≤(bif decide (a<(l.length:Int))then _ else _:Int×Bool).1∧_)∧_
  cases hd2:decide (a<(l.length:Int))
  ·exact⟨⟨h0,by show a≤_;omega⟩,fun h=>by cases h⟩
  ·have:=of_decide_eq_true hd2
   exact⟨⟨h0,by show a≤_;omega⟩,fun _=>this⟩
 ·have hlt:=of_decide_eq_true hd
  have hm:=IR h0 hlt oM
  rw[hm]
  have hw:IntKind.wrap .i64 ((a+b) / 2+1)=(a+b) / 2+1:=EF oM
  dsimp only[cond_true]
  show nH.sat _ _ _ (bif _ then _ else _)
  cases decide (f (l.getD ((a+b) / 2).toNat lA) k<0)
  ·exact⟨⟨h0,by show a≤(a+b) / 2;omega,by show(a+b) / 2≤_;omega⟩,by show((a+b) / 2-a).toNat<(b-a).toNat;omega⟩
  ·rw[hw]
   exact⟨⟨by show 0≤(a+b) / 2+1;omega,by show(a+b) / 2+1≤b;omega,h2⟩,by show(b-((a+b) / 2+1)).toNat<(b-a).toNat;omega⟩
theorem YI(l:List dA)(k:QA)(hl:l.length≤2147483648):(0≤(KB l k).1∧(KB l k).1≤(l.length:Int))∧((KB l k).2=true→(KB l k).1<(l.length:Int)):=kW l k _ hl
theorem iL{l:List dA}{k:QA}(h:(KB l k).2=true)(hl:l.length≤2147483648):(KB l k).1<(l.length:Int):=(YI l k hl).2 h
theorem jK(l:List dA):(NA l).length=l.length:=rfl
theorem CK{l:List dA}(h:HH l=true):l.length≤24:=(aM (mL h)).1
theorem HT{l:List EG}(hl:l.length≤100)(h:∀y∈l,y.Kind≠4):∀x∈([l]:List (List EG)),x.length≤100∧∀y∈x,y.Kind≠4:=fun x hx=>by rw[List.mem_singleton.1 hx];exact⟨hl,h⟩
theorem yJ(l:List dA)(w:dA):(GD l w).length≤l.length+1:=by
 unfold GD
 cases (KB l w.Key).2
 ·show(l.take _++w::l.drop _).length≤_
  rw[List.length_append,List.length_cons,List.length_take,List.length_drop];omega
 ·show(l.set _ _).length≤_
  rw[List.length_set];omega
theorem QQ{buf:List dA}{got:List ED}{k:QA}(h:(qD k buf got).2.2=false):(got.any fun g=>g.Key==k)=false:=by
 revert h
 unfold qD
 cases (KB buf k).2
 ·rw[cond_false]
  refine jD (fun j _=>((got.take j).any fun g=>g.Key==k)=false) (fun(v:QA×Bool×Bool)=>v.2.2=false→(got.any fun g=>g.Key==k)=false) rfl (fun s hs _=>?_) (fun j s _ hj hs=>?_)
  ·rw[List.take_of_length_le oM]at hs;exact hs
  ·have hj':j<got.length:=by omega
   unfold NF
   dsimp only
   cases h1:((got.getD j XF).Key==k)
   ·show((got.take (j+1)).any fun g=>g.Key==k)=false
    have hs:((got.take j).any fun g=>g.Key==k)=false:=hs
    rw[List.take_succ_eq_append_getElem hj',List.any_append,hs,←nE (d:=XF) hj',List.any_cons,h1];rfl
   ·exact fun h=>by cases h
 ·exact fun h=>by cases h
theorem AS{l:List EG}{got:List ED}(h:(qC l got).1=1):∃o∈l,(qC l got).2.1=o.Key∧(got.any fun g=>g.Key==o.Key)=false:=by
 revert h
 unfold qC
 refine jD (fun _ _=>True) (fun(v:Int×QA×List dA)=>v.1=1→∃o∈l,v.2.1=o.Key∧(got.any fun g=>g.Key==o.Key)=false) trivial (fun _ _ h=>?_) (fun j s _ hj _=>?_)
 ·cases h
 ·have hm:l.getD j CB∈l:=zG (d:=CB) oM
  unfold xC
  dsimp only
  cases decide ((l.getD j CB).Kind=2)
  ·cases decide ((l.getD j CB).Kind=3)
   ·cases hk:(qD (l.getD j CB).Key s got).2.2
    ·exact fun _=>⟨_,hm,rfl,QQ hk⟩
    ·cases lD (l.getD j CB) ((qD (l.getD j CB).Key s got).1) ((qD (l.getD j CB).Key s got).2.1)
     ·exact fun h=>by cases h
     ·trivial
   ·trivial
  ·trivial
theorem vT(rows:List dA)(k:QA):(BF rows k).Key=k:=by
 unfold BF
 cases (KB rows k).2<;>rfl
theorem WO{rows:List dA}{l:List EG}{got:List ED}(_:∀y∈l,y.Kind≠4)(h:(qC l got).1=1):(l.filter fun o=>!((got++([(BF rows ((qC l got).2.1))]:List ED)).any fun g=>g.Key==o.Key)).length<(l.filter fun o=>!(got.any fun g=>g.Key==o.Key)).length:=by
 obtain⟨o,ho,hk,hn⟩:=AS h
 refine jL (fun x hx=>?_) ⟨o,ho,by rw[hn];rfl,?_⟩
 ·rw[List.any_append,Bool.not_or,Bool.and_eq_true]at hx;exact hx.1
 ·rw[List.any_append,hk]
  simp[vT]
theorem rS(r w:List dA):(JF r w).1.length≤24:=by
 unfold JF
 refine jD (fun _ _=>True) (fun(v:List dA×Bool)=>v.1.length≤24) trivial (fun s _=>?_) (fun j s _ _ _=>?_)
 ·cases hd:decide (24<((wC s fun y0=>WG y0).length:Int))
  ·have:=of_decide_eq_false hd
   show(wC s fun y0=>WG y0).length≤24
   omega
  ·exact Nat.zero_le _
 ·trivial
theorem vS(s:List dA)(o:List EG):(QE s o).1.length≤s.length∨(QE s o).1.length≤24:=by
 unfold QE
 cases (QD s o).2.2
 ·exact .inl (Nat.le_refl _)
 ·cases (JF s (QD s o).2.1).2
  ·exact .inl (Nat.le_refl _)
  ·exact .inr (rS _ _)
theorem KS{l:List rE}{f:rE→Bool}{n:Nat}(h:∀y∈l,y.ops.length≤100∧∀o∈y.ops,o.Kind≠4)(hn:n<(vA (MA l) f).length):((vA (MA l) f).getD n yG).ops.length≤100∧∀o∈((vA (MA l) f).getD n yG).ops,o.Kind≠4:=
 h _ (List.mem_filter.1 (zG hn)).1
def Up(l:List dA):Prop:=l.Pairwise fun a b=>aI a.Key b.Key=true
structure rQ (l:List dA) (k:QA) (i:Nat):Prop where
 le:i≤l.length
 lo:∀j (h:j<l.length),j<i→aI l[j].Key k=true
 hi:∀j (h:j<l.length),i≤j→aI l[j].Key k=false
theorem rQ.uniq{l:List dA}{k:QA}{i i':Nat}(h:rQ l k i)(h':rQ l k i'):i=i':=by
 rcases Nat.lt_trichotomy i i' with h1 | h1 | h1
 ·have hl:i<l.length:=by have:=h'.le;omega
  have a:=h'.lo i hl h1
  rw[h.hi i hl (Nat.le_refl _)]at a;cases a
 ·exact h1
 ·have hl:i'<l.length:=by have:=h.le;omega
  have a:=h.lo i' hl h1
  rw[h'.hi i' hl (Nat.le_refl _)]at a;cases a
theorem Up.lt{l:List dA}(h:Up l){i j:Nat}(hi:i<l.length)(hj:j<l.length)(hij:i<j):aI l[i].Key l[j].Key=true:=List.pairwise_iff_getElem.1 h i j hi hj hij
theorem Up.down{l:List dA}(h:Up l){m:Nat}{k:QA}(hm:m<l.length)(hk:aI l[m].Key k=true):∀j (h:j<l.length),j≤m→aI l[j].Key k=true:=fun j hj hjm=>by
 rcases Nat.lt_or_ge j m with hlt | hge
 ·exact nK (h.lt hj hm hlt) hk
 ·obtain rfl:j=m:=by omega
  exact hk
theorem Up.up{l:List dA}(h:Up l){m:Nat}{k:QA}(hm:m<l.length)(hk:aI l[m].Key k=false):∀j (h:j<l.length),m≤j→aI l[j].Key k=false:=fun j hj hjm=>by
 cases hh:aI l[j].Key k
 ·rfl
 ·rw[h.down hj hh m hm hjm]at hk;cases hk
def TP(l:List dA)(k:QA)(i:Nat):Bool:=decide (i<l.length)&&((l.getD i lA).Key==k)
theorem xJ{l:List dA}{k:QA}{i:Nat}:TP l k i=true↔∃h:i<l.length,l[i].Key=k:=by
 unfold TP
 rw[Bool.and_eq_true,decide_eq_true_eq]
 constructor
 ·rintro⟨h,e⟩;refine⟨h,?_⟩;rw[nE h]at e;exact eq_of_beq e
 ·rintro⟨h,e⟩;refine⟨h,?_⟩;rw[nE h,e];exact beq_self_eq_true _
theorem rQ.fnd_at{l:List dA}(hu:Up l){k:QA}{j:Nat}(hj:j<l.length)(e:l[j].Key=k):rQ l k j where
 le:=by omega
 lo i hi hij:=e▸hu.lt hi hj hij
 hi i hi hij:=hu.up hj (by rw[e];exact LV k) i hi hij
theorem mW(x y:QA):uC x y=cS x y:=by
 unfold uC ZD cS
 rw[beq_self_eq_true,beq_self_eq_true];rfl
theorem AL{l:List dA}(hu:Up l)(hl:l.length≤2147483648)(k:QA):∃i,rQ l k i∧KB l k=((i:Int),TP l k i):=by
 have hf:(fun y0 y1=>kH y0 y1)=fun(y0:dA) (y1:QA)=>cS y0.Key y1:=by funext y0 y1;exact mW _ _
 unfold KB
 rw[hf]
 suffices h:∃i,rQ l k i∧wB l k (fun y0 y1=>cS y0.Key y1)=((i:Int),TP l k i)by
  obtain⟨i,h1,h2⟩:=h;exact⟨i,h1,by rw[h2]⟩
 unfold wB
 refine DJ (body:=tB l k fun y0 y1=>cS y0.Key y1) (fun(p:Int×Int)=>(0≤p.1∧p.1≤p.2∧p.2≤(l.length:Int))∧(∀j (h:j<l.length),(j:Int)<p.1→aI l[j].Key k=true)∧∀j (h:j<l.length),p.2≤(j:Int)→aI l[j].Key k=false) (fun p=>(p.2-p.1).toNat) (fun(v:Int×Bool)=>∃i,rQ l k i∧v=((i:Int),TP l k i)) ?_ _ (0,(l.length:Int)) ⟨⟨by omega,(by show(0:Int)≤(l.length:Int);omega),Int.le_refl _⟩,fun j _ h=>by dsimp only at h;omega,fun j h h2=>by dsimp only at h2;omega⟩ (by show((l.length:Int)-0).toNat<_;omega)
 rintro⟨a,b⟩ ⟨⟨h0,h1,h2⟩,h3,h4⟩
 dsimp only at h0 h1 h2 h3 h4
 unfold tB
 dsimp only
 cases hd:decide (a<b)
 ·have hge:=of_decide_eq_false hd
  have hp:rQ l k a.toNat:=⟨by omega,fun j h hj=>h3 j h oM,fun j h hj=>h4 j h oM⟩
  dsimp only[cond_false]
  show ∃i,rQ l k i∧(bif decide (a<(l.length:Int))then(a,decide (cS (l.getD a.toNat lA).Key k=0))else(a,false))=((i:Int),TP l k i)
  refine⟨a.toNat,hp,?_⟩
  rw[show((a.toNat:Nat):Int)=a by omega]
  unfold TP
  by_cases hl2:a<(l.length:Int)
  ·rw[decide_eq_true hl2,decide_eq_true (show a.toNat<l.length by omega),rV]
   show(a,_)=(a,_)
   congr 1
   rw[Bool.eq_iff_iff,decide_eq_true_eq,Bool.true_and]
   exact⟨fun e=>by rw[e];exact beq_self_eq_true _,eq_of_beq⟩
  ·rw[decide_eq_false hl2,decide_eq_false (show ¬a.toNat<l.length by omega)];rfl
 ·have hlt:=of_decide_eq_true hd
  have hm:=IR h0 hlt oM
  rw[hm,lW]
  have hw:IntKind.wrap .i64 ((a+b) / 2+1)=(a+b) / 2+1:=EF oM
  have hml:((a+b) / 2).toNat<l.length:=by omega
  rw[nE hml]
  dsimp only[cond_true]
  show nH.sat _ _ _ (bif _ then _ else _)
  cases hs:aI l[((a+b) / 2).toNat].Key k
  ·exact⟨⟨⟨h0,by show a≤(a+b) / 2;omega,by show(a+b) / 2≤_;omega⟩,h3,fun j h hj=>hu.up hml hs j h (by dsimp only at hj;omega)⟩,by show((a+b) / 2-a).toNat<(b-a).toNat;omega⟩
  ·rw[hw]
   exact⟨⟨⟨by show 0≤(a+b) / 2+1;omega,by show(a+b) / 2+1≤b;omega,h2⟩,fun j h hj=>hu.down hml hs j h (by dsimp only at hj;omega),h4⟩,by show(b-((a+b) / 2+1)).toNat<(b-a).toNat;omega⟩
theorem qS{l:List dA}(hu:Up l)(hl:l.length≤2147483648)(k:QA):∃i,rQ l k i:=by
 obtain⟨i,h,_⟩:=AL hu hl k;exact⟨i,h⟩
def UM(l:List dA)(w:dA)(i:Nat):List dA:=bif TP l w.Key i then l.set i w else l.take i++w::l.drop i
theorem tS{l:List dA}(hu:Up l)(hl:l.length≤2147483648)(w:dA){i:Nat}(hp:rQ l w.Key i):GD l w=UM l w i:=by
 obtain⟨i',h,e⟩:=AL hu hl w.Key
 obtain rfl:=hp.uniq h
 unfold GD UM
 rw[e];rfl
theorem dQ{l:List dA}(hu:Up l)(hl:l.length≤1000000)(w:dA){i:Nat}(hp:rQ l w.Key i):FC l w=UM l w i:=by
 unfold FC
 refine DJ (body:=aF l w) (fun(x:Int)=>(0≤x∧x≤(l.length:Int))∧∀j (h:j<l.length),x≤(j:Int)→aI w.Key l[j].Key=true) (fun x=>x.toNat) (fun(v:List dA)=>v=UM l w i) ?_ _ _ ⟨⟨by omega,Int.le_refl _⟩,fun j h h2=>by omega⟩ oM
 rintro x ⟨⟨h0,h1⟩,h2⟩
 unfold aF
 dsimp only
 have hi:=hp.le
 have key:(0<x→∀h:x.toNat-1<l.length,pI l[x.toNat-1].Key w.Key=true)→((bif decide (0<x)then(bif(l.getD (IntKind.wrap .i64 (x-1)).toNat lA).Key==w.Key then((([]:List dA)++l).set (IntKind.wrap .i64 (x-1)).toNat w)else(((([]:List dA)++(l.take x.toNat))++([w]:List dA))++(([]:List dA)++(l.drop x.toNat))))else(((([]:List dA)++(l.take x.toNat))++([w]:List dA))++(([]:List dA)++(l.drop x.toNat)))):List dA)=UM l w i:=fun hx=>by
  have hins:∀q:Nat,(((([]:List dA)++(l.take q))++([w]:List dA))++(([]:List dA)++(l.drop q)))=l.take q++w::l.drop q:=fun q=>by simp
  rw[hins]
  by_cases hx0:0<x
  ·rw[decide_eq_true hx0,cond_true,EF oM,show(x-1).toNat=x.toNat-1 by omega]
   have hxl:x.toNat-1<l.length:=by omega
   have hle:=hx hx0 hxl
   rw[nE hxl]
   unfold pI at hle
   cases he:(l[x.toNat-1].Key==w.Key)
   ·rw[he,Bool.or_false]at hle
    have e:i=x.toNat:=hp.uniq ⟨by omega,fun j h hj=>hu.down hxl hle j h oM,fun j h hj=>tR (h2 j h oM)⟩
    have hnf:TP l w.Key i=false:=by
     rw[←Bool.not_eq_true,xJ]
     rintro⟨h,h3⟩
     have:=h2 i h oM
     rw[h3]at this;exact VI _ this
    unfold UM
    rw[hnf,e];rfl
   ·have e:i=x.toNat-1:=hp.uniq (rQ.fnd_at hu hxl (eq_of_beq he))
    have hf:TP l w.Key i=true:=xJ.2 ⟨by omega,by subst e;exact eq_of_beq he⟩
    unfold UM
    rw[hf,e];rfl
  ·rw[decide_eq_false hx0,cond_false]
   have e:i=x.toNat:=hp.uniq ⟨by omega,fun j h hj=>by omega,fun j h hj=>tR (h2 j h oM)⟩
   have hnf:TP l w.Key i=false:=by
    rw[←Bool.not_eq_true,xJ]
    rintro⟨h,h3⟩
    have:=h2 i h oM
    rw[h3]at this;exact VI _ this
   unfold UM
   rw[hnf,e];rfl
 cases hd:decide (0<x)
 ·exact key fun h=>absurd h (of_decide_eq_false hd)
 ·have hx0:=of_decide_eq_true hd
  have hxl:x.toNat-1<l.length:=by omega
  rw[cond_true,EF oM,show(x-1).toNat=x.toNat-1 by omega,nE hxl]
  cases hs:pI l[x.toNat-1].Key w.Key
  ·rw[cond_false]
   rw[HK]at hs
   have hs:aI w.Key l[x.toNat-1].Key=true:=by simpa using hs
   refine⟨⟨⟨by omega,by omega⟩,fun j h hj=>?_⟩,by omega⟩
   rcases Nat.lt_or_ge j x.toNat with hlt | hge
   ·obtain rfl:j=x.toNat-1:=by omega
    exact hs
   ·exact h2 j h oM
  ·rw[cond_true]
   exact key fun _ _=>hs
theorem fQ{l:List dA}(hu:Up l)(hl:l.length≤1000000)(w:dA):GD l w=FC l w:=by
 obtain⟨i,hp⟩:=qS hu oM w.Key
 rw[tS hu oM w hp,dQ hu hl w hp]
theorem RU{l:List dA}{w y:dA}{i:Nat}(h:y∈UM l w i):y∈l∨y=w:=by
 unfold UM at h
 cases hf:TP l w.Key i
 ·rw[hf,cond_false]at h
  rcases List.mem_append.1 h with h | h
  ·exact .inl (List.mem_of_mem_take h)
  ·rcases List.mem_cons.1 h with h | h
   ·exact .inr h
   ·exact .inl (List.mem_of_mem_drop h)
 ·rw[hf,cond_true]at h
  exact List.mem_or_eq_of_mem_set h
theorem IV{l:List dA}(hu:Up l){w:dA}{i:Nat}(hp:rQ l w.Key i):Up (UM l w i):=by
 unfold UM
 cases hf:TP l w.Key i
 ·rw[cond_false]
  have hne:∀h:i<l.length,l[i].Key≠w.Key:=fun h e=>by rw[xJ.2 ⟨h,e⟩]at hf;cases hf
  unfold Up
  have h0:=hu
  unfold Up at h0
  rw[←List.take_append_drop i l,List.pairwise_append]at h0
  obtain⟨h1,h2,h3⟩:=h0
  rw[List.pairwise_append,List.pairwise_cons]
  have hd:∀y∈l.drop i,aI w.Key y.Key=true:=fun y hy=>by
   obtain⟨j,hj,rfl⟩:=List.mem_iff_getElem.1 hy
   rw[List.length_drop]at hj
   rw[List.getElem_drop]
   have hil:i+j<l.length:=by omega
   cases hs:aI w.Key l[i+j].Key
   ·have e:=TS hs (hp.hi (i+j) hil oM)
    rcases Nat.eq_zero_or_pos j with h0 | h0
    ·subst h0;exact absurd e.symm (hne oM)
    ·have h4:=hu.lt (show i<l.length by omega) hil oM
     rw[←e,hp.hi i oM (Nat.le_refl _)]at h4;cases h4
   ·rfl
  have ht:∀x∈l.take i,aI x.Key w.Key=true:=fun x hx=>by
   obtain⟨j,hj,rfl⟩:=List.mem_iff_getElem.1 hx
   rw[List.length_take]at hj
   rw[List.getElem_take]
   exact hp.lo j oM oM
  refine⟨h1,⟨hd,h2⟩,fun a ha b hb=>?_⟩
  rcases List.mem_cons.1 hb with rfl | hb
  ·exact ht a ha
  ·exact h3 a ha b hb
 ·rw[cond_true]
  obtain⟨h,e⟩:=xJ.1 hf
  unfold Up
  have hm:(l.set i w).map (·.Key)=l.map (·.Key):=by
   rw[List.map_set]
   apply List.ext_getElem (by simp)
   intro j h1 h2
   rw[List.getElem_set]
   split
   ·rename_i hij;subst hij;rw[List.getElem_map];exact e.symm
   ·rfl
  have h1:((l.set i w).map (·.Key)).Pairwise fun a b=>aI a b=true:=by rw[hm];exact List.pairwise_map.2 hu
  exact List.pairwise_map.1 h1
theorem eQ{l:List dA}(hu:Up l)(hl:l.length≤1000000)(w:dA):Up (FC l w)∧(∀y∈FC l w,y∈l∨y=w)∧(FC l w).length≤l.length+1:=by
 obtain⟨i,hp⟩:=qS hu oM w.Key
 refine⟨by rw[dQ hu hl w hp];exact IV hu hp,fun y hy=>by rw[dQ hu hl w hp]at hy;exact RU hy,?_⟩
 rw[←fQ hu hl w];exact yJ l w
theorem vP{l:List dA}(hu:Up l)(k:QA){ρ:Type}{body:Nat→Unit→nH ρ Unit}(f:dA→ρ)(e:ρ){i:Nat}(hp:rQ l k i)(hb:∀j,body j ()=bif(l.getD j lA).Key==k then .ret (f (l.getD j lA))else .cont ()) :
  OC (BA body (l.length-0) 0 ()) (fun r=>r) (fun _=>e)=bif TP l k i then f (l.getD i lA)else e:=by
 refine jD (fun j _=>∀q (h:q<l.length),q<j→l[q].Key≠k) (fun v=>v=bif TP l k i then f (l.getD i lA)else e) (fun q _ h=>absurd h (Nat.not_lt_zero _)) (fun s hs=>?_) (fun j s _ hj hs=>?_)
 ·have:TP l k i=false:=by
   rw[←Bool.not_eq_true,xJ]
   rintro⟨h,h3⟩
   exact hs i h oM h3
  rw[this];rfl
 ·have hj':j<l.length:=by omega
  cases s
  rw[hb]
  cases hk:((l.getD j lA).Key==k)
  ·intro q h hq hqk
   rcases Nat.lt_or_ge q j with hlt | hge
   ·exact hs q h hlt hqk
   ·obtain rfl:q=j:=by omega
    rw[nE hj',hqk,beq_self_eq_true]at hk;cases hk
  ·rw[nE hj']at hk
   have e1:=hp.uniq (rQ.fnd_at hu hj' (eq_of_beq hk))
   subst e1
   show f (l.getD i lA)=_
   rw[xJ.2 ⟨hj',eq_of_beq hk⟩];rfl
theorem XR{buf:List dA}(hu:Up buf)(hl:buf.length≤1000000)(got:List ED)(k:QA):qD k buf got=pB buf got k:=by
 obtain⟨i,hp,e⟩:=AL hu oM k
 unfold qD pB
 rw[e,vP hu k (body:=OE buf got k) (fun w=>(w.Val,!w.Gone,true)) _ hp fun j=>rfl]
 cases hf:TP buf k i
 ·rfl
 ·rfl
theorem yU{rows:List dA}(hu:Up rows)(hl:rows.length≤1000000)(k:QA):BF rows k=DE rows k:=by
 obtain⟨i,hp,e⟩:=AL hu oM k
 unfold BF DE
 rw[e,vP hu k (body:=TF rows k) (fun w=>(⟨k,w.Val,true⟩:ED)) _ hp fun j=>rfl]
 cases hf:TP rows k i<;>rfl
def kJ(l:List EG):Prop:=∀y∈l,y.Kind=2∨y.Kind=3∨y.Kind=6∨y.Kind=7
theorem eP{o:EG}(h:o.Kind=2∨o.Kind=3)(v:QA)(th:Bool):SC o v th=false:=by
 unfold SC
 rw[decide_eq_false (show ¬o.Kind=4 by omega),decide_eq_false (show ¬o.Kind=5 by omega),decide_eq_false (show ¬o.Kind=6 by omega),decide_eq_false (show ¬o.Kind=7 by omega)];rfl
theorem BU{o:EG}(h:o.Kind=6∨o.Kind=7)(v:QA)(th:Bool):lD o v th=!SC o v th:=by
 unfold lD SC
 rw[decide_eq_false (show ¬o.Kind=4 by omega),decide_eq_false (show ¬o.Kind=5 by omega)]
 rcases h with h | h
 ·rw[decide_eq_true h];rfl
 ·rw[decide_eq_false (show ¬o.Kind=6 by omega),decide_eq_true h]
  cases th
  ·rfl
  ·cases v==o.Val<;>rfl
theorem rM{ρ σ:Type}{b b':Nat→σ→nH ρ σ}(I:Nat→σ→Prop):∀(n k:Nat) (s:σ),I k s→(∀j s,k≤j→j<k+n→I j s→b j s=b' j s∧∀s',b j s=.cont s'→I (j+1) s')→BA b n k s=BA b' n k s
 | 0,_,_,_,_=>rfl
 | n+1,k,s,h0,h=>by
  obtain⟨h1,h2⟩:=h k s (Nat.le_refl _) oM h0
  simp only[BA]
  rw[←h1]
  cases hb:b k s with
  | ret r=>rfl
  | brk s=>rfl
  | cont s'=>exact rM I n (k+1) s' (h2 s' hb) fun j s h3 h4=>h j s oM oM
theorem wP{l:List EG}(hk:kJ l)(hl:l.length≤1000)(got:List ED){j:Nat}(hj:j<l.length){x:List dA}(hu:Up x)(hx:x.length≤j) :
  xC l got j x=UB l got j x∧∀s',xC l got j x=.cont s'→(Up s'∧s'.length≤j+1)∧∀y∈s',y∈x∨(y.Key=(l.getD j CB).Key∧((y.Val=(l.getD j CB).Val∧y.Gone=false∧(l.getD j CB).Kind=2)∨(y.Val=[]∧y.Gone=true∧(l.getD j CB).Kind=3))):=by
 have hko:=hk _ (zG (d:=CB) hj)
 unfold xC UB
 dsimp only
 generalize l.getD j CB=o at *
 have hc:=XR hu oM got o.Key
 rw[hc]
 rcases hko with h2 | h3 | h67
 ·have hg:=eP (.inl h2) (pB x got o.Key).1 (pB x got o.Key).2.1
  have hp:=eQ hu oM (⟨o.Key,o.Val,false⟩:dA)
  rw[decide_eq_true h2,hg,cond_true,fQ hu oM]
  refine⟨by cases (pB x got o.Key).2.2<;>rfl,fun s' hs=>?_⟩
  cases hs
  refine⟨⟨hp.1,by omega⟩,fun y hy=>?_⟩
  rcases hp.2.1 y hy with h | rfl
  ·exact .inl h
  ·exact .inr ⟨rfl,.inl ⟨rfl,rfl,h2⟩⟩
 ·have hg:=eP (.inr h3) (pB x got o.Key).1 (pB x got o.Key).2.1
  have hp:=eQ hu oM (⟨o.Key,[],true⟩:dA)
  rw[decide_eq_false (show ¬o.Kind=2 by omega),decide_eq_true h3,hg,cond_true,cond_false,fQ hu oM]
  refine⟨by cases (pB x got o.Key).2.2<;>rfl,fun s' hs=>?_⟩
  cases hs
  refine⟨⟨hp.1,by omega⟩,fun y hy=>?_⟩
  rcases hp.2.1 y hy with h | rfl
  ·exact .inl h
  ·exact .inr ⟨rfl,.inr ⟨rfl,rfl,h3⟩⟩
 ·rw[decide_eq_false (show ¬o.Kind=2 by omega),decide_eq_false (show ¬o.Kind=3 by omega),decide_eq_false (show ¬o.Kind=4 by omega),BU h67]
  cases (pB x got o.Key).2.2
  ·exact⟨rfl,fun s' hs=>by cases hs⟩
  ·cases SC o (pB x got o.Key).1 (pB x got o.Key).2.1
   ·exact⟨rfl,fun s' hs=>by cases hs;exact⟨⟨hu,by omega⟩,fun y hy=>.inl hy⟩⟩
   ·exact⟨rfl,fun s' hs=>by cases hs⟩
theorem VS{l:List EG}(hk:kJ l)(hl:l.length≤1000)(got:List ED):qC l got=BC l got:=by
 unfold qC BC
 have h:=rM (b:=xC l got) (b':=UB l got) (fun j (x:List dA)=>Up x∧x.length≤j) (l.length-0) 0 [] ⟨List.Pairwise.nil,Nat.le_refl _⟩ fun j s _ hj hI=>by
  obtain⟨h1,h2⟩:=wP hk hl got (j:=j) oM hI.1 hI.2
  exact⟨h1,fun s' hs=>(h2 s' hs).1⟩
 rw[h]
def pV(l:List EG)(x:List dA):Prop:=Up x∧x.length≤l.length∧∀y∈x,∃o∈l,y.Key=o.Key∧((y.Val=o.Val∧y.Gone=false∧o.Kind=2)∨(y.Val=[]∧y.Gone=true∧o.Kind=3))
theorem pV.nil(l:List EG):pV l []:=⟨List.Pairwise.nil,Nat.zero_le _,fun _ h=>by cases h⟩
theorem UU{l:List EG}(hk:kJ l)(hl:l.length≤1000)(got:List ED):pV l (BC l got).2.2:=by
 rw[←VS hk hl got]
 unfold qC
 refine jD (fun j (x:List dA)=>Up x∧x.length≤j∧∀y∈x,∃o∈l,y.Key=o.Key∧((y.Val=o.Val∧y.Gone=false∧o.Kind=2)∨(y.Val=[]∧y.Gone=true∧o.Kind=3))) (fun(v:Int×QA×List dA)=>pV l v.2.2) ⟨List.Pairwise.nil,Nat.le_refl _,fun _ h=>by cases h⟩ (fun s hs=>⟨hs.1,by have:=hs.2.1;show s.length≤_;omega,hs.2.2⟩) (fun j s _ hj hI=>?_)
 have hj':j<l.length:=by omega
 obtain⟨_,h2⟩:=wP hk hl got hj' hI.1 hI.2.1
 have hr:∀r,xC l got j s=.ret r→r.2.2=[]:=fun r hr=>by
  unfold xC at hr
  dsimp only at hr
  revert hr
  cases decide ((l.getD j CB).Kind=2)
  ·cases decide ((l.getD j CB).Kind=3)
   ·cases (qD (l.getD j CB).Key s got).2.2
    ·intro h;cases h;rfl
    ·cases lD (l.getD j CB) ((qD (l.getD j CB).Key s got).1) ((qD (l.getD j CB).Key s got).2.1)
     ·intro h;cases h;rfl
     ·intro h;cases h
   ·intro h;cases h
  ·intro h;cases h
 have hbk:∀r,xC l got j s≠.brk r:=fun r hr=>by
  unfold xC at hr
  dsimp only at hr
  revert hr
  cases decide ((l.getD j CB).Kind=2)
  ·cases decide ((l.getD j CB).Kind=3)
   ·cases (qD (l.getD j CB).Key s got).2.2
    ·intro h;cases h
    ·cases lD (l.getD j CB) ((qD (l.getD j CB).Key s got).1) ((qD (l.getD j CB).Key s got).2.1)
     ·intro h;cases h
     ·intro h;cases h
   ·intro h;cases h
  ·intro h;cases h
 cases hb:xC l got j s with
 | ret r=>show pV l r.2.2;rw[hr r hb];exact pV.nil l
 | brk s'=>exact absurd hb (hbk s')
 | cont s'=>
  obtain⟨⟨a,b⟩,c⟩:=h2 s' hb
  refine⟨a,b,fun y hy=>?_⟩
  rcases c y hy with h | h
  ·exact hI.2.2 y h
  ·exact⟨_,zG (d:=CB) hj',h⟩
theorem mU{rows:List dA}(hu:Up rows)(hr:rows.length≤1000000){l:List EG}(hk:kJ l)(hl:l.length≤1000):QD rows l=OB rows l:=by
 have hb:tF rows l=VE rows l:=by
  funext x
  unfold tF VE
  dsimp only
  rw[VS hk hl x,yU hu hr]
 unfold QD OB
 rw[hb]
theorem cT(rows:List dA){l:List EG}(hk:kJ l)(hl:l.length≤1000):pV l (OB rows l).2.1:=by
 unfold OB
 refine DJ (body:=VE rows l) (fun _=>True) (fun(x:List ED)=>(l.filter fun o=>!(x.any fun g=>g.Key==o.Key)).length) (fun(v:List ED×List dA×Bool)=>pV l v.2.1) ?_ _ _ trivial (Nat.lt_succ_self _)
 intro x _
 unfold VE
 dsimp only
 cases hd:decide ((BC l x).1=1)
 ·exact UU hk hl x
 ·exact⟨trivial,IN (rows:=rows) (of_decide_eq_true hd)⟩
theorem UP:∀(w rows:List dA),Up rows→rows.length+w.length≤1000000→Up (w.foldl FC rows)∧(∀y∈w.foldl FC rows,y∈rows∨y∈w)∧w.foldl GD rows=w.foldl FC rows
 | [],rows,h,_=>⟨h,fun y hy=>.inl hy,rfl⟩
 | x::w,rows,h,hl=>by
  rw[List.length_cons]at hl
  obtain⟨a,b,c⟩:=eQ h oM x
  obtain⟨a2,b2,c2⟩:=UP w (FC rows x) a oM
  refine⟨a2,fun y hy=>?_,?_⟩
  ·rcases b2 y hy with h | h
   ·rcases b y h with h | h
    ·exact .inl h
    ·exact .inr (by rw[h];exact List.mem_cons_self ..)
   ·exact .inr (List.mem_cons_of_mem _ h)
  ·rw[List.foldl_cons,List.foldl_cons,fQ h oM,c2]
theorem cP{T:Type}(f:List dA→dA→List dA){body:Nat→List dA→nH T (List dA)}(w rows:List dA)(hb:∀j x,body j x=.cont (f x (w.getD j lA))){U:Type}(fr:T→U)(fd:List dA→U):OC (BA body (w.length-0) 0 rows) fr fd=fd (w.foldl f rows):=by
 refine jD (fun k (p:List dA)=>p=(w.take k).foldl f rows) (fun v=>v=fd (w.foldl f rows)) rfl (fun s hs=>by rw[hs,List.take_of_length_le oM]) (fun j s _ hj hs=>?_)
 have hj':j<w.length:=by omega
 rw[hb]
 show f s (w.getD j lA)=_
 rw[List.take_succ_eq_append_getElem hj',List.foldl_append,←hs,←nE (d:=lA) hj'];rfl
theorem LJ(rows w:List dA):HB rows w=(w.foldl FC rows).filter fun y=>!y.Gone:=by
 unfold HB
 rw[cP FC (body:=LG rows w) w _ fun j x=>rfl]
 rw[List.nil_append]
 generalize w.foldl FC rows=l
 refine jD (fun k (p:List dA)=>p=(l.take k).filter fun y=>!y.Gone) (fun(v:List dA)=>v=l.filter fun y=>!y.Gone) rfl (fun s h=>by rw[h,List.take_of_length_le oM]) ?_
 intro j s _ hj hs
 have hj':j<l.length:=by omega
 unfold AF
 dsimp only
 rw[List.take_succ_eq_append_getElem hj',List.filter_append,←hs,←nE (d:=lA) hj',List.filter_cons]
 cases (l.getD j lA).Gone<;>simp
theorem sS{rows w:List dA}(hu:Up rows)(hl:rows.length+w.length≤1000000):JF rows w=bif decide (24<((HB rows w).length:Int))then([],false)else(HB rows w,true):=by
 unfold JF
 rw[cP GD (body:=sH rows w) w _ fun j x=>rfl]
 have hc:NA rows=rows:=rfl
 rw[hc,(UP w rows hu hl).2.2,LJ];rfl
theorem KV{l:List dA}(h:lC l=true):Up l:=by
 have h1:=mL (uI l▸h)
 rw[iJ,Bool.and_eq_true,List.all_eq_true]at h1
 have h24:l.length≤24:=by have:=of_decide_eq_true h1.2;omega
 have step:∀i (hi:i+1<l.length),aI l[i].Key l[i+1].Key=true:=fun i hi=>by
  have h3:=h1.1 (i+1) (List.mem_range.2 hi)
  rw[Bool.and_eq_true]at h3
  have h4:=h3.2
  unfold RI at h4
  rw[decide_eq_true oM,cond_true,EF oM,show(((i+1:Nat):Int)-1).toNat=i by omega,nE (by rw[List.length_map];omega),nE (by rw[List.length_map];exact hi),List.getElem_map,List.getElem_map]at h4
  exact h4
 have all:∀d i (hj:i+d+1<l.length),aI l[i].Key l[i+d+1].Key=true:=by
  intro d
  induction d with
  | zero=>exact fun i hj=>step i hj
  | succ d ih=>exact fun i hj=>nK (ih i oM) (step (i+d+1) oM)
 refine List.pairwise_iff_getElem.2 fun i j hi hj hij=>?_
 obtain⟨d,rfl⟩:∃d,j=i+d+1:=⟨j-i-1,by omega⟩
 exact all d i hj
theorem lJ(l:List dA):lC l=true↔(∀y∈l,kD y.Key y.Val y.Gone=true)∧(∀y∈l,y.Gone=false)∧Up l∧l.length≤24:=by
 constructor
 ·intro h
  have hu:=KV h
  rw[uI,BL,Bool.and_eq_true,iJ,Bool.and_eq_true,List.all_eq_true,List.all_eq_true]at h
  refine⟨fun y hy=>?_,fun y hy=>by simpa using h.2 y hy,hu,by have:=of_decide_eq_true h.1.2;omega⟩
  obtain⟨j,hj,rfl⟩:=List.mem_iff_getElem.1 hy
  have h1:=h.1.1 j (List.mem_range.2 hj)
  rw[Bool.and_eq_true,nE hj]at h1
  exact h1.1
 ·rintro⟨h1,h2,hu,h4⟩
  rw[uI,BL,Bool.and_eq_true,iJ,Bool.and_eq_true,List.all_eq_true,List.all_eq_true]
  refine⟨⟨fun j hj=>?_,decide_eq_true oM⟩,fun y hy=>by rw[h2 y hy];rfl⟩
  have hj:=List.mem_range.1 hj
  rw[Bool.and_eq_true,nE hj]
  refine⟨h1 _ (List.getElem_mem hj),?_⟩
  unfold RI
  by_cases h0:0<j
  ·rw[decide_eq_true oM,cond_true,EF oM,nE (by rw[List.length_map];omega),nE (by rw[List.length_map];exact hj),List.getElem_map,List.getElem_map]
   exact hu.lt _ _ oM
  ·rw[decide_eq_false oM];rfl
theorem XN{l:List EG}(h:DG l=true):(∀o∈l,XD o=true)∧l.length≤8:=by
 unfold DG at h
 rw[bT CB XD (r:=false) fun k=>by unfold rG;rfl]at h
 obtain⟨h1,h2⟩:=eE h
 exact⟨List.all_eq_true.1 h1,by have:=of_decide_eq_true h2;omega⟩
theorem bU{l:List EG}(hg:∀o∈l,XD o=true){x:List dA}(h:pV l x):∀y∈x,kD y.Key y.Val y.Gone=true:=fun y hy=>by
 obtain⟨o,ho,hk,h2⟩:=h.2.2 y hy
 have hg:=hg o ho
 unfold XD at hg
 obtain⟨g1,g2⟩:=eE hg
 unfold kD
 rw[hk,g1]
 rcases h2 with⟨hv,hn,h2⟩ | ⟨hv,hn,_⟩
 ·rw[decide_eq_true h2,cond_true]at g2
  rw[hv,hn,(eE g2).1];rfl
 ·rw[hv,hn];rfl
theorem cQ{rows w:List dA}(hr:lC rows=true)(hw:∀y∈w,kD y.Key y.Val y.Gone=true)(hl:w.length≤1000):lC (HB rows w)=decide ((HB rows w).length≤24):=by
 obtain⟨h1,h2,h3,h4⟩:=(lJ rows).1 hr
 obtain⟨a,b,_⟩:=UP w rows h3 oM
 by_cases hlen:(HB rows w).length≤24
 ·rw[decide_eq_true hlen,lJ]
  rw[LJ]at hlen ⊢
  refine⟨fun y hy=>?_,fun y hy=>?_,List.Pairwise.filter _ a,hlen⟩
  ·rcases b y (List.mem_filter.1 hy).1 with h | h
   ·exact h1 y h
   ·exact hw y h
  ·simpa using(List.mem_filter.1 hy).2
 ·rw[decide_eq_false hlen,←Bool.not_eq_true,lJ]
  exact fun h=>hlen h.2.2.2
theorem PT{rows:List dA}{l:List EG}(hr:lC rows=true)(hg:DG l=true)(hk:kJ l):QE rows l=uG rows l∧lC (uG rows l).1=true:=by
 obtain⟨h1,h2,h3,h4⟩:=(lJ rows).1 hr
 obtain⟨g1,g2⟩:=XN hg
 have hw:=cT rows hk oM
 have hx:=bU g1 hw
 have hgood:=cQ hr hx (by have:=hw.2.1;omega)
 have hput:=sS (w:=(OB rows l).2.1) h3 (by have:=hw.2.1;omega)
 have hrun:=RS hr hg (show OB rows l=((OB rows l).1,(OB rows l).2.1,(OB rows l).2.2)from rfl)
 unfold QE uG
 rw[mU h3 oM hk oM,hput,hrun,hgood]
 by_cases hlen:(HB rows (OB rows l).2.1).length≤24
 ·rw[decide_eq_false (show ¬(24:Int)<_ by omega)]
  rw[decide_eq_true hlen]at hgood ⊢
  cases (OB rows l).2.2
  ·exact⟨rfl,hr⟩
  ·exact⟨rfl,hgood⟩
 ·rw[decide_eq_true (show(24:Int)<_ by omega),decide_eq_false hlen]
  cases (OB rows l).2.2<;>exact⟨rfl,hr⟩
def iX(y:EG):Prop:=XD y=true∧(y.Kind=2∨y.Kind=3∨y.Kind=6∨y.Kind=7)
theorem uM{t:BB}{n:QA}{st:List dA}{f:ND}{m:Int}(h:PE t n st f m=true):IF t n=true∧HH st=true∧uH f=true∧AC m 1 24=true:=by
 unfold PE CF at h
 obtain⟨h1,h2⟩:=eE h
 obtain⟨h3,h4⟩:=eE h1
 obtain⟨h5,h6⟩:=eE h2
 exact⟨h3,h4,h5,h6⟩
theorem MT{t:BB}{n:QA}{st:List dA}{f:ND}{m:Int}(h:PE t n st f m=true):st.length≤100:=by
 have:=CK (uM h).2.1;omega
theorem HR{α β:Type}(d:α)(f:α→β)(l:List α){body:Nat→List β→nH (List β) (List β)}(hb:∀k x,body k x=.cont (x++[f (l.getD k d)])):OC (BA body (l.length-0) 0 []) (fun r=>r) (fun x=>x)=l.map f:=by
 refine jD (fun k (x:List β)=>x=(l.take k).map f) (fun v=>v=l.map f) rfl (fun s hs=>by rw[hs,List.take_of_length_le oM]) (fun j s _ hj hs=>?_)
 have hj':j<l.length:=by omega
 rw[hb]
 show s++[f (l.getD j d)]=_
 rw[List.take_succ_eq_append_getElem hj',List.map_append,←hs,←nE (d:=d) hj'];rfl
theorem JJ(t:BB)(n:QA)(st:List dA):aB t n st=(eB t n st).map fun k=>⟨k,[⟨3,k,[],0⟩]⟩:=by
 unfold aB
 exact HR uB (fun k=>(⟨k,[⟨3,k,[],0⟩]⟩:rE)) _ fun k x=>rfl
def FR(y:rE):Prop:=fE y.key=true∧DG y.ops=true∧kJ y.ops
theorem OU{l:List EG}(h:∀y∈l,iX y)(hl:l.length≤8):DG l=true∧kJ l:=⟨xU _ (List.all_eq_true.2 fun y hy=>(h y hy).1) hl,fun y hy=>(h y hy).2⟩
theorem XL{k:QA}(h:fE k=true):FR ⟨k,[⟨3,k,[],0⟩]⟩:=
 ⟨h,OU (fun y hy=>by rw[List.mem_singleton.1 hy];exact⟨HV h,.inr (.inl rfl)⟩) (nb rfl)⟩
theorem TQ{t:BB}{n:QA}{st:List dA}{k:QA}(h:k∈eB t n st):∃w∈st,w.Key=k:=by
 unfold eB at h
 revert h
 refine jD (fun _ (x:List QA)=>∀y∈x,∃w∈st,w.Key=y) (fun(v:List QA)=>k∈v→∃w∈st,w.Key=k) (fun y hy=>by cases hy) (fun s hs h=>hs k h) (fun j s _ hj hs=>?_)
 have hj':j<st.length:=by omega
 unfold XC
 dsimp only
 cases (ZB t n (st.getD j lA).Key).2.2
 ·exact hs
 ·intro y hy
  rcases List.mem_append.1 hy with hy | hy
  ·exact hs y hy
  ·rw[List.mem_singleton.1 hy];exact⟨_,zG hj',rfl⟩
theorem OM{t:BB}{n:QA}{st:List dA}(h:HH st=true):∀y∈aB t n st,FR y:=fun y hy=>by
 rw[JJ]at hy
 obtain⟨k,hk,rfl⟩:=List.mem_map.1 hy
 obtain⟨w,hw,rfl⟩:=TQ hk
 have h1:=((lJ st).1 (by rw[uI];exact h)).1 w hw
 refine XL ?_
 unfold kD at h1
 exact(eE h1).1
theorem YT{l:List rE}(h:∀y∈l,FR y):∀y∈l,y.ops.length≤100∧∀o∈y.ops,o.Kind≠4:=fun y hy=>by
 obtain⟨_,h2,h3⟩:=h y hy
 exact⟨by have:=(XN h2).2;omega,fun o ho=>by have:=h3 o ho;omega⟩
theorem VR{t:BB}{n:QA}{st:List dA}{f:ND}{m:Int}(h:PE t n st f m=true):∀y∈aB t n st,y.ops.length≤100∧∀o∈y.ops,o.Kind≠4:=YT (OM (uM h).2.1)
theorem lS(k:QA):∀y∈([⟨3,k,[],0⟩]:List EG),y.Kind≠4:=fun y hy=>by rw[List.mem_singleton.1 hy];exact(show(3:Int)≠4 by decide)
theorem DV{a b c:Int}(h:decide (a<min b c)=true):a<b∧a<c:=Int.lt_min.1 (of_decide_eq_true h)
theorem ZU(s:List dA)(o:List (List EG)):(NB s o).1.length≤s.length∨(NB s o).1.length≤24:=by
 unfold NB
 cases lC s
 ·exact .inr (Nat.zero_le _)
 ·cases decide (20<(o.length:Int))
  ·refine jD (fun _ (_:Unit)=>True) (fun(v:List dA×List Bool×Bool)=>v.1.length≤s.length∨v.1.length≤24) trivial (fun _ _=>?_) (fun j _ _ _ _=>?_)
   ·refine jD (fun _ (x:List dA×List Bool)=>x.1.length≤s.length∨x.1.length≤24) (fun(v:List dA×List Bool×Bool)=>v.1.length≤s.length∨v.1.length≤24) (.inl (Nat.le_refl _)) (fun _ h=>h) (fun j x _ _ h=>?_)
    obtain⟨x,y⟩:=x
    unfold DD
    dsimp only
    cases (OB x (o.getD j GG)).2.2
    ·exact h
    ·cases hr:lC (HB x (OB x (o.getD j GG)).2.1)
     ·exact h
     ·exact .inr (bM hr)
   ·unfold ID
    cases DG (o.getD j GG)
    ·exact .inr (Nat.zero_le _)
    ·trivial
  ·exact .inr (Nat.zero_le _)
theorem BT(s:List dA)(o:List EG):(uG s o).1.length≤s.length∨(uG s o).1.length≤24:=by
 have h:=ZU s [o]
 unfold uG
 cases decide ((((NB s [o]).2.1).length:Int)=1)<;>exact h
theorem dT{t:BB}{n:QA}{l:List dA}(h:lF t n l=true):l.length≤24:=by
 unfold lF at h
 have h1:=(eE (eE h).2).2
 rw[uI]at h1
 exact CK h1
theorem vV(l:List rE)(f:rE→Bool):(vA (MA l) f).length≤l.length:=List.length_filter_le _ _
theorem RP(t:BB)(n:QA)(l:List dA):(eB t n l).length≤l.length:=by
 unfold eB
 refine jD (fun k (x:List QA)=>x.length≤k) (fun(v:List QA)=>v.length≤l.length) (Nat.le_refl _) (fun s hs=>by omega) (fun j s _ _ hs=>?_)
 unfold XC
 dsimp only
 cases (ZB t n (l.getD j lA).Key).2.2
 ·show s.length≤j+1;omega
 ·show(s++_).length≤j+1
  rw[List.length_append]
  show s.length+1≤j+1
  omega
theorem bQ{st:List dA}(hu:Up st)(hg:∀y∈st,y.Gone=false)(hl:st.length≤1000)(k:QA):HB st [⟨k,[],true⟩]=st.filter fun y=>!(y.Key==k):=by
 rw[LJ]
 show(FC st ⟨k,[],true⟩).filter _=_
 obtain⟨i,hp⟩:=qS hu oM k
 rw[dQ hu oM ⟨k,[],true⟩ hp]
 unfold UM
 have hne:∀j (h:j<st.length),j≠i→(!(st[j].Key==k))=true:=fun j h hj=>by
  cases hb:(st[j].Key==k)
  ·rfl
  ·exact absurd (hp.uniq (rQ.fnd_at hu h (eq_of_beq hb))).symm hj
 have hgt:∀y∈st.take i,(fun y:dA=>!y.Gone) y=true:=fun y hy=>by simp[hg y (List.mem_of_mem_take hy)]
 have hkt:∀y∈st.take i,(fun y:dA=>!(y.Key==k)) y=true:=fun y hy=>by
  obtain⟨j,hj,rfl⟩:=List.mem_iff_getElem.1 hy
  rw[List.length_take]at hj
  rw[List.getElem_take]
  exact hne j oM oM
 cases hf:TP st k i
 ·rw[cond_false,List.filter_append,List.filter_cons]
  have hkd:∀y∈st.drop i,(fun y:dA=>!(y.Key==k)) y=true:=fun y hy=>by
   obtain⟨j,hj,rfl⟩:=List.mem_iff_getElem.1 hy
   rw[List.length_drop]at hj
   rw[List.getElem_drop]
   by_cases h0:j=0
   ·subst h0
    have hil:i<st.length:=by omega
    show(!(st[i+0].Key==k))=true
    cases hb:(st[i+0].Key==k)
    ·rfl
    ·rw[xJ.2 ⟨hil,eq_of_beq hb⟩]at hf;cases hf
   ·exact hne (i+j) oM oM
  have hgd:∀y∈st.drop i,(fun y:dA=>!y.Gone) y=true:=fun y hy=>by simp[hg y (List.mem_of_mem_drop hy)]
  show(st.take i).filter _++(st.drop i).filter _=_
  rw[List.filter_eq_self.2 hgt,List.filter_eq_self.2 hgd,List.take_append_drop]
  refine(List.filter_eq_self.2 fun y hy=>?_).symm
  rw[←List.take_append_drop i st]at hy
  rcases List.mem_append.1 hy with hy | hy
  ·exact hkt y hy
  ·exact hkd y hy
 ·rw[cond_true]
  obtain⟨h,e⟩:=xJ.1 hf
  have hs:st.set i ⟨k,[],true⟩=st.take i++(⟨k,[],true⟩:dA)::st.drop (i+1):=List.set_eq_take_append_cons_drop▸(if_pos h)
  have ht:st=st.take i++st[i]::st.drop (i+1):=by rw[←List.drop_eq_getElem_cons h,List.take_append_drop]
  have hgd:∀y∈st.drop (i+1),(fun y:dA=>!y.Gone) y=true:=fun y hy=>by simp[hg y (List.mem_of_mem_drop hy)]
  have hkd:∀y∈st.drop (i+1),(fun y:dA=>!(y.Key==k)) y=true:=fun y hy=>by
   obtain⟨j,hj,rfl⟩:=List.mem_iff_getElem.1 hy
   rw[List.length_drop]at hj
   rw[List.getElem_drop]
   exact hne (i+1+j) oM oM
  rw[hs,List.filter_append,List.filter_cons,List.filter_eq_self.2 hgt]
  show st.take i++(st.drop (i+1)).filter _=_
  rw[List.filter_eq_self.2 hgd]
  conv=>rhs;rw[ht]
  rw[List.filter_append,List.filter_cons,List.filter_eq_self.2 hkt,List.filter_eq_self.2 hkd]
  have:(!(st[i].Key==k))=false:=by rw[e,beq_self_eq_true];rfl
  rw[this];rfl
def OK(st:List dA)(k:QA):List dA:=st.filter fun y=>!(y.Key==k)
theorem SN{st:List dA}{k:QA}(hr:lC st=true)(hk:fE k=true):uG st [⟨3,k,[],0⟩]=(OK st k,true)∧lC (OK st k)=true:=by
 obtain⟨h1,h2,hu,h4⟩:=(lJ st).1 hr
 have hgood:lC (OK st k)=true:=(lJ _).2 ⟨fun y hy=>h1 y (List.mem_filter.1 hy).1,fun y hy=>h2 y (List.mem_filter.1 hy).1,List.Pairwise.filter _ hu,Nat.le_trans (List.length_filter_le _ _) h4⟩
 have e1:HB st [⟨k,[],true⟩]=OK st k:=bQ hu h2 oM k
 have hrun:=RS hr (XL hk).2.1 (GR st k)
 rw[e1,hgood]at hrun
 refine⟨?_,hgood⟩
 unfold uG
 rw[hrun];rfl
theorem qT{st:List dA}{k:QA}(hr:lC st=true)(hk:fE k=true):QE st [⟨3,k,[],0⟩]=(OK st k,true):=by
 obtain⟨_,h2,h3⟩:=XL hk
 rw[(PT hr h2 h3).1,(SN hr hk).1]
def WW(t:BB)(n k:QA):Bool:=(LC t n k).2.2
theorem BK(t:BB)(n:QA)(l:List dA):TA t n l=(l.map (·.Key)).filter (WW t n):=by
 unfold TA
 refine jD (fun k (x:List QA)=>x=((l.take k).map (·.Key)).filter (WW t n)) (fun v=>v=(l.map (·.Key)).filter (WW t n)) rfl (fun s hs=>by rw[hs,List.take_of_length_le oM]) (fun j s _ hj hs=>?_)
 have hj':j<l.length:=by omega
 unfold UD
 dsimp only
 rw[List.take_succ_eq_append_getElem hj',List.map_append,List.filter_append,←hs,←nE (d:=lA) hj',List.map_cons,List.map_nil,List.filter_cons]
 show nH.sat _ _ _ (bif WW t n (l.getD j lA).Key then _ else _)
 cases WW t n (l.getD j lA).Key
 ·show s=_;simp
 ·rfl
theorem SQ(t:BB)(n:QA)(st:List dA)(k:QA):TA t n (OK st k)=(TA t n st).filter fun y=>!(y==k):=by
 rw[BK,BK]
 unfold OK
 rw[show(st.filter fun y=>!(y.Key==k)).map (·.Key)=(st.map (·.Key)).filter fun y=>!(y==k)by rw[List.filter_map];rfl]
 rw[List.filter_filter,List.filter_filter]
 congr 1
 funext y
 exact Bool.and_comm _ _
def eX(l:List QA):Prop:=l.Pairwise fun a b=>aI a b=true
theorem YR{t:BB}{n:QA}{st:List dA}(h:Up st):eX (TA t n st):=by
 rw[BK]
 exact List.Pairwise.filter _ (List.pairwise_map.2 h)
theorem zW{a b c:QA}(h1:pI a b=true)(h2:pI b c=true):pI a c=true:=by
 rw[HK]at *
 cases h:aI c a
 ·rfl
 ·cases hb:aI b a
  ·cases hc:aI c b
   ·have e1:a=b:=by
     cases hab:aI a b
     ·exact TS hab hb
     ·rw[nK h hab]at hc;cases hc
    rw[e1]at h;rw[h]at hc;cases hc
   ·rw[hc]at h2;cases h2
  ·rw[hb]at h1;cases h1
theorem RT{a b:QA}(h:aI a b=true):pI a b=true:=by unfold pI;rw[h];rfl
theorem OS{a b:QA}(h:pI a b=false):aI b a=true:=by
 rw[HK]at h
 simpa using h
theorem uP{a b:QA}(h:aI b a=true):pI a b=false:=by rw[HK,h];rfl
def pT:List QA→Int→List dA→QA→Int×List dA×QA
 | [],c,x,z=>(c,x,z)
 | k::l,c,x,z=>bif decide (c=0)then pT l c x z else bif pI k z then pT l c x z else pT l (IntKind.wrap .i64 (c-1)) (uG x [⟨3,k,[],0⟩]).1 k
theorem oT(t:BB)(n:QA)(st:List dA)(f:ND)(m:Int):rD t n st f m=((pT (TA t n st) m st f.Last).2.1,⟨(pT (TA t n st) m st f.Last).2.2,f.Over||!(pG (TA t n (pT (TA t n st) m st f.Last).2.1) (pT (TA t n st) m st f.Last).2.2)⟩):=by
 unfold rD
 generalize hR:pT (TA t n st) m st f.Last=R
 refine jD (fun j (s:Int×List dA×QA)=>pT ((TA t n st).drop j) s.1 s.2.1 s.2.2=R) (fun(v:List dA×ND)=>v=_) hR (fun s hs=>?_) (fun j s _ hj hs=>?_)
 ·rw[List.drop_of_length_le oM]at hs
  rw[←hs]
  cases f.Over<;>rfl
 ·have hj':j<(TA t n st).length:=by omega
  rw[List.drop_eq_getElem_cons hj',←nE (d:=uB) hj']at hs
  obtain⟨c,x,z⟩:=s
  unfold pT at hs
  unfold NE
  dsimp only at hs ⊢
  cases h1:decide (c=0)
  ·rw[h1,cond_false]at hs
   cases h2:pI ((TA t n st).getD j uB) z
   ·rw[h2,cond_false]at hs;exact hs
   ·rw[h2,cond_true]at hs;exact hs
  ·rw[h1,cond_true]at hs;exact hs
theorem VN{l:List QA}{k z:QA}(h:∀y∈l,aI k y=true)(hk:pI k z=false∨k=z):(l.filter fun y=>!(pI y z))=l:=List.filter_eq_self.2 fun y hy=>by
 have h1:=h y hy
 have:aI z y=true:=by
  rcases hk with hk | rfl
  ·exact nK (OS hk) h1
  ·exact h1
 rw[uP this];rfl
theorem pM:∀(E:List QA),eX E→(∀k∈E,fE k=true)→∀(b:Nat) (x:List dA) (z:QA),b≤24→lC x=true →
  pT E b x z=(((b-(E.filter fun y=>!(pI y z)).length:Nat):Int),((E.filter fun y=>!(pI y z)).take b).foldl OK x,((E.filter fun y=>!(pI y z)).take b).getLastD z)
 | [],_,_,b,x,z,_,_=>by unfold pT;simp
 | k::l,hu,hk,b,x,z,hb,hr=>by
  obtain⟨hu1,hu2⟩:=List.pairwise_cons.1 hu
  have hk2:∀y∈l,fE y=true:=fun y hy=>hk y (List.mem_cons_of_mem _ hy)
  unfold pT
  cases b with
  | zero=>
   rw[show decide (((0:Nat):Int)=0)=true from rfl,cond_true,pM l hu2 hk2 0 x z hb hr]
   simp
  | succ b=>
   rw[show decide (((b+1:Nat):Int)=0)=false from decide_eq_false oM,cond_false]
   cases hz:pI k z
   ·have hw:IntKind.wrap .i64 (((b+1:Nat):Int)-1)=(b:Int):=by rw[EF oM];omega
    have hd:=SN hr (hk k (List.mem_cons_self ..))
    rw[cond_false,hw,hd.1,pM l hu2 hk2 b (OK x k) k oM hd.2]
    have e1:=VN (z:=k) hu1 (.inr rfl)
    have e2:=VN (z:=z) hu1 (.inl hz)
    rw[e1,List.filter_cons,hz,e2]
    show _=(((b+1-(k::l).length:Nat):Int),((k::l).take (b+1)).foldl OK x,((k::l).take (b+1)).getLastD z)
    rw[List.take_succ_cons,List.foldl_cons,List.length_cons,show b+1-(l.length+1)=b-l.length by omega,List.getLastD_cons]
   ·rw[cond_true,pM l hu2 hk2 (b+1) x z hb hr,List.filter_cons,hz]
    rfl
def rJ(k:QA):rE:=⟨k,[⟨3,k,[],0⟩]⟩
theorem OT(E:List QA)(z:QA):((E.map rJ).filter fun y=>!(pI y.key z))=(E.filter fun k=>!(pI k z)).map rJ:=by
 rw[List.filter_map];rfl
theorem mN{E:List QA}(hk:∀k∈E,fE k=true){st:List dA}(hr:lC st=true)(f:ND)(b:Nat)(hl:E.length≤1000) :
  GC (E.map rJ) st f b=(((E.filter fun y=>!(pI y f.Last)).take b).foldl OK st,⟨((E.filter fun y=>!(pI y f.Last)).take b).getLastD f.Last,f.Over||decide ((E.filter fun y=>!(pI y f.Last)).length≤b)⟩):=by
 have hrest:vA (MA (E.map rJ)) (fun y0=>aC y0 f)=(E.filter fun y=>!(pI y f.Last)).map rJ:=OT E f.Last
 have hB:∀s,ME (E.map rJ) st f b s=ME (E.map rJ) st f b s:=fun _=>rfl
 generalize hF:(E.filter fun y=>!(pI y f.Last))=F at *
 have hkF:∀k∈F,fE k=true:=fun k h=>by rw[←hF]at h;exact hk k (List.mem_filter.1 h).1
 have hlF:F.length≤1000:=by rw[←hF];exact Nat.le_trans (List.length_filter_le _ _) hl
 unfold GC
 rw[hrest]
 refine DJ (body:=ME (E.map rJ) st f b) (fun(s:List dA×Int×QA)=>∃j:Nat,s.2.1=j∧j≤min b F.length∧s.1=(F.take j).foldl OK st∧s.2.2=(F.take j).getLastD f.Last∧lC s.1=true) (fun s=>((F.length:Int)-s.2.1).toNat) (fun(v:List dA×ND)=>v=((F.take b).foldl OK st,⟨(F.take b).getLastD f.Last,f.Over||decide (F.length≤b)⟩)) ?_ _ _ ⟨0,rfl,Nat.zero_le _,rfl,rfl,hr⟩ (by rw[List.length_map];show((F.length:Int)-0).toNat<_;omega)
 rintro⟨x,c,z⟩ ⟨j,hc,hj,hx,hz,hrx⟩
 dsimp only at hc hx hz hrx
 subst hc
 unfold ME
 dsimp only
 rw[hrest,List.length_map]
 by_cases hlt:j<min b F.length
 ·have hjF:j<F.length:=by omega
  rw[decide_eq_true (show(j:Int)<min (b:Int) (F.length:Int)by omega),cond_true,Int.toNat_natCast]
  have hg:(F.map rJ).getD j yG=rJ F[j]:=by rw[nE (by rw[List.length_map];exact hjF),List.getElem_map]
  rw[hg]
  have hkj:=hkF F[j] (List.getElem_mem hjF)
  have hrun:=qT hrx hkj
  have hd:=SN hrx hkj
  show nH.sat _ _ _ (bif(QE x [⟨3,F[j],[],0⟩]).2 then _ else _)
  rw[show(rJ F[j]).ops=[⟨3,F[j],[],0⟩]from rfl,hrun,cond_true]
  have hw:IntKind.wrap .i64 ((j:Int)+1)=((j+1:Nat):Int):=by rw[EF oM];rfl
  refine⟨⟨j+1,hw,oM,?_,?_,hd.2⟩,?_⟩
  ·show OK x F[j]=_
   rw[List.take_succ_eq_append_getElem hjF,List.foldl_append,←hx];rfl
  ·show F[j]=_
   rw[List.take_succ_eq_append_getElem hjF,List.getLastD_concat]
  ·show((F.length:Int)-IntKind.wrap .i64 ((j:Int)+1)).toNat<((F.length:Int)-(j:Int)).toNat
   rw[hw];omega
 ·have he:j=min b F.length:=by omega
  rw[decide_eq_false (show ¬(j:Int)<min (b:Int) (F.length:Int)by omega),cond_false]
  have ht:F.take j=F.take b:=by
   by_cases hb:b≤F.length
   ·rw[show j=b by omega]
   ·rw[show j=F.length by omega,List.take_length,List.take_of_length_le oM]
  show(bif f.Over then _ else _)=_
  rw[hx,hz,ht]
  have hd:decide ((j:Int)=(F.length:Int))=decide (F.length≤b):=by
   rw[Bool.eq_iff_iff,decide_eq_true_eq,decide_eq_true_eq];omega
  cases f.Over
  ·show(_,(⟨_,decide ((j:Int)=(F.length:Int))⟩:ND))=_
   rw[hd];rfl
  ·rfl
theorem HU(l:List QA)(z:QA):pG l z=l.any fun y=>!(pI y z):=by
 unfold pG
 refine jD (fun k (_:Unit)=>∀j (h:j<l.length),j<k→pI l[j] z=true) (fun v=>v=l.any fun y=>!(pI y z)) (fun j _ h=>absurd h (Nat.not_lt_zero _)) (fun _ hs=>?_) (fun j u _ hj hs=>?_)
 ·refine(Bool.eq_false_iff.2 fun h=>?_).symm
  obtain⟨y,hy,h2⟩:=List.any_eq_true.1 h
  obtain⟨i,hi,rfl⟩:=List.mem_iff_getElem.1 hy
  rw[hs i hi oM]at h2;cases h2
 ·have hj':j<l.length:=by omega
  cases u
  unfold OF
  cases h:pI (l.getD j uB) z
  ·refine(List.any_eq_true.2 ⟨l.getD j uB,zG hj',?_⟩).symm
   rw[h];rfl
  ·intro i hi hij
   rcases Nat.lt_or_ge i j with hlt | hge
   ·exact hs i hi hlt
   ·obtain rfl:i=j:=by omega
    rw[←nE (d:=uB) hi];exact h
theorem JL(t:BB)(n:QA):∀(D:List QA) (st:List dA),∀y,y∈TA t n (D.foldl OK st)↔y∈TA t n st∧y∉D
 | [],st,y=>by simp
 | k::D,st,y=>by
  rw[List.foldl_cons,JL t n D (OK st k) y,SQ,List.mem_filter]
  constructor
  ·rintro⟨⟨h1,h2⟩,h3⟩
   refine⟨h1,fun h=>?_⟩
   rcases List.mem_cons.1 h with rfl | h
   ·rw[beq_self_eq_true]at h2;cases h2
   ·exact h3 h
  ·rintro⟨h1,h2⟩
   refine⟨⟨h1,?_⟩,fun h=>h2 (List.mem_cons_of_mem _ h)⟩
   cases hb:(y==k)
   ·rfl
   ·exact absurd (eq_of_beq hb▸List.mem_cons_self ..) h2
theorem ET{E L:List QA}(hu:eX E){z:QA}{b:Nat}(hb:1≤b)(hL:∀y,y∈L↔y∈E∧y∉(E.filter fun y=>!(pI y z)).take b) :
  pG L (((E.filter fun y=>!(pI y z)).take b).getLastD z)=!decide ((E.filter fun y=>!(pI y z)).length≤b):=by
 have hF:∀y,y∈(E.filter fun y=>!(pI y z))↔y∈E∧pI y z=false:=fun y=>by rw[List.mem_filter];simp
 have huF:eX (E.filter fun y=>!(pI y z)):=List.Pairwise.filter _ hu
 generalize (E.filter fun y=>!(pI y z))=F at *
 rw[HU]
 by_cases hlen:F.length≤b
 ·rw[decide_eq_true hlen,List.take_of_length_le hlen]at *
  refine Bool.eq_false_iff.2 fun h=>?_
  obtain⟨y,hy,h2⟩:=List.any_eq_true.1 h
  obtain⟨hyE,hyF⟩:=(hL y).1 hy
  have hyz:pI y z=true:=by
   cases h3:pI y z
   ·exact absurd ((hF y).2 ⟨hyE,h3⟩) hyF
   ·rfl
  have:pI y (F.getLastD z)=true:=by
   cases hl:F.getLast? with
   | none=>rw[List.getLastD_eq_getLast?,hl];exact hyz
   | some q=>
    rw[List.getLastD_eq_getLast?,hl]
    have hq:=(hF q).1 (List.mem_of_getLast? hl)
    exact zW hyz (RT (OS hq.2))
  rw[this]at h2;cases h2
 ·rw[decide_eq_false hlen]
  refine List.any_eq_true.2 ⟨F[b]'oM,?_,?_⟩
  ·refine(hL _).2 ⟨((hF _).1 (List.getElem_mem _)).1,fun h=>?_⟩
   obtain⟨j,hj,e⟩:=List.mem_iff_getElem.1 h
   rw[List.length_take]at hj
   rw[List.getElem_take]at e
   have:=List.pairwise_iff_getElem.1 huF j b oM oM oM
   rw[e]at this;exact VI _ this
  ·obtain⟨c,rfl⟩:∃c,b=c+1:=⟨b-1,by omega⟩
   rw[List.take_succ_eq_append_getElem oM,List.getLastD_concat,uP (List.pairwise_iff_getElem.1 huF c (c+1) oM oM oM)];rfl
theorem oN{m:Int}(h:AC m 1 24=true):1≤m∧m≤24:=by
 unfold AC at h
 first | exact⟨of_decide_eq_true (eE h).1,of_decide_eq_true (eE h).2⟩ | simpa using h
theorem rO(t:BB)(n:QA)(st:List dA)(f:ND)(m:Int):CA t n st f m=dB t n st f m:=by
 have hcond:(bif lF t n st then bif lH f then PI m else false else false)=PE t n st f m:=by
  have h1:lF t n st=CF t n st:=by
   unfold CF lF IF
   rw[rI,LI,←uI]
   cases zC t<;>rfl
  have h3:PI m=AC m 1 24:=rfl
  unfold PE
  rw[h1,wQ,h3]
 unfold CA dB
 cases h:PE t n st f m
 ·rw[h]at hcond
  revert hcond
  cases lF t n st
  ·intro _;rfl
  ·cases lH f
   ·intro _;rfl
   ·cases PI m
    ·intro _;rfl
    ·intro h;cases h
 ·rw[h]at hcond
  obtain⟨c1,c2⟩:=eE hcond
  obtain⟨c3,c4⟩:=eE c2
  rw[c1,c3,c4]
  obtain⟨hi,hr,_,hm⟩:=uM h
  obtain⟨hm1,hm2⟩:=oN hm
  obtain⟨b,rfl⟩:∃b:Nat,m=(b:Int):=⟨m.toNat,by omega⟩
  have hr5:lC st=true:=by rw[uI];exact hr
  have hup:=YR (t:=t) (n:=n) ((lJ st).1 hr5).2.2.1
  have hE:eB t n st=TA t n st:=TN hi (mL hr)
  have hk:∀k∈TA t n st,fE k=true:=fun k hk=>by
   have:=OM (t:=t) (n:=n) hr (rJ k) (by rw[JJ,hE];exact List.mem_map.2 ⟨k,hk,rfl⟩)
   exact this.1
  have hlen:=YL t n st
  have hst:=CK hr
  have e1:=mN hk hr5 f b oM
  have e2:=pM _ hup hk b st f.Last oM hr5
  rw[JJ,hE]
  show((GC ((TA t n st).map rJ) st f b).1,(GC ((TA t n st).map rJ) st f b).2,true)=_
  rw[e1]
  show _=((rD t n st f b).1,(rD t n st f b).2,true)
  rw[oT,e2]
  dsimp only
  rw[ET hup oM (JL t n _ st)]
  rw[Bool.not_not]
theorem dP:∀(D:List QA) (st:List dA),(D.foldl OK st).length≤st.length
 | [],_=>Nat.le_refl _
 | k::D,st=>Nat.le_trans (dP D (OK st k)) (List.length_filter_le _ _)
theorem DN(t:BB)(n:QA)(st:List dA)(f:ND)(m:Int):(CA t n st f m).1.length≤24:=by
 unfold CA
 cases h:PE t n st f m
 ·exact Nat.zero_le _
 ·obtain⟨hi,hr,_,hm⟩:=uM h
  obtain⟨hm1,hm2⟩:=oN hm
  obtain⟨b,rfl⟩:∃b:Nat,m=(b:Int):=⟨m.toNat,by omega⟩
  have hE:eB t n st=TA t n st:=TN hi (mL hr)
  have hk:∀k∈TA t n st,fE k=true:=fun k hk=>by
   have:=OM (t:=t) (n:=n) hr (rJ k) (by rw[JJ,hE];exact List.mem_map.2 ⟨k,hk,rfl⟩)
   exact this.1
  have hlen:=YL t n st
  have hst:=CK hr
  rw[JJ,hE]
  show(GC ((TA t n st).map rJ) st f b).1.length≤24
  rw[mN hk (by rw[uI];exact hr) f b oM]
  exact Nat.le_trans (dP _ _) hst
theorem wN(t:BB)(n:QA)(l:List dA)(f:ND)(m:Int)(hw:wL t)(_:GM n)(hl:CR oK l)(_:zN f)(_:zR m):qB t n l f m=true:=by
 unfold qB
 cases h0:decide (1048576<(n.length:Int))
 case true=>rfl
 cases h1:decide (VD t 1048576<0)
 case true=>rfl
 cases h2:decide (RE l (VD t 1048576)<0)
 case true=>rfl
 cases h3:decide (YH f (RE l (VD t 1048576))<0)
 case true=>rfl
 have hlt:=wR hw (of_decide_eq_false h1)
 have hll:=(oF hl (RD hw (by decide) (of_decide_eq_false h1)).2 (of_decide_eq_false h2)).1.1
 have hc:=DN t n l f m
 obtain⟨_,h3⟩:=KU t 1 (by decide) oM
 obtain⟨_,h4,_⟩:=nP l (WD t 1).1 oM oM
 obtain⟨h5,h6,_⟩:=nP (CA t n l f m).1 1 (by decide) oM
 simp only[cond_false,←rO,vU,rT,xV,beq_self_eq_true,cond_true,h5]
 rw[h4,decide_eq_false oM,cond_false,h6,decide_eq_false oM,cond_false,decide_true];rfl
end Go.Proofs.YtoimdjojffkefaaGreatDoor
