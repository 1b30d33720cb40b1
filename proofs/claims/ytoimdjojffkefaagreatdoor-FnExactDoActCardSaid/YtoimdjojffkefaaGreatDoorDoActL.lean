/- Do Act: plain laws of the models. -/
import Derived.Test.YtoimdjojffkefaaGreatDoorDoActT
set_option linter.unusedVariables false
set_option linter.unusedSimpArgs false
namespace Go.Proofs.YtoimdjojffkefaaGreatDoor
open Go.RowKit Go.X
theorem wV{x:XD}{L:Int}(hw:zO x)(hL:0≤L∧L≤1048576)(h:¬SH x L<0):bJ x∧0≤SH x L∧SH x L≤1048576:=by
 unfold SH at h ⊢
 obtain⟨a0,e0,h⟩:=MV h
 rw[e0]
 have s0:=tO hw.1 hL a0
 exact⟨s0.1,s0.2⟩
theorem dX(x:XD):lT x=x:=rfl
theorem RW(x:XD):EH x x=true:=by unfold EH;simp only[beq_self_eq_true,cond_true,decide_true]
theorem SR(x:List KA)(L:Int):AD x L=uU (fun s L=>IntKind.wrap .i64 (L-(s.length:Int))) WA x L:=by
 unfold AD uU HW
 have:ME x L=fun k y=>bif decide (IntKind.wrap .i64 (y-((x.getD k WA).length:Int))<0)then .ret (-1)else .cont (IntKind.wrap .i64 (y-((x.getD k WA).length:Int))):=by
  funext k y;rfl
 rw[this]
theorem KM{x:List KA}{L:Int}(hw:(YR xN) x)(hL:0≤L∧L≤1048576)(h:¬AD x L<0):(SF PF) x∧0≤AD x L∧AD x L≤1048576:=by
 rw[SR]at h ⊢
 exact DQ WA tO hw hL h
theorem XS(x:List KA):rN x=x:=WS WA (f:=fun s=>s) (fun _=>rfl) x
theorem UN(x:List KA):QF x x=true:=TN WA (f:=fun a b=>a==b) (fun _=>beq_self_eq_true _) x
theorem vU{x:List XD}{L:Int}(hw:(YR zO) x)(hL:0≤L∧L≤1048576)(h:¬IH x L<0):(SF bJ) x∧0≤IH x L∧IH x L≤1048576:=DQ AA (f:=SH) wV hw hL h
theorem uW(x:List XD):HR x=x:=WS AA (f:=fun s=>s) (fun _=>rfl) x
theorem XV(x:List XD):xI x x=true:=TN AA (f:=EH) RW x
theorem ID{x:YA}{L:Int}(hw:AL x)(hL:0≤L∧L≤1048576)(h:¬UD x L<0):BE x∧0≤UD x L∧UD x L≤1048576:=by
 unfold UD at h ⊢
 obtain⟨a0,e0,h⟩:=MV h
 rw[e0]
 have s0:=tO hw.1 hL a0
 obtain⟨a1,e1,h⟩:=MV h
 rw[e1]
 have s1:=KM hw.2.1 s0.2 a1
 obtain⟨a2,e2,h⟩:=MV h
 rw[e2]
 have s2:=vU hw.2.2 s1.2 a2
 exact⟨⟨s0.1,s1.1,s2.1⟩,s2.2⟩
theorem zV(x:YA):zP x=x:=rfl
theorem UU(x:YA):bG x x=true:=by unfold bG;simp only[UN,XV,beq_self_eq_true,cond_true,decide_true]
theorem VS{x:lA}{L:Int}(hw:wK x)(hL:0≤L∧L≤1048576)(h:¬rF x L<0):JB x∧0≤rF x L∧rF x L≤1048576:=by
 unfold rF at h ⊢
 obtain⟨a0,e0,h⟩:=MV h
 rw[e0]
 have s0:=tO hw.1 hL a0
 obtain⟨a1,e1,h⟩:=MV h
 rw[e1]
 have s1:=tO hw.2 s0.2 a1
 exact⟨⟨s0.1,s1.1⟩,s1.2⟩
theorem AV(x:lA):AP x=x:=rfl
theorem VU(x:lA):OF x x=true:=by unfold OF;simp only[beq_self_eq_true,cond_true,decide_true]
theorem TR{x:PE}{L:Int}(hw:EQ x)(hL:0≤L∧L≤1048576)(h:¬eH x L<0):QJ x∧0≤eH x L∧eH x L≤1048576:=by
 unfold eH at h ⊢
 obtain⟨a0,e0,h⟩:=MV h
 rw[e0]
 have s0:=KM hw hL a0
 exact⟨s0.1,s0.2⟩
theorem eX(x:PE):mT x=x:=rfl
theorem TW(x:PE):SI x x=true:=by unfold SI;simp only[UN,beq_self_eq_true,cond_true,decide_true]
theorem NH{x:DB}{L:Int}(hw:vK x)(hL:0≤L∧L≤1048576)(h:¬KF x L<0):uG x∧0≤KF x L∧KF x L≤1048576:=by
 unfold KF at h ⊢
 obtain⟨a0,e0,h⟩:=MV h
 rw[e0]
 have s0:=TR hw.2.1 hL a0
 obtain⟨a1,e1,h⟩:=MV h
 rw[e1]
 have s1:=TR hw.2.2 s0.2 a1
 exact⟨⟨s0.1,s1.1⟩,s1.2⟩
theorem wU(x:DB):cO x=x:=rfl
theorem TT(x:DB):mF x x=true:=by unfold mF;simp only[TW,beq_self_eq_true,cond_true,decide_true]
theorem KE{x:List lA}{L:Int}(hw:(YR wK) x)(hL:0≤L∧L≤1048576)(h:¬JE x L<0):(SF JB) x∧0≤JE x L∧JE x L≤1048576:=DQ pA (f:=rF) VS hw hL h
theorem xU(x:List lA):dO x=x:=WS pA (f:=fun s=>s) (fun _=>rfl) x
theorem UT(x:List lA):GG x x=true:=TN pA (f:=OF) VU x
def OJ(_:lA)(k:Int):Int×lA:=(IntKind.wrap .i64 ((IntKind.wrap .i64 ((IntKind.wrap .i64 (k+1))+1))+1),⟨IB k,IB (IntKind.wrap .i64 (k+1)),decide (Int.tmod (IntKind.wrap .i64 ((IntKind.wrap .i64 (k+1))+1)) 3=0)⟩)
theorem FP(x:lA)(k:Int)(h0:0≤k)(h1:k+((3:Nat):Int)≤4611686018427387904):(OJ x k).1=k+((3:Nat):Int):=by
 unfold OJ
 simp only[IntKind.wrap_i64];omega
theorem tL(a:List lA)(k:Int):tC a k=kO OJ a k:=by
 unfold tC
 exact mV (d:=pA) (mk:=OJ) (fun i k xs hi=>by unfold ZF;simp only[List.set_set,fF hi,OJ]) a k
theorem AR(a:List lA)(k:Int)(h0:0≤k)(h1:k+(XM (fun _=>3) a:Int)≤4611686018427387904):JD (tC a k).2 k=(tC a k).1:=by
 rw[tL]
 unfold JD
 exact ZU (d:=pA) (mk:=OJ) (c:=fun _=>3) a k FP (fun i k x hx _ _=>by unfold QC;simp only[hx,OJ,eq_self,decide_true,beq_self_eq_true,cond_true]) h0 h1
theorem EP(a:List lA)(k:Int)(h0:0≤k)(h1:k+(((3:Nat)*a.length:Nat):Int)≤4611686018427387904):JD (tC a k).2 k=(tC a k).1∧(tC a k).1=k+(((3:Nat)*a.length:Nat):Int)∧(tC a k).2.length=a.length:=by
 rw[←HK]at h1 ⊢
 refine⟨AR a k h0 h1,?_,?_⟩
 ·rw[tL];exact DN FP a k h0 h1
 ·rw[tL];exact NJ _ _ _
theorem WL(a:List lA)(k:Int)(h:k≤9223372036854775807):(tC a k).1≤9223372036854775807:=by
 unfold tC
 refine MD (fun _ (s:Int×List lA)=>s.1≤9223372036854775807) (fun(v:Int×List lA)=>v.1≤9223372036854775807) h (fun s hs=>hs) ?_
 rintro j ⟨k,x⟩ _ _ hk
 exact FN _
theorem VL(a:List lA)(k:Int)(h:k≤9223372036854775807):JD a k≤9223372036854775807:=by
 unfold JD
 refine MD (fun _ (s:Int)=>s≤9223372036854775807) (fun v=>v≤9223372036854775807) h (fun s hs=>hs) ?_
 intro j k' _ _ hk
 unfold QC
 dsimp only
 cases (((a.getD j pA).Key)==IB k')<;>cases (((a.getD j pA).Val)==IB (IntKind.wrap .i64 (k'+1)))<;>cases (((a.getD j pA).Gone)==decide (Int.tmod (IntKind.wrap .i64 ((IntKind.wrap .i64 (k'+1))+1)) 3=0))<;>first | exact FN _ | exact eW
theorem EO(xs:List XD)(f:XD→Bool):oE xs f=zS f AA xs:=rfl
theorem GJ(xs:List lA)(f:lA→Bool):aE xs f=xs.any f:=BM f pA xs
theorem LL(xs:List KA)(f:KA→Bool):tE xs f=xs.any f:=BM f WA xs
theorem AN(xs:List KA)(y:KA):xE xs y=xs.any (fun x=>y==x):=BM _ WA xs
def aJ(_:KA)(k:Int):Int×KA:=(IntKind.wrap .i64 (k+1),IB k)
theorem lO(x:KA)(k:Int)(h0:0≤k)(h1:k+((1:Nat):Int)≤4611686018427387904):(aJ x k).1=k+((1:Nat):Int):=by
 unfold aJ
 simp only[IntKind.wrap_i64];omega
theorem OK(a:List KA)(k:Int):bD a k=kO aJ a k:=by
 unfold bD
 exact mV (d:=WA) (mk:=aJ) (fun i k xs hi=>by unfold zF;simp only[List.set_set,fF hi,aJ]) a k
theorem jQ(a:List KA)(k:Int)(h0:0≤k)(h1:k+(XM (fun _=>1) a:Int)≤4611686018427387904):QG (bD a k).2 k=(bD a k).1:=by
 rw[OK]
 unfold QG
 exact ZU (d:=WA) (mk:=aJ) (c:=fun _=>1) a k lO (fun i k x hx _ _=>by unfold UJ;simp only[hx,aJ,eq_self,decide_true,beq_self_eq_true,cond_true]) h0 h1
theorem jO(a:List KA)(k:Int)(h0:0≤k)(h1:k+(((1:Nat)*a.length:Nat):Int)≤4611686018427387904):QG (bD a k).2 k=(bD a k).1∧(bD a k).1=k+(((1:Nat)*a.length:Nat):Int)∧(bD a k).2.length=a.length:=by
 rw[←HK]at h1 ⊢
 refine⟨jQ a k h0 h1,?_,?_⟩
 ·rw[OK];exact DN lO a k h0 h1
 ·rw[OK];exact NJ _ _ _
theorem UI(a:List KA)(k:Int)(h:k≤9223372036854775807):(bD a k).1≤9223372036854775807:=by
 unfold bD
 refine MD (fun _ (s:Int×List KA)=>s.1≤9223372036854775807) (fun(v:Int×List KA)=>v.1≤9223372036854775807) h (fun s hs=>hs) ?_
 rintro j ⟨k,x⟩ _ _ hk
 exact FN _
def jM(_:XD)(k:Int):Int×XD:=(IntKind.wrap .i64 ((IntKind.wrap .i64 ((IntKind.wrap .i64 (k+1))+1))+1),⟨IB k,IntKind.wrap .i64 (k+1),IntKind.wrap .i64 ((IntKind.wrap .i64 (k+1))+1)⟩)
theorem oT(x:XD)(k:Int)(h0:0≤k)(h1:k+((3:Nat):Int)≤4611686018427387904):(jM x k).1=k+((3:Nat):Int):=by
 unfold jM
 simp only[IntKind.wrap_i64];omega
theorem ZM(a:List XD)(k:Int):YE a k=kO jM a k:=by
 unfold YE
 exact mV (d:=AA) (mk:=jM) (fun i k xs hi=>by unfold XG;simp only[List.set_set,fF hi,jM]) a k
theorem aU(a:List XD)(k:Int)(h0:0≤k)(h1:k+(XM (fun _=>3) a:Int)≤4611686018427387904):MJ (YE a k).2 k=(YE a k).1:=by
 rw[ZM]
 unfold MJ
 exact ZU (d:=AA) (mk:=jM) (c:=fun _=>3) a k oT (fun i k x hx _ _=>by unfold XK;simp only[hx,jM,eq_self,decide_true,beq_self_eq_true,cond_true]) h0 h1
theorem dW(a:List XD)(k:Int)(h0:0≤k)(h1:k+(((3:Nat)*a.length:Nat):Int)≤4611686018427387904):MJ (YE a k).2 k=(YE a k).1∧(YE a k).1=k+(((3:Nat)*a.length:Nat):Int)∧(YE a k).2.length=a.length:=by
 rw[←HK]at h1 ⊢
 refine⟨aU a k h0 h1,?_,?_⟩
 ·rw[ZM];exact DN oT a k h0 h1
 ·rw[ZM];exact NJ _ _ _
theorem wN(a:List XD)(k:Int)(h:k≤9223372036854775807):(YE a k).1≤9223372036854775807:=by
 unfold YE
 refine MD (fun _ (s:Int×List XD)=>s.1≤9223372036854775807) (fun(v:Int×List XD)=>v.1≤9223372036854775807) h (fun s hs=>hs) ?_
 rintro j ⟨k,x⟩ _ _ hk
 exact FN _
theorem oV(a:YA)(k:Int)(h0:0≤k)(h1:k+((1*a.Cols.length+3*a.Idxs.length:Nat):Int)≤4611686018427387904):sL (xD a k).2 k=(xD a k).1∧(xD a k).1=k+((1*a.Cols.length+3*a.Idxs.length:Nat):Int):=by
 obtain⟨e0,n0,_⟩:=jO a.Cols k oM oM
 obtain⟨e1,n1,_⟩:=dW a.Idxs (k+((1*a.Cols.length:Nat):Int)) oM oM
 have q1:sL (xD a k).2 k=(k+((1*a.Cols.length:Nat):Int))+((3*a.Idxs.length:Nat):Int):=by unfold sL xD;simp only[e0,n0,e1,n1,decide_eq_false (show ¬k+((1*a.Cols.length:Nat):Int)<0 by omega),decide_eq_false (show ¬(k+((1*a.Cols.length:Nat):Int))+((3*a.Idxs.length:Nat):Int)<0 by omega),cond_false]
 have q2:(xD a k).1=(k+((1*a.Cols.length:Nat):Int))+((3*a.Idxs.length:Nat):Int):=by unfold xD;simp only[n0,n1]
 exact⟨q1.trans q2.symm,q2.trans oM⟩
theorem wQ(a:YA)(k:Int)(h:k≤9223372036854775807):(xD a k).1≤9223372036854775807:=by
 unfold xD
 exact(wN _ _ (UI _ _ h))
theorem nV(a:PE)(k:Int)(h0:0≤k)(h1:k+((1*a.Vals.length:Nat):Int)≤4611686018427387904):OI (bE a k).2 k=(bE a k).1∧(bE a k).1=k+((1*a.Vals.length:Nat):Int):=by
 obtain⟨e0,n0,_⟩:=jO a.Vals k oM oM
 have q1:OI (bE a k).2 k=k+((1*a.Vals.length:Nat):Int):=by unfold OI bE;simp only[e0,n0,decide_eq_false (show ¬k+((1*a.Vals.length:Nat):Int)<0 by omega),cond_false]
 have q2:(bE a k).1=k+((1*a.Vals.length:Nat):Int):=by unfold bE;simp only[n0]
 exact⟨q1.trans q2.symm,q2.trans oM⟩
theorem QK(a:PE)(k:Int)(h:k≤9223372036854775807):(bE a k).1≤9223372036854775807:=by
 unfold bE
 exact(UI _ _ h)
theorem iU(a:DB)(k:Int)(h0:0≤k)(h1:k+((1*a.Old.Vals.length+1*a.New.Vals.length:Nat):Int)≤4611686018427387904):NK (iE a k).2 k=(iE a k).1∧(iE a k).1=k+((1*a.Old.Vals.length+1*a.New.Vals.length:Nat):Int):=by
 obtain⟨e0,n0⟩:=nV a.Old k oM oM
 obtain⟨e1,n1⟩:=nV a.New (k+((1*a.Old.Vals.length:Nat):Int)) oM oM
 have z0:(⟨(bE a.Old k).2.Vals⟩:PE)=(bE a.Old k).2:=rfl
 have z1:(⟨(bE a.New (k+((1*a.Old.Vals.length:Nat):Int))).2.Vals⟩:PE)=(bE a.New (k+((1*a.Old.Vals.length:Nat):Int))).2:=rfl
 have q1:NK (iE a k).2 k=(k+((1*a.Old.Vals.length:Nat):Int))+((1*a.New.Vals.length:Nat):Int):=by unfold NK iE;simp only[z0,z1,e0,n0,e1,n1,decide_eq_false (show ¬k+((1*a.Old.Vals.length:Nat):Int)<0 by omega),decide_eq_false (show ¬(k+((1*a.Old.Vals.length:Nat):Int))+((1*a.New.Vals.length:Nat):Int)<0 by omega),cond_false]
 have q2:(iE a k).1=(k+((1*a.Old.Vals.length:Nat):Int))+((1*a.New.Vals.length:Nat):Int):=by unfold iE;simp only[n0,n1]
 exact⟨q1.trans q2.symm,q2.trans oM⟩
theorem YO(a:DB)(k:Int)(h:k≤9223372036854775807):(iE a k).1≤9223372036854775807:=by
 unfold iE
 exact(QK _ _ (QK _ _ h))
theorem JL:LC=gD:=rfl
theorem KJ{n lo hi:Int}(h:gD n lo hi=true):lo≤n∧n≤hi:=by
 unfold gD at h
 obtain⟨h1,h2⟩:=TC h
 exact⟨of_decide_eq_true h1,of_decide_eq_true h2⟩
theorem oK{n lo hi:Int}(h:LC n lo hi=true):lo≤n∧n≤hi:=KJ h
theorem WO(l:List UInt8)(c:UInt8):decide (Lib.indexByte l c<0)=!(l.contains c):=by
 induction l with
 | nil=>rfl
 | cons b l ih=>
  have hge:=Lib.indexByte_ge l c
  rw[Bool.eq_iff_iff]at ih ⊢
  simp only[decide_eq_true_eq,Bool.not_eq_true',List.contains_cons]at ih ⊢
  unfold Lib.indexByte
  by_cases hb:b=c
  ·subst hb;simp
  ·have hb1:(b==c)=false:=by simpa using hb
   have hb2:(c==b)=false:=by simpa using fun h=>hb h.symm
   rw[hb1,hb2]
   simp only[Bool.false_or,Bool.false_eq_true,if_false]
   split
   ·rename_i h
    have:Lib.indexByte l c=-1:=by simpa using h
    rw[←ih];omega
   ·rename_i h
    have:Lib.indexByte l c≠-1:=by simpa using h
    constructor
    ·intro h;omega
    ·intro h;have:=ih.2 h;omega
theorem byte_back(b:UInt8):((b.toNat:Int)).toNat.toUInt8=b:=by simp
theorem bV(s:KA)(b:UInt8):decide (bU s (b.toNat:Int)<0)=!(s.contains b):=by
 unfold bU
 rw[byte_back,WO]
def RI(more:KA)(b:UInt8):Bool:=RC (b.toNat:Int)||more.contains b
theorem pL(s more:KA):AH s more=s.all (RI more):=by
 unfold AH
 rw[dS (0:UInt8) (RI more) (r:=false) fun k=>by
  unfold sE RI NF eD
  rw[bV]
  cases RC ((s.getD k 0).toNat:Int)<;>cases more.contains (s.getD k 0)<;>rfl]
 cases s.all (RI more)<;>rfl
theorem yV(a b:UInt8):decide ((a.toNat:Int)=(b.toNat:Int))=(a==b):=by
 rw[Bool.eq_iff_iff,decide_eq_true_iff,beq_iff_eq]
 constructor
 ·intro h;exact UInt8.toNat.inj oM
 ·intro h;rw[h]
theorem FX{T:Type}(s more:KA)(k:Nat)(x0:Bool)(fr:Bool→T)(fd:Bool→T):SC (GA (wB s more k) (more.length-0) 0 x0) fr fd=fd (x0||more.contains (s.getD k 0)):=by
 rw[VX (0:UInt8) (fun b=>(s.getD k 0)==b) fun j x=>by
  unfold wB
  rw[yV]
  cases x<;>rfl]
 rw[List.contains_eq_any_beq]
theorem JI(s more:KA):cF s more=s.all (RI more):=by
 unfold cF
 rw[dS (0:UInt8) (RI more) (r:=false) fun k=>by
  unfold bC RI RC
  simp only[FX]
  cases decide (97≤((s.getD k 0).toNat:Int))<;>cases decide (((s.getD k 0).toNat:Int)≤122)<;>cases decide (48≤((s.getD k 0).toNat:Int))<;>cases decide (((s.getD k 0).toNat:Int)≤57)<;>cases more.contains (s.getD k 0)<;>rfl]
 cases s.all (RI more)<;>rfl
theorem ZR(s:KA):qI s=cE s:=by
 unfold qI cE
 rw[pL,JI,JL]
theorem bS(s:KA):rI s=CE s:=by
 unfold rI CE
 rw[pL,JI]
theorem FQ(l:List lA):oG l=l.map (·.Key):=by
 unfold oG
 rw[GX (body:=xG l) (xs:=l) pA (fun w=>w.Key) fun k x _=>rfl]
 rfl
def VI(ks:List KA)(k:Nat):Bool:=bif decide (0<(k:Int))then uI (ks.getD ((IntKind.wrap .i64 ((k:Int)-1)).toNat) WA) (ks.getD k WA)else true
theorem UP(ks:List KA):nG ks=(List.range ks.length).all fun k=>cE (ks.getD k WA)&&VI ks k:=by
 unfold nG
 rw[CP (fun k=>cE (ks.getD k WA)&&VI ks k) (r:=false) fun k _=>by
  unfold uD VI
  rw[ZR,EN]
  cases cE (ks.getD k WA)<;>cases decide (0<(k:Int))<;>cases uI (ks.getD ((IntKind.wrap .i64 ((k:Int)-1)).toNat) WA) (ks.getD k WA)<;>rfl]
 cases (List.range ks.length).all fun k=>cE (ks.getD k WA)&&VI ks k<;>rfl
theorem pJ(l:List lA):ZE l=(((List.range l.length).all fun k=>lD ((l.getD k pA).Key) ((l.getD k pA).Val) ((l.getD k pA).Gone)&&VI (l.map (·.Key)) k)&&decide ((l.length:Int)≤24)):=by
 have hg:∀k,(l.map (·.Key)).getD k WA=(l.getD k pA).Key:=by
  intro k
  simp only[List.getD_eq_getElem?_getD,List.getElem?_map]
  cases l[k]? <;> rfl
 unfold ZE
 rw[CP (fun k=>lD ((l.getD k pA).Key) ((l.getD k pA).Val) ((l.getD k pA).Gone)&&VI (l.map (·.Key)) k) (r:=false) fun k _=>by
  unfold FD VI
  rw[hg,hg]
  cases lD ((l.getD k pA).Key) ((l.getD k pA).Val) ((l.getD k pA).Gone)<;>cases decide (0<(k:Int))<;>cases uI (l.getD ((IntKind.wrap .i64 ((k:Int)-1)).toNat) pA).Key (l.getD k pA).Key<;>rfl]
 cases ((List.range l.length).all fun k=>lD ((l.getD k pA).Key) ((l.getD k pA).Val) ((l.getD k pA).Gone)&&VI (l.map (·.Key)) k)<;>rfl
theorem RV{α:Type}(l:List α)(p q:α→Bool):(l.all p&&l.all q)=l.all fun x=>p x&&q x:=by
 induction l with
 | nil=>rfl
 | cons x l ih=>
  simp only[List.all_cons,←ih]
  cases p x<;>cases q x<;>cases l.all p<;>rfl
theorem qN(v:KA)(g:Bool):lF v g=(CE v&&(!g||v==([]:KA))):=by
 unfold lF
 rw[bS]
 cases CE v<;>cases g<;>cases (v==([]:KA))<;>rfl
theorem bO(k v:KA)(g:Bool):lD k v g=(cE k&&lF v g):=by
 rw[qN]
 unfold lD
 cases cE k<;>cases CE v<;>cases g<;>cases (v==([]:KA))<;>rfl
theorem DO(l:List lA):JF l=ZE l:=by
 have hg:∀k,(l.map (·.Key)).getD k WA=(l.getD k pA).Key:=by
  intro k
  simp only[List.getD_eq_getElem?_getD,List.getElem?_map]
  cases l[k]? <;> rfl
 unfold JF
 rw[FQ,UP,pJ,GJ,List.length_map]
 have h1:(!(l.any fun y=>FG y))=(List.range l.length).all fun k=>lF (l.getD k pA).Val (l.getD k pA).Gone:=by
  rw[List.not_any_eq_all_not,←IP pA]
  unfold FG
  simp only[Bool.not_not]
 rw[h1]
 have h2:((List.range l.length).all fun k=>lD ((l.getD k pA).Key) ((l.getD k pA).Val) ((l.getD k pA).Gone)&&VI (l.map (·.Key)) k)=(((List.range l.length).all fun k=>cE ((l.map (·.Key)).getD k WA)&&VI (l.map (·.Key)) k)&&(List.range l.length).all fun k=>lF (l.getD k pA).Val (l.getD k pA).Gone):=by
  rw[RV]
  congr 1;funext k
  rw[bO,hg]
  cases cE (l.getD k pA).Key<;>cases lF (l.getD k pA).Val (l.getD k pA).Gone<;>cases VI (l.map (·.Key)) k<;>rfl
 rw[h2]
 cases decide ((l.length:Int)≤24)<;>cases ((List.range l.length).all fun k=>cE ((l.map (·.Key)).getD k WA)&&VI (l.map (·.Key)) k)<;>cases ((List.range l.length).all fun k=>lF (l.getD k pA).Val (l.getD k pA).Gone)<;>rfl
theorem FL(l:List lA):WH l=(ZE l&&l.all fun w=>!w.Gone):=by
 unfold WH
 rw[DO,GJ,List.not_any_eq_all_not]
 cases ZE l<;>rfl
theorem iM:nC=tB:=by
 funext s m
 unfold nC tB
 rfl
theorem gM(s:KA):ZH s=HD s:=by
 unfold ZH HD
 rw[pL,JI,JL]
theorem LK(t:YA)(r:PE):tD t r=(r.Vals.all HD&&decide ((r.Vals.length:Int)=(t.Cols.length:Int))):=by
 unfold tD
 rw[dS WA HD (r:=false) fun k=>rfl]
 cases r.Vals.all HD<;>rfl
theorem DM(t:YA)(r:PE):cC t r=tD t r:=by
 rw[LK]
 unfold cC
 rw[LL,List.not_any_eq_all_not]
 unfold TG
 simp only[Bool.not_not,gM]
 cases decide ((r.Vals.length:Int)=(t.Cols.length:Int))<;>cases (r.Vals.all fun x=>HD x)<;>rfl
theorem eU(l:List KA)(s:KA):decide (0≤EJ l s)=l.any fun x=>x==s:=by
 have:EJ l s=zS (fun x=>x==s) WA l:=rfl
 rw[this,BM]
def RN(l:List KA)(k:Nat):Bool:=tB (l.getD k WA) 3&&!((l.take k).any fun x=>x==l.getD k WA)
theorem ZN(l:List KA):VG l=((List.range l.length).all (RN l)&&gD (l.length:Int) 2 4):=by
 unfold VG
 rw[CP (RN l) (r:=false) fun k _=>by
  unfold wE RN
  rw[eU]
  cases tB (l.getD k WA) 3<;>cases ((l.take k).any fun x=>x==l.getD k WA)<;>rfl]
 cases (List.range l.length).all (RN l)<;>rfl
theorem lG(t:YA):MC t=RB t:=by
 unfold MC RB
 rw[ZN,iM,JL]
 rw[CP (RN t.Cols) (r:=false) fun k _=>by
  unfold RD RN
  rw[AN,iM]
  rw[show((t.Cols.take k).any fun x=>t.Cols.getD k WA==x)=((t.Cols.take k).any fun x=>x==t.Cols.getD k WA)by congr 1;funext x;rw[Bool.beq_comm]]
  cases tB (t.Cols.getD k WA) 3<;>cases ((t.Cols.take k).any fun x=>x==t.Cols.getD k WA)<;>rfl]
 have hb:vC t=mC t:=by
  funext k u
  unfold vC mC RE
  rw[iM,JL,EN]
  cases tB ((t.Idxs.getD k AA).Name) 1<;>cases gD ((t.Idxs.getD k AA).Col) 1 (IntKind.wrap .i64 ((t.Cols.length:Int)-1))<;>cases gD ((t.Idxs.getD k AA).Stage) 0 3<;>cases decide (0<(k:Int))<;>cases uI ((t.Idxs.getD ((IntKind.wrap .i64 ((k:Int)-1)).toNat) AA).Name) ((t.Idxs.getD k AA).Name)<;>rfl
 rw[hb]
 cases tB t.Name 1<;>cases gD (t.Cols.length:Int) 2 4<;>cases decide (3<(t.Idxs.length:Int))<;>cases (List.range t.Cols.length).all (RN t.Cols)<;>rfl
theorem aS(t:YA)(r:PE):sG t r=IL t r:=by
 unfold sG IL
 rw[lG,DM]
theorem yH{t:YA}(h:RB t=true):2≤(t.Cols.length:Int)∧(t.Cols.length:Int)≤4∧(t.Idxs.length:Int)≤3:=by
 unfold RB at h
 obtain⟨_,h⟩:=TC h
 obtain⟨h1,h⟩:=TC h
 rw[ZN,Bool.and_eq_true]at h1
 have h2:=KJ h1.2
 refine⟨h2.1,h2.2,?_⟩
 cases h3:decide (3<(t.Idxs.length:Int))
 ·have:=of_decide_eq_false h3;omega
 ·rw[h3]at h;cases h
theorem VO{t:YA}(h:MC t=true):2≤(t.Cols.length:Int)∧(t.Cols.length:Int)≤4∧(t.Idxs.length:Int)≤3:=yH (lG t▸h)
theorem gQ{t:YA}{r:PE}(h:tD t r=true):r.Vals.length=t.Cols.length:=by
 rw[LK,Bool.and_eq_true]at h
 have:=of_decide_eq_true h.2
 omega
theorem DR(t:YA)(a:DB):PB t a=FE t a:=by
 unfold PB FE
 simp only[DM]
 cases decide (a.Kind=1)<;>cases decide (a.Kind=2)<;>cases decide (a.Kind=3)<;>cases tD t a.Old<;>cases decide ((a.New.Vals.length:Int)=0)<;>rfl
theorem EI(t:YA)(a:DB):DE t a=mH t a:=by
 unfold DE mH
 rw[lG,DR]
theorem jI(t:YA)(s:KA):LB t s=uF t s:=by
 unfold LB
 rw[EO]
 rfl
theorem ER(t:YA)(n:KA):uF t n=zS (fun y=>ZD y n) AA t.Idxs:=rfl
theorem bK(t:YA)(n:KA):(uF t n=-1∧∀x∈t.Idxs,x.Name≠n)∨∃(k:Nat) (_:k<t.Idxs.length),uF t n=(k:Int)∧(t.Idxs.getD k AA).Name=n∧∀j,j<k→(t.Idxs.getD j AA).Name≠n:=by
 rw[ER]
 rcases DL (fun y=>ZD y n) AA t.Idxs with⟨h1,h2⟩ | ⟨k,hk,h1,h2,h3⟩
 ·exact .inl ⟨h1,fun x hx e=>by have:=h2 x hx;unfold ZD at this;rw[e,beq_self_eq_true]at this;cases this⟩
 ·refine .inr ⟨k,hk,h1,?_,fun j hj e=>?_⟩
  ·rw[QE hk];unfold ZD at h2;exact eq_of_beq h2
  ·have:=h3 j hj;rw[QE oM]at e;unfold ZD at this;rw[e,beq_self_eq_true]at this;cases this
theorem vL(t:YA)(n:KA):-1≤uF t n∧uF t n<(t.Idxs.length:Int):=by
 rcases bK t n with⟨h,_⟩ | ⟨k,hk,h,_⟩<;>omega
theorem PK(t:YA)(n:KA):-1≤LB t n∧LB t n<(t.Idxs.length:Int):=by rw[jI];exact vL t n
def xP(t:YA)(k:Nat):Bool:=tB (t.Idxs.getD k AA).Name 1&&gD (t.Idxs.getD k AA).Col 1 (IntKind.wrap .i64 ((t.Cols.length:Int)-1))&&gD (t.Idxs.getD k AA).Stage 0 3&&bif decide (0<(k:Int))then uI (t.Idxs.getD ((IntKind.wrap .i64 ((k:Int)-1)).toNat) AA).Name (t.Idxs.getD k AA).Name else true
theorem TJ(t:YA):RB t=(tB t.Name 1&&VG t.Cols&&decide (t.Idxs.length≤3)&&(List.range t.Idxs.length).all (xP t)):=by
 unfold RB
 rw[CP (xP t) (r:=false) fun k _=>by
  unfold mC xP
  cases tB (t.Idxs.getD k AA).Name 1<;>cases gD (t.Idxs.getD k AA).Col 1 (IntKind.wrap .i64 ((t.Cols.length:Int)-1))<;>cases gD (t.Idxs.getD k AA).Stage 0 3<;>cases decide (0<(k:Int))<;>cases uI (t.Idxs.getD ((IntKind.wrap .i64 ((k:Int)-1)).toNat) AA).Name (t.Idxs.getD k AA).Name<;>rfl]
 have e:decide (t.Idxs.length≤3)=!decide (3<(t.Idxs.length:Int)):=by
  by_cases h:t.Idxs.length≤3
  ·rw[decide_eq_true h,decide_eq_false oM];rfl
  ·rw[decide_eq_false h,decide_eq_true oM];rfl
 rw[e]
 cases tB t.Name 1<;>cases VG t.Cols<;>cases decide (3<(t.Idxs.length:Int))<;>cases (List.range t.Idxs.length).all (xP t)<;>rfl
def iO(b:UInt8):Bool:=!decide ((b.toNat:Int)<97)&&!decide (122<(b.toNat:Int))
theorem UL(s:KA)(m:Int):tB s m=(s.all iO&&decide (1≤(s.length:Int))&&decide ((s.length:Int)≤m)):=by
 unfold tB
 rw[dS (0:UInt8) iO (r:=false) fun k=>by
  unfold BD iO
  cases decide (((s.getD k 0).toNat:Int)<97)<;>cases decide (122<((s.getD k 0).toNat:Int))<;>rfl]
 cases s.all iO<;>cases decide (1≤(s.length:Int))<;>rfl
theorem qJ{s:KA}{m:Int}(h:tB s m=true):1≤(s.length:Int)∧(s.length:Int)≤m:=by
 rw[UL]at h
 simp only[Bool.and_eq_true,decide_eq_true_eq]at h
 exact⟨h.1.2,h.2⟩
structure WI (t:YA):Prop where
 name:t.Name.length=1
 cols:2≤t.Cols.length∧t.Cols.length≤4
 idxs:t.Idxs.length≤3
 idx:∀k,k<t.Idxs.length→(t.Idxs.getD k AA).Name.length=1∧1≤(t.Idxs.getD k AA).Col∧(t.Idxs.getD k AA).Col<(t.Cols.length:Int)∧0≤(t.Idxs.getD k AA).Stage∧(t.Idxs.getD k AA).Stage≤3
 rise:∀k,k+1<t.Idxs.length→(t.Idxs.getD k AA).Name<(t.Idxs.getD (k+1) AA).Name
theorem WI.of{t:YA}(h:RB t=true):WI t:=by
 have hf:=yH h
 rw[TJ]at h
 simp only[Bool.and_eq_true,decide_eq_true_eq,List.all_eq_true,List.mem_range]at h
 obtain⟨⟨⟨h1,h2⟩,h3⟩,h4⟩:=h
 have h5:∀k,k<t.Idxs.length→_:=fun k hk=>h4 k hk
 unfold xP at h5
 simp only[Bool.and_eq_true]at h5
 refine⟨by have:=qJ h1;omega,oM,h3,fun k hk=>?_,fun k hk=>?_⟩
 ·obtain⟨⟨⟨a,b⟩,c⟩,d⟩:=h5 k hk
  have a:=qJ a
  have b:=KJ b
  have c:=KJ c
  rw[gH oM]at b
  omega
 ·have d:=(h5 (k+1) hk).2
  rw[gH oM,decide_eq_true (show 0<((k+1:Nat):Int)by omega)]at d
  have e:(((k+1:Nat):Int)-1).toNat=k:=by omega
  rw[e]at d
  exact(uT _ _).1 d
theorem tR{t:YA}{n:KA}(h:HH t n=true):(2≤(t.Cols.length:Int)∧(t.Cols.length:Int)≤4∧(t.Idxs.length:Int)≤3)∧(0≤LB t n∧LB t n<(t.Idxs.length:Int))∧1≤(zB t n).Col∧(zB t n).Col<(t.Cols.length:Int):=by
 unfold HH at h
 obtain⟨h1,h2⟩:=TC h
 have h2:=of_decide_eq_true h2
 have h3:=PK t n
 rw[lG]at h1
 have hg:=WI.of h1
 refine⟨yH h1,⟨h2,h3.2⟩,?_⟩
 unfold zB
 have:=hg.idx (LB t n).toNat oM
 omega
theorem wS{t:YA}{n:KA}(h:(dJ t n).2=true):(2≤(t.Cols.length:Int)∧(t.Cols.length:Int)≤4∧(t.Idxs.length:Int)≤3)∧(0≤uF t n∧uF t n<(t.Idxs.length:Int))∧1≤(dJ t n).1.Col∧(dJ t n).1.Col<(t.Cols.length:Int):=by
 unfold dJ at h ⊢
 cases h1:RB t
 ·rw[h1]at h;cases h
 ·rw[h1]at h
  simp only[cond_true]at h ⊢
  cases h2:decide (uF t n<0)
  ·simp only[cond_false]
   have h2:=of_decide_eq_false h2
   have h3:=vL t n
   have:=(WI.of h1).idx (uF t n).toNat oM
   exact⟨yH h1,⟨by omega,h3.2⟩,by omega⟩
  ·rw[h2]at h;cases h
theorem ZT(t:YA)(n:KA):HH t n=(dJ t n).2:=by
 unfold HH dJ
 rw[lG,jI]
 cases RB t
 ·rfl
 ·simp only[cond_true]
  by_cases h:uF t n<0
  ·rw[decide_eq_true h,decide_eq_false (show ¬0≤uF t n by omega)];rfl
  ·rw[decide_eq_false h,decide_eq_true (show 0≤uF t n by omega)];rfl
theorem bP{t:YA}{n:KA}(h:(dJ t n).2=true):(dJ t n).1=zB t n∧(zB t n).Name=n:=by
 have hf:=wS h
 unfold dJ at h ⊢
 unfold zB
 cases h1:RB t
 ·rw[h1]at h;cases h
 ·simp only[cond_true]
  rw[decide_eq_false (show ¬uF t n<0 by omega),jI]
  refine⟨rfl,?_⟩
  rcases bK t n with⟨h,_⟩ | ⟨k,hk,h,h',_⟩
  ·omega
  ·rw[h];exact h'
theorem oO(t:YA)(n:KA):(HC t n).length=t.Name.length+n.length+2:=by
 unfold HC
 simp only[lN];omega
def JG(r:PE):Prop:=∀v∈r.Vals,v.length≤3
theorem JG.getD{r:PE}(h:JG r)(k:Nat):(r.Vals.getD k WA).length≤3:=by
 rcases Nat.lt_or_ge k r.Vals.length with hk | hk
 ·exact h _ (IF hk)
 ·rw[List.getD_eq_getElem?_getD,List.getElem?_eq_none hk];exact Nat.zero_le _
theorem GS{t:YA}{n:KA}{r:PE}(h:t.Name.length≤1∧n.length≤1)(hr:JG r){a b:Nat}:PF ((((HC t n)++(r.Vals.getD a WA))++([47]:KA))++(r.Vals.getD b WA)):=by
 have h1:=oO t n
 have h2:=hr.getD a
 have h3:=hr.getD b
 unfold PF
 simp only[lN];omega
theorem qQ{t:YA}{x:XD}{r:PE}(h:t.Name.length≤1∧x.Name.length≤1)(hr:JG r){a b:Nat}:PF ((((((t.Name++([46]:KA))++x.Name)++([47]:KA))++(r.Vals.getD a WA))++([47]:KA))++(r.Vals.getD b WA)):=by
 have h2:=hr.getD a
 have h3:=hr.getD b
 unfold PF
 simp only[lN];omega
theorem FJ{s:KA}(h:HD s=true):1≤(s.length:Int)∧(s.length:Int)≤3:=by
 unfold HD at h
 exact KJ (TC h).1
theorem mJ{t:YA}{r:PE}(h:tD t r=true):r.Vals.length=t.Cols.length∧JG r:=by
 refine⟨gQ h,fun v hv=>?_⟩
 rw[LK,Bool.and_eq_true]at h
 have:=FJ (List.all_eq_true.1 h.1 v hv)
 omega
theorem ZI{t:YA}{r:PE}(h:cC t r=true):r.Vals.length=t.Cols.length∧JG r:=mJ (DM t r▸h)
theorem vR{t:YA}{r:PE}(h:IL t r=true):(r.Vals.length=t.Cols.length∧2≤(t.Cols.length:Int)∧(t.Cols.length:Int)≤4∧(t.Idxs.length:Int)≤3)∧t.Name.length=1∧JG r:=by
 unfold IL at h
 obtain⟨h1,h2⟩:=TC h
 exact⟨⟨(mJ h2).1,yH h1⟩,(WI.of h1).name,(mJ h2).2⟩
theorem oN{t:YA}{r:PE}(h:sG t r=true):(r.Vals.length=t.Cols.length∧2≤(t.Cols.length:Int)∧(t.Cols.length:Int)≤4∧(t.Idxs.length:Int)≤3)∧t.Name.length=1∧JG r:=vR (aS t r▸h)
theorem vS{t:YA}{n:KA}(h:HH t n=true):(2≤(t.Cols.length:Int)∧(t.Cols.length:Int)≤4∧(t.Idxs.length:Int)≤3)∧(0≤LB t n∧LB t n<(t.Idxs.length:Int))∧1≤(zB t n).Col∧(zB t n).Col<(t.Cols.length:Int)∧0≤(zB t n).Stage∧(zB t n).Stage≤3∧t.Name.length=1∧n.length=1:=by
 have h0:=tR h
 unfold HH at h
 obtain⟨h1,h2⟩:=TC h
 rw[lG]at h1
 have hg:=WI.of h1
 have h3:=bP (t:=t) (n:=n) (by unfold dJ;rw[h1,cond_true,decide_eq_false (by have:=of_decide_eq_true h2;rw[jI]at this;omega)];rfl)
 refine⟨h0.1,h0.2.1,h0.2.2.1,h0.2.2.2,?_⟩
 have h4:=hg.idx (LB t n).toNat oM
 have h5:(t.Idxs.getD (LB t n).toNat AA).Name=n:=h3.2
 rw[h5]at h4
 unfold zB
 exact⟨h4.2.2.2.1,h4.2.2.2.2,hg.name,h4.1⟩
theorem sT{t:YA}(h:WI t):∀(j i:Nat),i<j→j<t.Idxs.length→(t.Idxs.getD i AA).Name<(t.Idxs.getD j AA).Name
 | 0,i,hi,_=>by omega
 | j+1,i,hi,hj=>by
  have h1:=h.rise j hj
  rcases Nat.lt_or_ge i j with h2 | h2
  ·exact NP (sT h j i h2 oM) h1
  ·obtain rfl:i=j:=by omega
   exact h1
theorem JS{t:YA}(h:WI t){k:Nat}(hk:k<t.Idxs.length):uF t (t.Idxs.getD k AA).Name=(k:Int):=by
 rcases bK t (t.Idxs.getD k AA).Name with⟨_,h2⟩ | ⟨j,hj,h1,h2,h3⟩
 ·exact absurd rfl (h2 _ (IF hk))
 ·rcases Nat.lt_or_ge j k with h4 | h4
  ·have:=sT h k j h4 hk
   rw[h2]at this;exact absurd this (CQ _)
  ·rcases Nat.lt_or_ge k j with h5 | h5
   ·exact absurd rfl (h3 k h5)
   ·rw[h1];omega
theorem vN{t:YA}{k:Nat}(hk:k<t.Idxs.length):0≤LB t (t.Idxs.getD k AA).Name∧LB t (t.Idxs.getD k AA).Name<(t.Idxs.length:Int):=by
 refine⟨?_,(PK _ _).2⟩
 rw[jI]
 rcases bK t (t.Idxs.getD k AA).Name with⟨_,h2⟩ | ⟨j,hj,h1,_⟩
 ·exact absurd rfl (h2 _ (IF hk))
 ·omega
theorem cV(t:YA)(n:KA):zB t n=t.Idxs.getD (uF t n).toNat AA:=by unfold zB;rw[jI]
theorem sK(l:List lA):EC l=WH l:=by
 rw[FL]
 unfold EC
 rw[dS pA (fun w=>!w.Gone) (r:=false) fun k=>by
  unfold kG
  cases (l.getD k pA).Gone<;>rfl]
 cases ZE l<;>cases (l.all fun w=>!w.Gone)<;>rfl
theorem XN(t:YA)(n:KA):HH t n=true↔RB t=true∧0≤uF t n:=by
 unfold HH
 rw[lG,jI]
 constructor
 ·intro h
  obtain⟨h1,h2⟩:=TC h
  exact⟨h1,of_decide_eq_true h2⟩
 ·rintro⟨h1,h2⟩
  rw[h1,decide_eq_true h2];rfl
theorem RR{t:YA}(hw:AL t)(h:¬UD t 1048576<0):t.Cols.length≤2147483648∧t.Idxs.length≤2147483648:=by
 have:=(ID hw (by decide) h).1
 exact⟨this.2.1.1,this.2.2.1⟩
theorem yP{s:KA}(h:cE s=true):s.length≤12:=by
 unfold cE at h
 have:=KJ (TC h).1
 omega
theorem YM{s:KA}(h:CE s=true):s.length≤24:=by
 unfold CE at h
 have:=of_decide_eq_true (TC h).1
 omega
theorem GR{k v:KA}{g:Bool}(h:lD k v g=true):k.length≤12∧v.length≤24:=by
 rw[bO,qN]at h
 simp only[Bool.and_eq_true]at h
 exact⟨yP h.1,YM h.2.1⟩
theorem VN{l:List lA}(h:ZE l=true):l.length≤24∧∀k,k<l.length→(l.getD k pA).Key.length≤12∧(l.getD k pA).Val.length≤24:=by
 rw[pJ,Bool.and_eq_true,decide_eq_true_eq]at h
 refine⟨by omega,fun k hk=>?_⟩
 have:=List.all_eq_true.1 h.1 k (List.mem_range.2 hk)
 rw[Bool.and_eq_true]at this
 exact GR this.1
theorem CT(s:KA)(c:UInt8):TD s [c]=Lib.indexByte s c:=by
 unfold TD eD bU
 have h:((([c]:KA).getD 0 0).toNat:Int).toNat.toUInt8=c:=by simp
 rw[h]
 cases hc:([c]:KA)==s
 ·rfl
 ·have:s=[c]:=(eq_of_beq hc).symm
  subst this
  simp[Lib.indexByte]
theorem EU{a r:KA}{c:UInt8}(h:c∉a)(hl:a.length≤1073741824):zH (a++c::r) [c]=(a,r,true):=by
 have h1:TD (a++c::r) [c]=(a.length:Int):=by
  rw[CT]
  rcases TK c (a++c::r)with⟨h2,_⟩ | ⟨a',r',h2,h3,h4⟩
  ·simp at h2
  ·have:a'::sp c r'=a::sp c r:=by rw[←yQ h3,←yQ h,h2]
   rw[h4,(List.cons.inj this).1]
 unfold zH FF
 rw[h1,decide_eq_true oM]
 simp only[cond_true]
 rw[gH (by simp only[List.length_cons,List.length_nil];omega)]
 have h2:((a.length:Int)).toNat=a.length:=by simp
 have h3:((a.length:Int)+(([c]:KA).length:Int)).toNat=a.length+1:=by simp only[List.length_cons,List.length_nil];omega
 rw[h2,h3]
 simp
theorem PR{s:KA}(h:HD s=true):(47:UInt8)∉s:=by
 unfold HD at h
 obtain⟨_,h2⟩:=TC h
 rw[JI,List.all_eq_true]at h2
 intro hm
 exact absurd (h2 _ hm) (by decide)
theorem CO(k p:KA):(OD k p).2=p.isPrefixOf k∧((OD k p).2=true→(OD k p).1=k.drop p.length):=by
 have h:HF k p=p.isPrefixOf k:=by
  unfold HF
  by_cases hp:p <+: k
  ·obtain⟨r,rfl⟩:=hp
   rw[decide_eq_true (by rw[List.length_append];omega),cond_true,List.take_left]
   simp
  ·rw[show p.isPrefixOf k=false from by rw[Bool.eq_false_iff];intro e;exact hp (List.isPrefixOf_iff_prefix.1 e)]
   cases hd:decide ((p.length:Int)≤(k.length:Int))
   ·rfl
   ·rw[cond_true,beq_eq_false_iff_ne]
    intro e
    exact hp (e▸List.take_prefix ..)
 unfold OD GF
 rw[h]
 cases p.isPrefixOf k<;>simp
theorem uN{ρ σ:Type}{b b':Nat→σ→CH ρ σ}:∀(n k:Nat) (s:σ),(∀j s,k≤j→j<k+n→b j s=b' j s)→GA b n k s=GA b' n k s
 | 0,_,_,_=>rfl
 | n+1,k,s,h=>by
  have h1:=h k s (Nat.le_refl _) oM
  have ih:=fun s=>uN n (k+1) s fun j s h2 h3=>h j s oM oM
  simp only[GA]
  rw[h1]
  cases b' k s with
  | ret r=>rfl
  | brk s=>rfl
  | cont s=>exact ih s
theorem YN{l:List lA}(h:WH l=true):ZE l=true:=by
 rw[FL,Bool.and_eq_true]at h
 exact h.1
theorem LJ(sep x y:KA)(zs:List KA):sep.intercalate (x::y::zs)=x++(sep++sep.intercalate (y::zs)):=by
 simp[List.intercalate,List.intersperse]
theorem EL(sep x:KA):sep.intercalate [x]=x:=by simp[List.intercalate]
theorem CM(sep x:KA):∀xs:List KA,0<xs.length→sep.intercalate (xs++[x])=(sep.intercalate xs++sep)++x
 | [],h=>by simp at h
 | [y],_=>by show sep.intercalate (y::x::[])=_;rw[LJ,EL,EL,List.append_assoc]
 | y::z::zs,_=>by
  show sep.intercalate (y::z::(zs++[x]))=_
  rw[LJ,show z::(zs++[x])=(z::zs)++[x]from rfl,CM sep x (z::zs) (Nat.succ_pos _),LJ]
  simp only[List.append_assoc]
theorem qK:∀xs:List KA,(∀x∈xs,x.length≤3)→(([44]:KA).intercalate xs).length≤4*xs.length
 | [],_=>Nat.zero_le _
 | [x],h=>by have:=h x (by simp);rw[EL,List.length_singleton];omega
 | x::y::zs,h=>by
  have h1:=h x (by simp)
  have h2:=qK (y::zs) fun z hz=>h z (List.mem_cons_of_mem _ hz)
  rw[LJ,List.length_append,List.length_append,List.length_cons (as:=y::zs)]
  simp only[List.length_cons,List.length_nil]at h2 ⊢
  omega
theorem dU{r:PE}(h:r.Vals.length≤4)(hr:JG r):(fD (r.Vals.drop 1) ([44]:KA)).length≤1073741824:=by
 have:=qK (r.Vals.drop 1) fun x hx=>hr x (List.mem_of_mem_drop hx)
 rw[List.length_drop]at this
 unfold fD;omega
theorem fT(xs:List KA)(sep:KA):aI xs sep=fD xs sep:=by
 unfold aI fD
 refine MD (fun k (s:KA)=>s=sep.intercalate (xs.take k)) (fun(v:KA)=>v=sep.intercalate xs) rfl (fun s h=>by rw[h,List.take_of_length_le oM]) ?_
 intro j s _ hj hs
 have hj':j<xs.length:=by omega
 unfold gG
 dsimp only
 rw[List.take_succ_eq_append_getElem hj',QE hj']
 by_cases h0:0<j
 ·rw[decide_eq_true oM,hs,CM _ _ _ (by rw[List.length_take];omega)];rfl
 ·have:j=0:=by omega
  subst this
  rw[decide_eq_false oM,hs]
  show[]++_=_
  simp[List.intercalate]
theorem cK(t:YA)(r:PE):FA t r=jB t r:=by
 unfold FA jB
 rw[fT]
theorem oR{α:Type}{b:Bool}{x y:List α}{n:Nat}(h:x.length≤n)(k:y.length≤n):(bif b then x else y).length≤n:=by cases b<;>assumption
theorem JP(t:YA)(x:XD)(a:DB):(fC t x a).length≤2:=by
 unfold fC
 repeat' first | exact nb rfl | apply oR
theorem qO(t:YA)(a:DB):(SE t a).length≤2:=by
 unfold SE
 repeat' first | exact nb rfl | apply oR
def PL(t:YA)(a:DB):Prop:=(a.Kind≠2→a.New.Vals.length=t.Cols.length∧JG a.New)∧(a.Kind≠1→a.Old.Vals.length=t.Cols.length∧JG a.Old)
theorem MU{t:YA}{a:DB}(h:PB t a=true):PL t a:=by
 unfold PB at h
 by_cases h1:a.Kind=1
 ·rw[decide_eq_true h1,cond_true]at h
  exact⟨fun _=>ZI (TC h).2,fun h2=>absurd h1 h2⟩
 ·rw[decide_eq_false h1,cond_false]at h
  by_cases h2:a.Kind=2
  ·rw[decide_eq_true h2,cond_true]at h
   exact⟨fun h3=>absurd h2 h3,fun _=>ZI (TC h).1⟩
  ·rw[decide_eq_false h2,cond_false]at h
   by_cases h3:a.Kind=3
   ·rw[decide_eq_true h3,cond_true]at h
    obtain⟨h4,h5⟩:=TC h
    exact⟨fun _=>ZI (TC h5).1,fun _=>ZI h4⟩
   ·rw[decide_eq_false h3]at h;cases h
theorem gP{t:YA}{a:DB}(h:PL t a):(a.Kind≠2→a.New.Vals.length=t.Cols.length)∧(a.Kind≠1→a.Old.Vals.length=t.Cols.length):=⟨fun k=>(h.1 k).1,fun k=>(h.2 k).1⟩
theorem RM{t:YA}{a:DB}(ht:RB t=true)(h:PL t a):(2≤(t.Cols.length:Int)∧(t.Cols.length:Int)≤4∧(t.Idxs.length:Int)≤3)∧t.Name.length≤1∧(a.Kind≠2→a.New.Vals.length=t.Cols.length)∧(a.Kind≠1→a.Old.Vals.length=t.Cols.length):=
 ⟨yH ht,by have:=(WI.of ht).name;omega,gP h⟩
theorem kT{t:YA}(h:WI t){k:Nat}(hk:k<t.Idxs.length):zB t (t.Idxs.getD k AA).Name=t.Idxs.getD k AA:=by
 rw[cV,JS h hk];rfl
theorem WJ{t:YA}{a:DB}(ht:RB t=true)(_:PL t a){k:Nat}(hk:k<t.Idxs.length):(0≤LB t (t.Idxs.getD k AA).Name∧LB t (t.Idxs.getD k AA).Name<(t.Idxs.length:Int))∧(0≤(zB t (t.Idxs.getD k AA).Name).Col∧(zB t (t.Idxs.getD k AA).Name).Col<(t.Cols.length:Int))∧(t.Idxs.getD k AA).Name.length≤1∧(0≤(t.Idxs.getD k AA).Col∧(t.Idxs.getD k AA).Col<(t.Cols.length:Int)):=by
 have hg:=WI.of ht
 have h1:=hg.idx k hk
 have h2:=vN (t:=t) hk
 rw[kT hg hk]
 exact⟨h2,⟨by omega,h1.2.2.1⟩,oM,by omega,h1.2.2.1⟩
theorem ZJ{t:YA}{a:DB}(h:DE t a=true):RB t=true∧PL t a:=by
 unfold DE at h
 obtain⟨h1,h2⟩:=TC h
 exact⟨lG t▸h1,MU h2⟩
theorem pN{t:YA}{a:DB}(h:mH t a=true):RB t=true∧PL t a:=ZJ (EI t a▸h)
theorem gV{t:YA}{a:DB}(h:PB t a=true):1≤a.Kind∧a.Kind≤3:=by
 unfold PB at h
 by_cases h1:a.Kind=1
 ·omega
 ·by_cases h2:a.Kind=2
  ·omega
  ·by_cases h3:a.Kind=3
   ·omega
   ·rw[decide_eq_false h1,decide_eq_false h2,decide_eq_false h3]at h;cases h
theorem mQ{t:YA}{a:DB}(h:DE t a=true):1≤a.Kind∧a.Kind≤3:=by
 unfold DE at h
 exact gV (TC h).2
theorem lQ{t:YA}(h:WI t){k:Nat}(hk:k<t.Idxs.length)(r:PE):EA t (t.Idxs.getD k AA).Name r=aB t (t.Idxs.getD k AA) r:=by
 unfold EA aB HC
 rw[kT h hk]
theorem round_eq{t:YA}(h:WI t)(a:DB){k:Nat}(hk:k<t.Idxs.length)(x:List YC):SA t a k x=.cont (x++fC t (t.Idxs.getD k AA) a):=by
 unfold SA fC NI tG
 dsimp only
 rw[lQ h hk,lQ h hk]
 generalize aB t (t.Idxs.getD k AA) a.New=eN
 generalize aB t (t.Idxs.getD k AA) a.Old=eO
 generalize (t.Idxs.getD k AA).Stage=st
 try rw[show(([]:KA)==([]:KA))=true from rfl]
 cases h1:decide (a.Kind=1)
 ·simp only[cond_false,cond_true]
  cases decide (a.Kind=2)<;>simp only[cond_true,cond_false]
  ·cases eO==[]<;>cases eN==[]<;>cases eO==eN<;>cases decide (1≤st)<;>cases decide (2≤st)<;>simp
  ·cases eO==[]<;>cases decide (1≤st)<;>simp
 ·rw[decide_eq_false (show ¬a.Kind=2 by have:=of_decide_eq_true h1;omega)]
  simp only[cond_false,cond_true]
  cases eN==[]<;>cases decide (2≤st)<;>simp
theorem HL{t:YA}{a:DB}(hg:RB t=true)(h:PB t a=true):oD t a=vF t a:=by
 have hb:∀x,GA (SA t a) (t.Idxs.length-0) 0 x=GA (OH t a) (t.Idxs.length-0) 0 x:=fun x=>
  uN _ _ _ fun j s _ hj=>round_eq (WI.of hg) a oM s
 unfold oD vF SE
 simp only[hb,cK]
 unfold PB at h
 by_cases h1:a.Kind=1
 ·rw[decide_eq_true h1];rfl
 ·rw[decide_eq_false h1,cond_false]at h
  by_cases h2:a.Kind=2
  ·rw[decide_eq_false h1,decide_eq_true h2];rfl
  ·rw[decide_eq_false h2,cond_false]at h
   by_cases h3:a.Kind=3
   ·rw[decide_eq_true h3,cond_true]at h
    have h6:a.Old.Vals.getD 0 WA=a.New.Vals.getD 0 WA:=eq_of_beq (TC (TC h).2).2
    have h7:(jB t a.New).Key=(jB t a.Old).Key:=by unfold jB;dsimp only;rw[h6]
    rw[decide_eq_false h1,decide_eq_false h2,h7];rfl
   ·rw[decide_eq_false h3]at h;cases h
theorem BS(t:YA)(a:DB):(vF t a).length≤2+2*t.Idxs.length:=by
 unfold vF
 refine MD (fun k (x:List YC)=>x.length≤2+2*k) (fun(v:List YC)=>v.length≤2+2*t.Idxs.length) (qO t a) (fun s hs=>by omega) ?_
 intro j x _ _ hx
 have:=JP t (t.Idxs.getD j AA) a
 show(x++fC t (t.Idxs.getD j AA) a).length≤2+2*(j+1)
 rw[List.length_append];omega
theorem uR{s:Int}(h:RE s=true):0≤s∧s≤3:=oK h
theorem SU{p s k:KA}(h:s=p++k):p.isPrefixOf s=true:=by subst h;simp
theorem pO(n:Int):(eJ n).length=1:=rfl
theorem NR(t:YA)(r:PE)(h:t.Name.length≤1)(hl:r.Vals.length≤4)(hr:JG r):(jB t r).Key.length≤5∧(jB t r).Val.length≤16:=by
 unfold jB
 dsimp only
 rw[fT]
 have h1:=qK (r.Vals.drop 1) fun x hx=>hr x (List.mem_of_mem_drop hx)
 rw[List.length_drop]at h1
 have h2:=hr.getD 0
 simp only[lN]
 unfold fD;omega
theorem RG{t:YA}{r:PE}(h:t.Name.length≤1)(hl:r.Vals.length≤4)(hr:JG r):JB (jB t r):=by
 have:=NR t r h hl hr
 exact⟨by unfold PF;omega,by unfold PF;omega⟩
theorem nJ{t:YA}{r:PE}(h:sG t r=true):RB t=true∧cC t r=true∧(∀v∈r.Vals,HD v=true)∧2≤r.Vals.length∧r.Vals.length=t.Cols.length:=by
 have h1:=oN h
 unfold sG at h
 obtain⟨h2,h3⟩:=TC h
 have h4:=h3
 rw[DM,LK,Bool.and_eq_true]at h4
 exact⟨lG t▸h2,h3,List.all_eq_true.1 h4.1,oM,h1.1.1⟩
theorem fV{t:YA}{n:KA}{r:PE}(h:sG t r=true)(hi:HH t n=true):(0≤(zB t n).Col∧(zB t n).Col<(r.Vals.length:Int))∧AM t n (EA t n r)=(r.Vals.getD ((zB t n).Col).toNat WA,r.Vals.getD 0 WA,true):=by
 obtain⟨hg,hr,hf,hl,hc⟩:=nJ h
 have hcol:0≤(zB t n).Col∧(zB t n).Col<(r.Vals.length:Int):=by
  have:=vS hi
  omega
 refine⟨hcol,?_⟩
 have f1:=hf _ (IF (d:=WA) (i:=((zB t n).Col).toNat) oM)
 have f0:=hf _ (IF (d:=WA) (i:=0) oM)
 obtain⟨c1,c2⟩:=CO (EA t n r) (HC t n)
 have hk:EA t n r=HC t n++(r.Vals.getD (((zB t n).Col).toNat) WA++47::r.Vals.getD 0 WA):=by
  unfold EA
  simp only[List.append_assoc];rfl
 rw[SU hk]at c1
 have c3:=c2 c1
 rw[hk,List.drop_left' rfl]at c3
 have hs:=(oN h).2.2.getD ((zB t n).Col).toNat
 have hcut:=EU (r:=r.Vals.getD 0 WA) (PR f1) oM
 unfold AM
 rw[hi,cond_true]
 have:bH t n (EA t n r)=(r.Vals.getD ((zB t n).Col).toNat WA,r.Vals.getD 0 WA,true):=by
  unfold bH
  rw[c1,hk,c3,hcut,gM,gM]
  dsimp only[cond_true]
  rw[f1,f0];rfl
 rw[this]
theorem fN{a b c:KA}(h1:uI a b=true)(h2:uI b c=true):uI a c=true:=by
 unfold uI at *
 rw[xJ,decide_eq_true_eq]at *
 exact List.lt_trans h1 h2
theorem SJ(a:KA):¬uI a a=true:=by
 unfold uI
 rw[xJ,decide_eq_true_eq]
 exact List.lt_irrefl a
theorem tT(t:YA)(r:PE):(FA t r).Key=(t.Name++([47]:KA))++r.Vals.getD 0 WA:=rfl
theorem cN(n:Int):(VE n).length≤2:=by
 unfold VE
 cases decide (n<0)
 ·exact Nat.le_succ 1
 ·show(([45]:KA)++eJ _).length≤2
  rw[List.length_append,pO];exact Nat.le_refl 2
theorem HP(n:Int):PF (VE n):=by
 have:=cN n
 unfold PF;omega
theorem xV(rows:List lA)(k:KA):(vE rows k).Key=k:=by
 unfold vE
 refine MD (fun _ _=>True) (fun(v:yD)=>v.Key=k) trivial (fun _ _=>rfl) (fun j s _ _ _=>?_)
 unfold BF
 dsimp only
 cases ((rows.getD j pA).Key==k)
 ·trivial
 ·rfl
theorem TS{buf:List lA}{got:List yD}{k:KA}(h:(nB buf got k).2.2=false):(got.any fun g=>g.Key==k)=false:=by
 revert h
 unfold nB
 refine MD (fun _ _=>True) (fun(v:KA×Bool×Bool)=>v.2.2=false→(got.any fun g=>g.Key==k)=false) trivial (fun _ _=>?_) (fun j s _ _ _=>?_)
 ·refine MD (fun j _=>((got.take j).any fun g=>g.Key==k)=false) (fun(v:KA×Bool×Bool)=>v.2.2=false→(got.any fun g=>g.Key==k)=false) rfl (fun s hs _=>?_) (fun j s _ hj hs=>?_)
  ·rw[List.take_of_length_le oM]at hs;exact hs
  ·have hj':j<got.length:=by omega
   unfold eF
   dsimp only
   cases h1:((got.getD j EF).Key==k)
   ·show((got.take (j+1)).any fun g=>g.Key==k)=false
    have hs:((got.take j).any fun g=>g.Key==k)=false:=hs
    rw[List.take_succ_eq_append_getElem hj',List.any_append,hs,←QE (d:=EF) hj',List.any_cons,h1];rfl
   ·exact fun h=>by cases h
 ·unfold GE
  cases ((buf.getD j pA).Key==k)
  ·trivial
  ·exact fun h=>by cases h
theorem sU{l:List YC}{got:List yD}(h:(AC l got).1=1):∃o∈l,(AC l got).2.1=o.Key∧(got.any fun g=>g.Key==o.Key)=false:=by
 revert h
 unfold AC
 refine MD (fun _ _=>True) (fun(v:Int×KA×List lA)=>v.1=1→∃o∈l,v.2.1=o.Key∧(got.any fun g=>g.Key==o.Key)=false) trivial (fun _ _ h=>?_) (fun j s _ hj _=>?_)
 ·cases h
 ·have hm:l.getD j AB∈l:=IF (d:=AB) oM
  unfold WB
  dsimp only
  cases hk:(nB s got (l.getD j AB).Key).2.2
  ·have hn:=TS hk
   cases decide ((l.getD j AB).Kind=2)
   ·cases decide ((l.getD j AB).Kind=3)
    ·exact fun _=>⟨_,hm,rfl,hn⟩
    ·cases UC (l.getD j AB) ((nB s got (l.getD j AB).Key).1) ((nB s got (l.getD j AB).Key).2.1)
     ·trivial
     ·exact fun h=>by cases h
   ·cases UC (l.getD j AB) ((nB s got (l.getD j AB).Key).1) ((nB s got (l.getD j AB).Key).2.1)
    ·trivial
    ·exact fun h=>by cases h
  ·cases UC (l.getD j AB) ((nB s got (l.getD j AB).Key).1) ((nB s got (l.getD j AB).Key).2.1)
   ·cases decide ((l.getD j AB).Kind=2)
    ·cases decide ((l.getD j AB).Kind=3)
     ·cases decide ((l.getD j AB).Kind=4)
      ·trivial
      ·cases (nB s got (l.getD j AB).Key).2.1<;>trivial
     ·trivial
    ·trivial
   ·exact fun h=>by cases h
theorem nL{α:Type}{p q:α→Bool}(hpq:∀x,q x=true→p x=true):∀{l:List α},(∃x∈l,p x=true∧q x=false)→(l.filter q).length<(l.filter p).length
 | [],h=>by obtain⟨x,hx,_⟩:=h;cases hx
 | y::l,h=>by
  have hle:∀l:List α,(l.filter q).length≤(l.filter p).length:=fun l=>by
   induction l with
   | nil=>exact Nat.le_refl _
   | cons y l ih=>cases hq:q y<;>cases hp:p y<;>simp[hq,hp]<;>first | omega | (have:=hpq y hq;rw[hp]at this;cases this)
  obtain⟨x,hx,h1,h2⟩:=h
  rcases List.mem_cons.1 hx with rfl | hx
  ·have:=hle l;simp[h1,h2];omega
  ·have ih:=nL hpq ⟨x,hx,h1,h2⟩
   cases hq:q y<;>cases hp:p y<;>simp[hq,hp]<;>first | omega | (have:=hpq y hq;rw[hp]at this;cases this)
theorem LN{rows:List lA}{l:List YC}{got:List yD}(h:(AC l got).1=1):(l.filter fun o=>!((got++([(vE rows ((AC l got).2.1))]:List yD)).any fun g=>g.Key==o.Key)).length<(l.filter fun o=>!(got.any fun g=>g.Key==o.Key)).length:=by
 obtain⟨o,ho,hk,hn⟩:=sU h
 refine nL (fun x hx=>?_) ⟨o,ho,by rw[hn];rfl,?_⟩
 ·rw[List.any_append,Bool.not_or,Bool.and_eq_true]at hx;exact hx.1
 ·rw[List.any_append,hk]
  simp[xV]
theorem OU(l:List YC):([]:List yD).length+(l.filter fun o=>!(([]:List yD).any fun g=>g.Key==o.Key)).length≤l.length:=by
 rw[List.length_nil,Nat.zero_add];exact List.length_filter_le _ _
theorem MK{l:List lA}(h:EC l=true):l.length≤24:=by
 rw[sK]at h
 exact(VN (YN h)).1
theorem pW{rows:List lA}{f:List YC}{got:List yD}{x:List lA}{d:Bool}(hr:EC rows=true)(hf:pG f=true)(ha:SB rows f=(got,x,d)):QB rows [f]=bif d&&EC (KB rows x)then(KB rows x,[true],true)else(rows,[false],true):=by
 unfold QB
 rw[hr,cond_true]
 have b0:CD rows [f] 0 ()=.cont ():=by
  unfold CD
  show(bif pG f then _ else _)=_
  rw[hf];rfl
 have e0:GA (CD rows [f]) (([f]:List (List YC)).length-0) 0 ()=.done ():=by
  show GA (CD rows [f]) 1 0 ()=_
  simp only[GA,b0]
 have b1:vD rows [f] 0 (rows,[])=.cont (bif d&&EC (KB rows x)then(KB rows x,[true])else(rows,[false])):=by
  unfold vD
  show(bif(SB rows f).2.2 then bif EC (KB rows (SB rows f).2.1)then _ else _ else _)=_
  rw[ha]
  cases d
  ·rfl
  ·cases h:EC (KB rows x)
   ·simp only[cond_true,cond_false,Bool.true_and,h]
    show CH.cont (rows,[]++[EC (KB rows (SB rows f).2.1)])=_
    rw[ha];simp only[h];rfl
   ·simp only[cond_true,cond_false,Bool.true_and,h]
    show CH.cont (KB rows (SB rows f).2.1,[]++[EC (KB rows (SB rows f).2.1)])=_
    rw[ha];simp only[h];rfl
 have e1:GA (vD rows [f]) (([f]:List (List YC)).length-0) 0 ((([]:List lA)++rows),([]:List Bool))=.done (bif d&&EC (KB rows x)then(KB rows x,[true])else(rows,[false])):=by
  show GA (vD rows [f]) 1 0 (rows,[])=_
  simp only[GA,b1]
 rw[e0,e1]
 cases d&&EC (KB rows x)<;>rfl
theorem rK{s:KA}(h:HD s=true):∀b∈s,∀more:KA,RI more b=true:=by
 unfold HD at h
 obtain⟨_,h2⟩:=TC h
 rw[JI,List.all_eq_true]at h2
 intro b hb more
 have:=h2 b hb
 unfold RI at this ⊢
 rw[Bool.or_eq_true]at this ⊢
 rcases this with h | h
 ·exact Or.inl h
 ·cases h
theorem KK{s:KA}{m:Int}(h:tB s m=true):∀b∈s,RI ([46,47]:KA) b=true:=by
 rw[UL,Bool.and_eq_true,Bool.and_eq_true,List.all_eq_true]at h
 intro b hb
 have h1:=h.1.1 b hb
 unfold iO at h1
 rw[Bool.and_eq_true,Bool.not_eq_true',Bool.not_eq_true',decide_eq_false_iff_not,decide_eq_false_iff_not]at h1
 unfold RI RC
 rw[decide_eq_true (show(97:Int)≤(b.toNat:Int)by omega),decide_eq_true (show(b.toNat:Int)≤122 by omega)];rfl
theorem BR{t:YA}{n:KA}(h:HH t n=true):tB t.Name 1=true∧tB n 1=true:=by
 have h2:=bP (ZT t n▸h)
 obtain⟨h3,h4⟩:=(XN t n).1 h
 have h5:=vL t n
 rw[cV]at h2
 rw[TJ]at h3
 simp only[Bool.and_eq_true,List.all_eq_true,List.mem_range]at h3
 have h6:=h3.2 (uF t n).toNat oM
 unfold xP at h6
 simp only[Bool.and_eq_true]at h6
 have h7:=h6.1.1.1
 rw[h2.2]at h7
 exact⟨h3.1.1.1,h7⟩
theorem aO{s:KA}(h1:1≤s.length)(h2:s.length≤12)(h:∀b∈s,RI ([46,47]:KA) b=true):cE s=true:=by
 unfold cE gD
 rw[decide_eq_true oM,cond_true,decide_eq_true oM,cond_true,JI,List.all_eq_true];exact h
theorem FR{s:KA}(h2:s.length≤24)(h:∀b∈s,RI ([46,45,44,95]:KA) b=true):CE s=true:=by
 unfold CE
 rw[decide_eq_true oM,cond_true,JI,List.all_eq_true];exact h
theorem qL:∀(xs:List KA),∀b∈([44]:KA).intercalate xs,b=44∨∃x∈xs,b∈x
 | [],b,h=>by simp[List.intercalate]at h
 | [x],b,h=>by rw[EL]at h;exact Or.inr ⟨x,by simp,h⟩
 | x::y::zs,b,h=>by
  rw[LJ]at h
  rcases List.mem_append.1 h with h | h
  ·exact Or.inr ⟨x,by simp,h⟩
  ·rcases List.mem_append.1 h with h | h
   ·exact Or.inl (List.mem_singleton.1 h)
   ·rcases qL (y::zs) b h with h | ⟨z,hz,h⟩
    ·exact Or.inl h
    ·exact Or.inr ⟨z,List.mem_cons_of_mem _ hz,h⟩
theorem xS{t:YA}{r:PE}(h:sG t r=true){k:Nat}(hk:k<r.Vals.length):HD (r.Vals.getD k WA)=true:=(nJ h).2.2.1 _ (IF hk)
theorem qU{t:YA}{r:PE}{n:KA}(h:sG t r=true)(hi:HH t n=true):cE (FA t r).Key=true∧CE (FA t r).Val=true∧cE (EA t n r)=true:=by
 obtain⟨hg,hr,hf,hl,hc⟩:=nJ h
 obtain⟨hn1,hn2⟩:=BR hi
 have ln1:=qJ hn1
 have ln2:=qJ hn2
 have hcol:=(fV h hi).1
 have f0:=xS h (k:=0) oM
 have f1:=xS h (k:=((zB t n).Col).toNat) oM
 have l0:=FJ f0
 have l1:=FJ f1
 have hc4:=(WI.of hg).cols
 refine⟨?_,?_,?_⟩
 ·rw[tT]
  refine aO (by simp only[lN];omega) (by simp only[lN];omega) fun b hb=>?_
  simp only[List.mem_append,List.mem_singleton]at hb
  rcases hb with(hb | hb) | hb
  ·exact KK hn1 b hb
  ·rw[hb];decide
  ·exact rK f0 b hb _
 ·show CE (fD (r.Vals.drop 1) ([44]:KA))=true
  unfold fD
  have hs:∀x∈r.Vals.drop 1,HD x=true:=fun x hx=>hf x (List.mem_of_mem_drop hx)
  have h1:=qK (r.Vals.drop 1) fun x hx=>by have:=FJ (hs x hx);omega
  rw[List.length_drop]at h1
  refine FR oM fun b hb=>?_
  rcases qL _ b hb with hb | ⟨x,hx,hb⟩
  ·rw[hb];decide
  ·exact rK (hs x hx) b hb _
 ·unfold EA HC
  refine aO (by simp only[lN];omega) (by simp only[lN];omega) fun b hb=>?_
  simp only[List.mem_append,List.mem_singleton]at hb
  rcases hb with(((((hb | hb) | hb) | hb) | hb) | hb) | hb
  ·exact KK hn1 b hb
  ·rw[hb];decide
  ·exact KK hn2 b hb
  ·rw[hb];decide
  ·exact rK f1 b hb _
  ·rw[hb];decide
  ·exact rK f0 b hb _
theorem WU(l:List YC)(h:l.all wD=true)(hl:l.length≤8):pG l=true:=by
 unfold pG
 rw[dS AB wD (r:=false) fun k=>rfl,h,cond_true,decide_eq_true oM]
theorem GW{k v:KA}(hk:cE k=true)(hv:CE v=true):wD ⟨7,k,v,0⟩=true:=by
 unfold wD
 show(bif cE k then bif CE v then true else false else _)=true
 rw[hk,hv];rfl
theorem HS{k v:KA}(hk:cE k=true)(hv:CE v=true):wD ⟨2,k,v,0⟩=true:=by
 unfold wD
 show(bif cE k then bif CE v then true else false else _)=true
 rw[hk,hv];rfl
theorem qT{k:KA}(hk:cE k=true):wD ⟨3,k,[],0⟩=true:=by
 unfold wD
 dsimp only
 rw[hk];rfl
theorem vW:CE ([]:KA)=true:=rfl
def eR(y:PE):GN:=⟨y.Vals.getD 1 WA,y.Vals.getD 0 WA⟩
theorem rW{a b:KA}(h1:uI a b=false)(h2:uI b a=false):a=b:=by
 have h3:pM a b=true:=by rw[EN,h2];rfl
 unfold pM at h3
 rw[h1,Bool.false_or]at h3
 exact eq_of_beq h3
theorem LW(x y:KA):decide (cS x y<0)=uI x y:=by
 unfold cS
 cases uI x y
 ·cases pM x y<;>rfl
 ·rfl
theorem SV(x y:KA):decide (cS x y=0)=decide (x=y):=by
 by_cases h:x=y
 ·subst h
  rw[decide_eq_true rfl]
  unfold cS
  have h1:uI x x=false:=by cases h:uI x x;rfl;exact absurd h (SJ x)
  have h2:pM x x=true:=by unfold pM;rw[beq_self_eq_true,Bool.or_true]
  rw[h1,h2];rfl
 ·rw[decide_eq_false h]
  unfold cS
  cases h1:uI x y
  ·cases h2:pM x y
   ·rfl
   ·unfold pM at h2
    rw[h1,Bool.false_or]at h2
    exact absurd (eq_of_beq h2) h
  ·rfl
theorem qW(a:KA):uI a a=false:=by cases h:uI a a;rfl;exact absurd h (SJ a)
theorem OR{a b:KA}(h:uI a b=true):uI b a=false:=by
 cases h2:uI b a
 ·rfl
 ·exact absurd (fN h h2) (SJ _)
theorem eS{i j:Int}(h0:0≤i)(h1:i<j)(h2:j≤2147483648):IntKind.wrap .i64 (Int.fdiv (IntKind.wrap .u64 (IntKind.wrap .i64 (i+j))) 2)=(i+j) / 2:=by
 rw[show IntKind.wrap .i64 (i+j)=i+j from gH oM,show IntKind.wrap .u64 (i+j)=i+j by simp[IntKind.wrap,IntKind.bits,IntKind.signed];omega,Int.fdiv_eq_ediv_of_nonneg _ oM]
 exact gH oM
theorem KW(l:List lA)(k:KA)(f:lA→KA→Int)(hl:l.length≤2147483648):(0≤(vB l k f).1∧(vB l k f).1≤(l.length:Int))∧((vB l k f).2=true→(vB l k f).1<(l.length:Int)):=by
 unfold vB
 refine tK (body:=rB l k f) (fun(p:Int×Int)=>0≤p.1∧p.1≤p.2∧p.2≤(l.length:Int)) (fun p=>(p.2-p.1).toNat) (fun(v:Int×Bool)=>(0≤v.1∧v.1≤(l.length:Int))∧(v.2=true→v.1<(l.length:Int))) ?_ _ (0,(l.length:Int)) ⟨oM,(by show(0:Int)≤(l.length:Int);omega),Int.le_refl _⟩ (by show((l.length:Int)-0).toNat<_;omega)
 rintro⟨a,b⟩ ⟨h0,h1,h2⟩
 dsimp only at h0 h1 h2
 unfold rB
 dsimp only
 cases hd:decide (a<b)
 ·dsimp only[cond_false]
  show(0≤(bif decide (a<(l.length:Int))then _ else _:Int×Bool).1∧_)∧_
  cases hd2:decide (a<(l.length:Int))
  ·exact⟨⟨h0,by show a≤_;omega⟩,fun h=>by cases h⟩
  ·have:=of_decide_eq_true hd2
   exact⟨⟨h0,by show a≤_;omega⟩,fun _=>this⟩
 ·have hlt:=of_decide_eq_true hd
  have hm:=eS h0 hlt oM
  rw[hm]
  have hw:IntKind.wrap .i64 ((a+b) / 2+1)=(a+b) / 2+1:=gH oM
  dsimp only[cond_true]
  show CH.sat _ _ _ (bif _ then _ else _)
  cases decide (f (l.getD ((a+b) / 2).toNat pA) k<0)
  ·exact⟨⟨h0,by show a≤(a+b) / 2;omega,by show(a+b) / 2≤_;omega⟩,by show((a+b) / 2-a).toNat<(b-a).toNat;omega⟩
  ·rw[hw]
   exact⟨⟨by show 0≤(a+b) / 2+1;omega,by show(a+b) / 2+1≤b;omega,h2⟩,by show(b-((a+b) / 2+1)).toNat<(b-a).toNat;omega⟩
theorem cJ(l:List lA)(k:KA)(hl:l.length≤2147483648):(0≤(HB l k).1∧(HB l k).1≤(l.length:Int))∧((HB l k).2=true→(HB l k).1<(l.length:Int)):=KW l k _ hl
theorem mL{l:List lA}{k:KA}(h:(HB l k).2=true)(hl:l.length≤2147483648):(HB l k).1<(l.length:Int):=(cJ l k hl).2 h
theorem RT(l:List lA):(CC l).length=l.length:=rfl
theorem AS{l:List lA}(h:WH l=true):l.length≤24:=(VN (YN h)).1
theorem jU{l:List YC}(hl:l.length≤100)(h:∀y∈l,y.Kind≠4):∀x∈([l]:List (List YC)),x.length≤100∧∀y∈x,y.Kind≠4:=fun x hx=>by rw[List.mem_singleton.1 hx];exact⟨hl,h⟩
theorem DJ(l:List lA)(w:lA):(zD l w).length≤l.length+1:=by
 unfold zD
 cases (HB l w.Key).2
 ·show(l.take _++w::l.drop _).length≤_
  rw[List.length_append,List.length_cons,List.length_take,List.length_drop];omega
 ·show(l.set _ _).length≤_
  rw[List.length_set];omega
theorem pR{buf:List lA}{got:List yD}{k:KA}(h:(qD k buf got).2.2=false):(got.any fun g=>g.Key==k)=false:=by
 revert h
 unfold qD
 cases (HB buf k).2
 ·rw[cond_false]
  refine MD (fun j _=>((got.take j).any fun g=>g.Key==k)=false) (fun(v:KA×Bool×Bool)=>v.2.2=false→(got.any fun g=>g.Key==k)=false) rfl (fun s hs _=>?_) (fun j s _ hj hs=>?_)
  ·rw[List.take_of_length_le oM]at hs;exact hs
  ·have hj':j<got.length:=by omega
   unfold xF
   dsimp only
   cases h1:((got.getD j EF).Key==k)
   ·show((got.take (j+1)).any fun g=>g.Key==k)=false
    have hs:((got.take j).any fun g=>g.Key==k)=false:=hs
    rw[List.take_succ_eq_append_getElem hj',List.any_append,hs,←QE (d:=EF) hj',List.any_cons,h1];rfl
   ·exact fun h=>by cases h
 ·exact fun h=>by cases h
theorem US{l:List YC}{got:List yD}(h:(pC l got).1=1):∃o∈l,(pC l got).2.1=o.Key∧(got.any fun g=>g.Key==o.Key)=false:=by
 revert h
 unfold pC
 refine MD (fun _ _=>True) (fun(v:Int×KA×List lA)=>v.1=1→∃o∈l,v.2.1=o.Key∧(got.any fun g=>g.Key==o.Key)=false) trivial (fun _ _ h=>?_) (fun j s _ hj _=>?_)
 ·cases h
 ·have hm:l.getD j AB∈l:=IF (d:=AB) oM
  unfold xC
  dsimp only
  cases decide ((l.getD j AB).Kind=2)
  ·cases decide ((l.getD j AB).Kind=3)
   ·cases hk:(qD (l.getD j AB).Key s got).2.2
    ·exact fun _=>⟨_,hm,rfl,pR hk⟩
    ·cases iD (l.getD j AB) ((qD (l.getD j AB).Key s got).1) ((qD (l.getD j AB).Key s got).2.1)
     ·exact fun h=>by cases h
     ·trivial
   ·trivial
  ·trivial
theorem YT(rows:List lA)(k:KA):(kF rows k).Key=k:=by
 unfold kF
 cases (HB rows k).2<;>rfl
theorem hP{rows:List lA}{l:List YC}{got:List yD}(_:∀y∈l,y.Kind≠4)(h:(pC l got).1=1):(l.filter fun o=>!((got++([(kF rows ((pC l got).2.1))]:List yD)).any fun g=>g.Key==o.Key)).length<(l.filter fun o=>!(got.any fun g=>g.Key==o.Key)).length:=by
 obtain⟨o,ho,hk,hn⟩:=US h
 refine nL (fun x hx=>?_) ⟨o,ho,by rw[hn];rfl,?_⟩
 ·rw[List.any_append,Bool.not_or,Bool.and_eq_true]at hx;exact hx.1
 ·rw[List.any_append,hk]
  simp[YT]
theorem LS(r w:List lA):(qF r w).1.length≤24:=by
 unfold qF
 refine MD (fun _ _=>True) (fun(v:List lA×Bool)=>v.1.length≤24) trivial (fun s _=>?_) (fun j s _ _ _=>?_)
 ·cases hd:decide (24<((wC s fun y0=>MG y0).length:Int))
  ·have:=of_decide_eq_false hd
   show(wC s fun y0=>MG y0).length≤24
   omega
  ·exact Nat.zero_le _
 ·trivial
theorem QS(s:List lA)(o:List YC):(WF s o).1.length≤s.length∨(WF s o).1.length≤24:=by
 unfold WF
 cases (QD s o).2.2
 ·exact .inl (Nat.le_refl _)
 ·cases (qF s (QD s o).2.1).2
  ·exact .inl (Nat.le_refl _)
  ·exact .inr (LS _ _)
def Up(l:List lA):Prop:=l.Pairwise fun a b=>uI a.Key b.Key=true
structure NQ (l:List lA) (k:KA) (i:Nat):Prop where
 le:i≤l.length
 lo:∀j (h:j<l.length),j<i→uI l[j].Key k=true
 hi:∀j (h:j<l.length),i≤j→uI l[j].Key k=false
theorem NQ.uniq{l:List lA}{k:KA}{i i':Nat}(h:NQ l k i)(h':NQ l k i'):i=i':=by
 rcases Nat.lt_trichotomy i i' with h1 | h1 | h1
 ·have hl:i<l.length:=by have:=h'.le;omega
  have a:=h'.lo i hl h1
  rw[h.hi i hl (Nat.le_refl _)]at a;cases a
 ·exact h1
 ·have hl:i'<l.length:=by have:=h.le;omega
  have a:=h.lo i' hl h1
  rw[h'.hi i' hl (Nat.le_refl _)]at a;cases a
theorem Up.lt{l:List lA}(h:Up l){i j:Nat}(hi:i<l.length)(hj:j<l.length)(hij:i<j):uI l[i].Key l[j].Key=true:=List.pairwise_iff_getElem.1 h i j hi hj hij
theorem Up.down{l:List lA}(h:Up l){m:Nat}{k:KA}(hm:m<l.length)(hk:uI l[m].Key k=true):∀j (h:j<l.length),j≤m→uI l[j].Key k=true:=fun j hj hjm=>by
 rcases Nat.lt_or_ge j m with hlt | hge
 ·exact fN (h.lt hj hm hlt) hk
 ·obtain rfl:j=m:=by omega
  exact hk
theorem Up.up{l:List lA}(h:Up l){m:Nat}{k:KA}(hm:m<l.length)(hk:uI l[m].Key k=false):∀j (h:j<l.length),m≤j→uI l[j].Key k=false:=fun j hj hjm=>by
 cases hh:uI l[j].Key k
 ·rfl
 ·rw[h.down hj hh m hm hjm]at hk;cases hk
def IQ(l:List lA)(k:KA)(i:Nat):Bool:=decide (i<l.length)&&((l.getD i pA).Key==k)
theorem JK{l:List lA}{k:KA}{i:Nat}:IQ l k i=true↔∃h:i<l.length,l[i].Key=k:=by
 unfold IQ
 rw[Bool.and_eq_true,decide_eq_true_eq]
 constructor
 ·rintro⟨h,e⟩;refine⟨h,?_⟩;rw[QE h]at e;exact eq_of_beq e
 ·rintro⟨h,e⟩;refine⟨h,?_⟩;rw[QE h,e];exact beq_self_eq_true _
theorem NQ.fnd_at{l:List lA}(hu:Up l){k:KA}{j:Nat}(hj:j<l.length)(e:l[j].Key=k):NQ l k j where
 le:=by omega
 lo i hi hij:=e▸hu.lt hi hj hij
 hi i hi hij:=hu.up hj (by rw[e];exact qW k) i hi hij
theorem MW(x y:KA):qC x y=cS x y:=by
 unfold qC YD cS
 rw[beq_self_eq_true,beq_self_eq_true];rfl
theorem CL{l:List lA}(hu:Up l)(hl:l.length≤2147483648)(k:KA):∃i,NQ l k i∧HB l k=((i:Int),IQ l k i):=by
 have hf:(fun y0 y1=>cH y0 y1)=fun(y0:lA) (y1:KA)=>cS y0.Key y1:=by funext y0 y1;exact MW _ _
 unfold HB
 rw[hf]
 suffices h:∃i,NQ l k i∧vB l k (fun y0 y1=>cS y0.Key y1)=((i:Int),IQ l k i)by
  obtain⟨i,h1,h2⟩:=h;exact⟨i,h1,by rw[h2]⟩
 unfold vB
 refine tK (body:=rB l k fun y0 y1=>cS y0.Key y1) (fun(p:Int×Int)=>(0≤p.1∧p.1≤p.2∧p.2≤(l.length:Int))∧(∀j (h:j<l.length),(j:Int)<p.1→uI l[j].Key k=true)∧∀j (h:j<l.length),p.2≤(j:Int)→uI l[j].Key k=false) (fun p=>(p.2-p.1).toNat) (fun(v:Int×Bool)=>∃i,NQ l k i∧v=((i:Int),IQ l k i)) ?_ _ (0,(l.length:Int)) ⟨⟨by omega,(by show(0:Int)≤(l.length:Int);omega),Int.le_refl _⟩,fun j _ h=>by dsimp only at h;omega,fun j h h2=>by dsimp only at h2;omega⟩ (by show((l.length:Int)-0).toNat<_;omega)
 rintro⟨a,b⟩ ⟨⟨h0,h1,h2⟩,h3,h4⟩
 dsimp only at h0 h1 h2 h3 h4
 unfold rB
 dsimp only
 cases hd:decide (a<b)
 ·have hge:=of_decide_eq_false hd
  have hp:NQ l k a.toNat:=⟨by omega,fun j h hj=>h3 j h oM,fun j h hj=>h4 j h oM⟩
  dsimp only[cond_false]
  show ∃i,NQ l k i∧(bif decide (a<(l.length:Int))then(a,decide (cS (l.getD a.toNat pA).Key k=0))else(a,false))=((i:Int),IQ l k i)
  refine⟨a.toNat,hp,?_⟩
  rw[show((a.toNat:Nat):Int)=a by omega]
  unfold IQ
  by_cases hl2:a<(l.length:Int)
  ·rw[decide_eq_true hl2,decide_eq_true (show a.toNat<l.length by omega),SV]
   show(a,_)=(a,_)
   congr 1
   rw[Bool.eq_iff_iff,decide_eq_true_eq,Bool.true_and]
   exact⟨fun e=>by rw[e];exact beq_self_eq_true _,eq_of_beq⟩
  ·rw[decide_eq_false hl2,decide_eq_false (show ¬a.toNat<l.length by omega)];rfl
 ·have hlt:=of_decide_eq_true hd
  have hm:=eS h0 hlt oM
  rw[hm,LW]
  have hw:IntKind.wrap .i64 ((a+b) / 2+1)=(a+b) / 2+1:=gH oM
  have hml:((a+b) / 2).toNat<l.length:=by omega
  rw[QE hml]
  dsimp only[cond_true]
  show CH.sat _ _ _ (bif _ then _ else _)
  cases hs:uI l[((a+b) / 2).toNat].Key k
  ·exact⟨⟨⟨h0,by show a≤(a+b) / 2;omega,by show(a+b) / 2≤_;omega⟩,h3,fun j h hj=>hu.up hml hs j h (by dsimp only at hj;omega)⟩,by show((a+b) / 2-a).toNat<(b-a).toNat;omega⟩
  ·rw[hw]
   exact⟨⟨⟨by show 0≤(a+b) / 2+1;omega,by show(a+b) / 2+1≤b;omega,h2⟩,fun j h hj=>hu.down hml hs j h (by dsimp only at hj;omega),h4⟩,by show(b-((a+b) / 2+1)).toNat<(b-a).toNat;omega⟩
theorem sV{l:List lA}(hu:Up l)(hl:l.length≤2147483648)(k:KA):∃i,NQ l k i:=by
 obtain⟨i,h,_⟩:=CL hu hl k;exact⟨i,h⟩
def BN(l:List lA)(w:lA)(i:Nat):List lA:=bif IQ l w.Key i then l.set i w else l.take i++w::l.drop i
theorem OS{l:List lA}(hu:Up l)(hl:l.length≤2147483648)(w:lA){i:Nat}(hp:NQ l w.Key i):zD l w=BN l w i:=by
 obtain⟨i',h,e⟩:=CL hu hl w.Key
 obtain rfl:=hp.uniq h
 unfold zD BN
 rw[e];rfl
theorem NS{l:List lA}(hu:Up l)(hl:l.length≤1000000)(w:lA){i:Nat}(hp:NQ l w.Key i):GC l w=BN l w i:=by
 unfold GC
 refine tK (body:=OE l w) (fun(x:Int)=>(0≤x∧x≤(l.length:Int))∧∀j (h:j<l.length),x≤(j:Int)→uI w.Key l[j].Key=true) (fun x=>x.toNat) (fun(v:List lA)=>v=BN l w i) ?_ _ _ ⟨⟨by omega,Int.le_refl _⟩,fun j h h2=>by omega⟩ oM
 rintro x ⟨⟨h0,h1⟩,h2⟩
 unfold OE
 dsimp only
 have hi:=hp.le
 have key:(0<x→∀h:x.toNat-1<l.length,pM l[x.toNat-1].Key w.Key=true)→((bif decide (0<x)then(bif(l.getD (IntKind.wrap .i64 (x-1)).toNat pA).Key==w.Key then((([]:List lA)++l).set (IntKind.wrap .i64 (x-1)).toNat w)else(((([]:List lA)++(l.take x.toNat))++([w]:List lA))++(([]:List lA)++(l.drop x.toNat))))else(((([]:List lA)++(l.take x.toNat))++([w]:List lA))++(([]:List lA)++(l.drop x.toNat)))):List lA)=BN l w i:=fun hx=>by
  have hins:∀q:Nat,(((([]:List lA)++(l.take q))++([w]:List lA))++(([]:List lA)++(l.drop q)))=l.take q++w::l.drop q:=fun q=>by simp
  rw[hins]
  by_cases hx0:0<x
  ·rw[decide_eq_true hx0,cond_true,gH oM,show(x-1).toNat=x.toNat-1 by omega]
   have hxl:x.toNat-1<l.length:=by omega
   have hle:=hx hx0 hxl
   rw[QE hxl]
   unfold pM at hle
   cases he:(l[x.toNat-1].Key==w.Key)
   ·rw[he,Bool.or_false]at hle
    have e:i=x.toNat:=hp.uniq ⟨by omega,fun j h hj=>hu.down hxl hle j h oM,fun j h hj=>OR (h2 j h oM)⟩
    have hnf:IQ l w.Key i=false:=by
     rw[←Bool.not_eq_true,JK]
     rintro⟨h,h3⟩
     have:=h2 i h oM
     rw[h3]at this;exact SJ _ this
    unfold BN
    rw[hnf,e];rfl
   ·have e:i=x.toNat-1:=hp.uniq (NQ.fnd_at hu hxl (eq_of_beq he))
    have hf:IQ l w.Key i=true:=JK.2 ⟨by omega,by subst e;exact eq_of_beq he⟩
    unfold BN
    rw[hf,e];rfl
  ·rw[decide_eq_false hx0,cond_false]
   have e:i=x.toNat:=hp.uniq ⟨by omega,fun j h hj=>by omega,fun j h hj=>OR (h2 j h oM)⟩
   have hnf:IQ l w.Key i=false:=by
    rw[←Bool.not_eq_true,JK]
    rintro⟨h,h3⟩
    have:=h2 i h oM
    rw[h3]at this;exact SJ _ this
   unfold BN
   rw[hnf,e];rfl
 cases hd:decide (0<x)
 ·exact key fun h=>absurd h (of_decide_eq_false hd)
 ·have hx0:=of_decide_eq_true hd
  have hxl:x.toNat-1<l.length:=by omega
  rw[cond_true,gH oM,show(x-1).toNat=x.toNat-1 by omega,QE hxl]
  cases hs:pM l[x.toNat-1].Key w.Key
  ·rw[cond_false]
   rw[EN]at hs
   have hs:uI w.Key l[x.toNat-1].Key=true:=by simpa using hs
   refine⟨⟨⟨by omega,by omega⟩,fun j h hj=>?_⟩,by omega⟩
   rcases Nat.lt_or_ge j x.toNat with hlt | hge
   ·obtain rfl:j=x.toNat-1:=by omega
    exact hs
   ·exact h2 j h oM
  ·rw[cond_true]
   exact key fun _ _=>hs
theorem vQ{l:List lA}(hu:Up l)(hl:l.length≤1000000)(w:lA):zD l w=GC l w:=by
 obtain⟨i,hp⟩:=sV hu oM w.Key
 rw[OS hu oM w hp,NS hu hl w hp]
theorem uV{l:List lA}{w y:lA}{i:Nat}(h:y∈BN l w i):y∈l∨y=w:=by
 unfold BN at h
 cases hf:IQ l w.Key i
 ·rw[hf,cond_false]at h
  rcases List.mem_append.1 h with h | h
  ·exact .inl (List.mem_of_mem_take h)
  ·rcases List.mem_cons.1 h with h | h
   ·exact .inr h
   ·exact .inl (List.mem_of_mem_drop h)
 ·rw[hf,cond_true]at h
  exact List.mem_or_eq_of_mem_set h
theorem mW{l:List lA}(hu:Up l){w:lA}{i:Nat}(hp:NQ l w.Key i):Up (BN l w i):=by
 unfold BN
 cases hf:IQ l w.Key i
 ·rw[cond_false]
  have hne:∀h:i<l.length,l[i].Key≠w.Key:=fun h e=>by rw[JK.2 ⟨h,e⟩]at hf;cases hf
  unfold Up
  have h0:=hu
  unfold Up at h0
  rw[←List.take_append_drop i l,List.pairwise_append]at h0
  obtain⟨h1,h2,h3⟩:=h0
  rw[List.pairwise_append,List.pairwise_cons]
  have hd:∀y∈l.drop i,uI w.Key y.Key=true:=fun y hy=>by
   obtain⟨j,hj,rfl⟩:=List.mem_iff_getElem.1 hy
   rw[List.length_drop]at hj
   rw[List.getElem_drop]
   have hil:i+j<l.length:=by omega
   cases hs:uI w.Key l[i+j].Key
   ·have e:=rW hs (hp.hi (i+j) hil oM)
    rcases Nat.eq_zero_or_pos j with h0 | h0
    ·subst h0;exact absurd e.symm (hne oM)
    ·have h4:=hu.lt (show i<l.length by omega) hil oM
     rw[←e,hp.hi i oM (Nat.le_refl _)]at h4;cases h4
   ·rfl
  have ht:∀x∈l.take i,uI x.Key w.Key=true:=fun x hx=>by
   obtain⟨j,hj,rfl⟩:=List.mem_iff_getElem.1 hx
   rw[List.length_take]at hj
   rw[List.getElem_take]
   exact hp.lo j oM oM
  refine⟨h1,⟨hd,h2⟩,fun a ha b hb=>?_⟩
  rcases List.mem_cons.1 hb with rfl | hb
  ·exact ht a ha
  ·exact h3 a ha b hb
 ·rw[cond_true]
  obtain⟨h,e⟩:=JK.1 hf
  unfold Up
  have hm:(l.set i w).map (·.Key)=l.map (·.Key):=by
   rw[List.map_set]
   apply List.ext_getElem (by simp)
   intro j h1 h2
   rw[List.getElem_set]
   split
   ·rename_i hij;subst hij;rw[List.getElem_map];exact e.symm
   ·rfl
  have h1:((l.set i w).map (·.Key)).Pairwise fun a b=>uI a b=true:=by rw[hm];exact List.pairwise_map.2 hu
  exact List.pairwise_map.1 h1
theorem uQ{l:List lA}(hu:Up l)(hl:l.length≤1000000)(w:lA):Up (GC l w)∧(∀y∈GC l w,y∈l∨y=w)∧(GC l w).length≤l.length+1:=by
 obtain⟨i,hp⟩:=sV hu oM w.Key
 refine⟨by rw[NS hu hl w hp];exact mW hu hp,fun y hy=>by rw[NS hu hl w hp]at hy;exact uV hy,?_⟩
 rw[←vQ hu hl w];exact DJ l w
theorem LP{l:List lA}(hu:Up l)(k:KA){ρ:Type}{body:Nat→Unit→CH ρ Unit}(f:lA→ρ)(e:ρ){i:Nat}(hp:NQ l k i)(hb:∀j,body j ()=bif(l.getD j pA).Key==k then .ret (f (l.getD j pA))else .cont ()) :
  SC (GA body (l.length-0) 0 ()) (fun r=>r) (fun _=>e)=bif IQ l k i then f (l.getD i pA)else e:=by
 refine MD (fun j _=>∀q (h:q<l.length),q<j→l[q].Key≠k) (fun v=>v=bif IQ l k i then f (l.getD i pA)else e) (fun q _ h=>absurd h (Nat.not_lt_zero _)) (fun s hs=>?_) (fun j s _ hj hs=>?_)
 ·have:IQ l k i=false:=by
   rw[←Bool.not_eq_true,JK]
   rintro⟨h,h3⟩
   exact hs i h oM h3
  rw[this];rfl
 ·have hj':j<l.length:=by omega
  cases s
  rw[hb]
  cases hk:((l.getD j pA).Key==k)
  ·intro q h hq hqk
   rcases Nat.lt_or_ge q j with hlt | hge
   ·exact hs q h hlt hqk
   ·obtain rfl:q=j:=by omega
    rw[QE hj',hqk,beq_self_eq_true]at hk;cases hk
  ·rw[QE hj']at hk
   have e1:=hp.uniq (NQ.fnd_at hu hj' (eq_of_beq hk))
   subst e1
   show f (l.getD i pA)=_
   rw[JK.2 ⟨hj',eq_of_beq hk⟩];rfl
theorem uS{buf:List lA}(hu:Up buf)(hl:buf.length≤1000000)(got:List yD)(k:KA):qD k buf got=nB buf got k:=by
 obtain⟨i,hp,e⟩:=CL hu oM k
 unfold qD nB
 rw[e,LP hu k (body:=GE buf got k) (fun w=>(w.Val,!w.Gone,true)) _ hp fun j=>rfl]
 cases hf:IQ buf k i
 ·rfl
 ·rfl
theorem XU{rows:List lA}(hu:Up rows)(hl:rows.length≤1000000)(k:KA):kF rows k=vE rows k:=by
 obtain⟨i,hp,e⟩:=CL hu oM k
 unfold kF vE
 rw[e,LP hu k (body:=BF rows k) (fun w=>(⟨k,w.Val,true⟩:yD)) _ hp fun j=>rfl]
 cases hf:IQ rows k i<;>rfl
def RJ(l:List YC):Prop:=∀y∈l,y.Kind=2∨y.Kind=3∨y.Kind=6∨y.Kind=7
theorem uP{o:YC}(h:o.Kind=2∨o.Kind=3)(v:KA)(th:Bool):UC o v th=false:=by
 unfold UC
 rw[decide_eq_false (show ¬o.Kind=4 by omega),decide_eq_false (show ¬o.Kind=5 by omega),decide_eq_false (show ¬o.Kind=6 by omega),decide_eq_false (show ¬o.Kind=7 by omega)];rfl
theorem aV{o:YC}(h:o.Kind=6∨o.Kind=7)(v:KA)(th:Bool):iD o v th=!UC o v th:=by
 unfold iD UC
 rw[decide_eq_false (show ¬o.Kind=4 by omega),decide_eq_false (show ¬o.Kind=5 by omega)]
 rcases h with h | h
 ·rw[decide_eq_true h];rfl
 ·rw[decide_eq_false (show ¬o.Kind=6 by omega),decide_eq_true h]
  cases th
  ·rfl
  ·cases v==o.Val<;>rfl
theorem EM{ρ σ:Type}{b b':Nat→σ→CH ρ σ}(I:Nat→σ→Prop):∀(n k:Nat) (s:σ),I k s→(∀j s,k≤j→j<k+n→I j s→b j s=b' j s∧∀s',b j s=.cont s'→I (j+1) s')→GA b n k s=GA b' n k s
 | 0,_,_,_,_=>rfl
 | n+1,k,s,h0,h=>by
  obtain⟨h1,h2⟩:=h k s (Nat.le_refl _) oM h0
  simp only[GA]
  rw[←h1]
  cases hb:b k s with
  | ret r=>rfl
  | brk s=>rfl
  | cont s'=>exact EM I n (k+1) s' (h2 s' hb) fun j s h3 h4=>h j s oM oM
theorem MP{l:List YC}(hk:RJ l)(hl:l.length≤1000)(got:List yD){j:Nat}(hj:j<l.length){x:List lA}(hu:Up x)(hx:x.length≤j) :
  xC l got j x=WB l got j x∧∀s',xC l got j x=.cont s'→(Up s'∧s'.length≤j+1)∧∀y∈s',y∈x∨(y.Key=(l.getD j AB).Key∧((y.Val=(l.getD j AB).Val∧y.Gone=false∧(l.getD j AB).Kind=2)∨(y.Val=[]∧y.Gone=true∧(l.getD j AB).Kind=3))):=by
 have hko:=hk _ (IF (d:=AB) hj)
 unfold xC WB
 dsimp only
 generalize l.getD j AB=o at *
 have hc:=uS hu oM got o.Key
 rw[hc]
 rcases hko with h2 | h3 | h67
 ·have hg:=uP (.inl h2) (nB x got o.Key).1 (nB x got o.Key).2.1
  have hp:=uQ hu oM (⟨o.Key,o.Val,false⟩:lA)
  rw[decide_eq_true h2,hg,cond_true,vQ hu oM]
  refine⟨by cases (nB x got o.Key).2.2<;>rfl,fun s' hs=>?_⟩
  cases hs
  refine⟨⟨hp.1,by omega⟩,fun y hy=>?_⟩
  rcases hp.2.1 y hy with h | rfl
  ·exact .inl h
  ·exact .inr ⟨rfl,.inl ⟨rfl,rfl,h2⟩⟩
 ·have hg:=uP (.inr h3) (nB x got o.Key).1 (nB x got o.Key).2.1
  have hp:=uQ hu oM (⟨o.Key,[],true⟩:lA)
  rw[decide_eq_false (show ¬o.Kind=2 by omega),decide_eq_true h3,hg,cond_true,cond_false,vQ hu oM]
  refine⟨by cases (nB x got o.Key).2.2<;>rfl,fun s' hs=>?_⟩
  cases hs
  refine⟨⟨hp.1,by omega⟩,fun y hy=>?_⟩
  rcases hp.2.1 y hy with h | rfl
  ·exact .inl h
  ·exact .inr ⟨rfl,.inr ⟨rfl,rfl,h3⟩⟩
 ·rw[decide_eq_false (show ¬o.Kind=2 by omega),decide_eq_false (show ¬o.Kind=3 by omega),decide_eq_false (show ¬o.Kind=4 by omega),aV h67]
  cases (nB x got o.Key).2.2
  ·exact⟨rfl,fun s' hs=>by cases hs⟩
  ·cases UC o (nB x got o.Key).1 (nB x got o.Key).2.1
   ·exact⟨rfl,fun s' hs=>by cases hs;exact⟨⟨hu,by omega⟩,fun y hy=>.inl hy⟩⟩
   ·exact⟨rfl,fun s' hs=>by cases hs⟩
theorem wT{l:List YC}(hk:RJ l)(hl:l.length≤1000)(got:List yD):pC l got=AC l got:=by
 unfold pC AC
 have h:=EM (b:=xC l got) (b':=WB l got) (fun j (x:List lA)=>Up x∧x.length≤j) (l.length-0) 0 [] ⟨List.Pairwise.nil,Nat.le_refl _⟩ fun j s _ hj hI=>by
  obtain⟨h1,h2⟩:=MP hk hl got (j:=j) oM hI.1 hI.2
  exact⟨h1,fun s' hs=>(h2 s' hs).1⟩
 rw[h]
def PV(l:List YC)(x:List lA):Prop:=Up x∧x.length≤l.length∧∀y∈x,∃o∈l,y.Key=o.Key∧((y.Val=o.Val∧y.Gone=false∧o.Kind=2)∨(y.Val=[]∧y.Gone=true∧o.Kind=3))
theorem PV.nil(l:List YC):PV l []:=⟨List.Pairwise.nil,Nat.zero_le _,fun _ h=>by cases h⟩
theorem vV{l:List YC}(hk:RJ l)(hl:l.length≤1000)(got:List yD):PV l (AC l got).2.2:=by
 rw[←wT hk hl got]
 unfold pC
 refine MD (fun j (x:List lA)=>Up x∧x.length≤j∧∀y∈x,∃o∈l,y.Key=o.Key∧((y.Val=o.Val∧y.Gone=false∧o.Kind=2)∨(y.Val=[]∧y.Gone=true∧o.Kind=3))) (fun(v:Int×KA×List lA)=>PV l v.2.2) ⟨List.Pairwise.nil,Nat.le_refl _,fun _ h=>by cases h⟩ (fun s hs=>⟨hs.1,by have:=hs.2.1;show s.length≤_;omega,hs.2.2⟩) (fun j s _ hj hI=>?_)
 have hj':j<l.length:=by omega
 obtain⟨_,h2⟩:=MP hk hl got hj' hI.1 hI.2.1
 have hr:∀r,xC l got j s=.ret r→r.2.2=[]:=fun r hr=>by
  unfold xC at hr
  dsimp only at hr
  revert hr
  cases decide ((l.getD j AB).Kind=2)
  ·cases decide ((l.getD j AB).Kind=3)
   ·cases (qD (l.getD j AB).Key s got).2.2
    ·intro h;cases h;rfl
    ·cases iD (l.getD j AB) ((qD (l.getD j AB).Key s got).1) ((qD (l.getD j AB).Key s got).2.1)
     ·intro h;cases h;rfl
     ·intro h;cases h
   ·intro h;cases h
  ·intro h;cases h
 have hbk:∀r,xC l got j s≠.brk r:=fun r hr=>by
  unfold xC at hr
  dsimp only at hr
  revert hr
  cases decide ((l.getD j AB).Kind=2)
  ·cases decide ((l.getD j AB).Kind=3)
   ·cases (qD (l.getD j AB).Key s got).2.2
    ·intro h;cases h
    ·cases iD (l.getD j AB) ((qD (l.getD j AB).Key s got).1) ((qD (l.getD j AB).Key s got).2.1)
     ·intro h;cases h
     ·intro h;cases h
   ·intro h;cases h
  ·intro h;cases h
 cases hb:xC l got j s with
 | ret r=>show PV l r.2.2;rw[hr r hb];exact PV.nil l
 | brk s'=>exact absurd hb (hbk s')
 | cont s'=>
  obtain⟨⟨a,b⟩,c⟩:=h2 s' hb
  refine⟨a,b,fun y hy=>?_⟩
  rcases c y hy with h | h
  ·exact hI.2.2 y h
  ·exact⟨_,IF (d:=AB) hj',h⟩
theorem NU{rows:List lA}(hu:Up rows)(hr:rows.length≤1000000){l:List YC}(hk:RJ l)(hl:l.length≤1000):QD rows l=SB rows l:=by
 have hb:dF rows l=NE rows l:=by
  funext x
  unfold dF NE
  dsimp only
  rw[wT hk hl x,XU hu hr]
 unfold QD SB
 rw[hb]
theorem ET(rows:List lA){l:List YC}(hk:RJ l)(hl:l.length≤1000):PV l (SB rows l).2.1:=by
 unfold SB
 refine tK (body:=NE rows l) (fun _=>True) (fun(x:List yD)=>(l.filter fun o=>!(x.any fun g=>g.Key==o.Key)).length) (fun(v:List yD×List lA×Bool)=>PV l v.2.1) ?_ _ _ trivial (Nat.lt_succ_self _)
 intro x _
 unfold NE
 dsimp only
 cases hd:decide ((AC l x).1=1)
 ·exact vV hk hl x
 ·exact⟨trivial,LN (rows:=rows) (of_decide_eq_true hd)⟩
theorem iQ:∀(w rows:List lA),Up rows→rows.length+w.length≤1000000→Up (w.foldl GC rows)∧(∀y∈w.foldl GC rows,y∈rows∨y∈w)∧w.foldl zD rows=w.foldl GC rows
 | [],rows,h,_=>⟨h,fun y hy=>.inl hy,rfl⟩
 | x::w,rows,h,hl=>by
  rw[List.length_cons]at hl
  obtain⟨a,b,c⟩:=uQ h oM x
  obtain⟨a2,b2,c2⟩:=iQ w (GC rows x) a oM
  refine⟨a2,fun y hy=>?_,?_⟩
  ·rcases b2 y hy with h | h
   ·rcases b y h with h | h
    ·exact .inl h
    ·exact .inr (by rw[h];exact List.mem_cons_self ..)
   ·exact .inr (List.mem_cons_of_mem _ h)
  ·rw[List.foldl_cons,List.foldl_cons,vQ h oM,c2]
theorem tP{T:Type}(f:List lA→lA→List lA){body:Nat→List lA→CH T (List lA)}(w rows:List lA)(hb:∀j x,body j x=.cont (f x (w.getD j pA))){U:Type}(fr:T→U)(fd:List lA→U):SC (GA body (w.length-0) 0 rows) fr fd=fd (w.foldl f rows):=by
 refine MD (fun k (p:List lA)=>p=(w.take k).foldl f rows) (fun v=>v=fd (w.foldl f rows)) rfl (fun s hs=>by rw[hs,List.take_of_length_le oM]) (fun j s _ hj hs=>?_)
 have hj':j<w.length:=by omega
 rw[hb]
 show f s (w.getD j pA)=_
 rw[List.take_succ_eq_append_getElem hj',List.foldl_append,←hs,←QE (d:=pA) hj'];rfl
theorem rL(rows w:List lA):KB rows w=(w.foldl GC rows).filter fun y=>!y.Gone:=by
 unfold KB
 rw[tP GC (body:=yG rows w) w _ fun j x=>rfl]
 rw[List.nil_append]
 generalize w.foldl GC rows=l
 refine MD (fun k (p:List lA)=>p=(l.take k).filter fun y=>!y.Gone) (fun(v:List lA)=>v=l.filter fun y=>!y.Gone) rfl (fun s h=>by rw[h,List.take_of_length_le oM]) ?_
 intro j s _ hj hs
 have hj':j<l.length:=by omega
 unfold jF
 dsimp only
 rw[List.take_succ_eq_append_getElem hj',List.filter_append,←hs,←QE (d:=pA) hj',List.filter_cons]
 cases (l.getD j pA).Gone<;>simp
theorem MS{rows w:List lA}(hu:Up rows)(hl:rows.length+w.length≤1000000):qF rows w=bif decide (24<((KB rows w).length:Int))then([],false)else(KB rows w,true):=by
 unfold qF
 rw[tP zD (body:=uH rows w) w _ fun j x=>rfl]
 have hc:CC rows=rows:=rfl
 rw[hc,(iQ w rows hu hl).2.2,rL];rfl
theorem nW{l:List lA}(h:EC l=true):Up l:=by
 have h1:=YN (sK l▸h)
 rw[pJ,Bool.and_eq_true,List.all_eq_true]at h1
 have h24:l.length≤24:=by have:=of_decide_eq_true h1.2;omega
 have step:∀i (hi:i+1<l.length),uI l[i].Key l[i+1].Key=true:=fun i hi=>by
  have h3:=h1.1 (i+1) (List.mem_range.2 hi)
  rw[Bool.and_eq_true]at h3
  have h4:=h3.2
  unfold VI at h4
  rw[decide_eq_true oM,cond_true,gH oM,show(((i+1:Nat):Int)-1).toNat=i by omega,QE (by rw[List.length_map];omega),QE (by rw[List.length_map];exact hi),List.getElem_map,List.getElem_map]at h4
  exact h4
 have all:∀d i (hj:i+d+1<l.length),uI l[i].Key l[i+d+1].Key=true:=by
  intro d
  induction d with
  | zero=>exact fun i hj=>step i hj
  | succ d ih=>exact fun i hj=>fN (ih i oM) (step (i+d+1) oM)
 refine List.pairwise_iff_getElem.2 fun i j hi hj hij=>?_
 obtain⟨d,rfl⟩:∃d,j=i+d+1:=⟨j-i-1,by omega⟩
 exact all d i hj
theorem wL(l:List lA):EC l=true↔(∀y∈l,lD y.Key y.Val y.Gone=true)∧(∀y∈l,y.Gone=false)∧Up l∧l.length≤24:=by
 constructor
 ·intro h
  have hu:=nW h
  rw[sK,FL,Bool.and_eq_true,pJ,Bool.and_eq_true,List.all_eq_true,List.all_eq_true]at h
  refine⟨fun y hy=>?_,fun y hy=>by simpa using h.2 y hy,hu,by have:=of_decide_eq_true h.1.2;omega⟩
  obtain⟨j,hj,rfl⟩:=List.mem_iff_getElem.1 hy
  have h1:=h.1.1 j (List.mem_range.2 hj)
  rw[Bool.and_eq_true,QE hj]at h1
  exact h1.1
 ·rintro⟨h1,h2,hu,h4⟩
  rw[sK,FL,Bool.and_eq_true,pJ,Bool.and_eq_true,List.all_eq_true,List.all_eq_true]
  refine⟨⟨fun j hj=>?_,decide_eq_true oM⟩,fun y hy=>by rw[h2 y hy];rfl⟩
  have hj:=List.mem_range.1 hj
  rw[Bool.and_eq_true,QE hj]
  refine⟨h1 _ (List.getElem_mem hj),?_⟩
  unfold VI
  by_cases h0:0<j
  ·rw[decide_eq_true oM,cond_true,gH oM,QE (by rw[List.length_map];omega),QE (by rw[List.length_map];exact hj),List.getElem_map,List.getElem_map]
   exact hu.lt _ _ oM
  ·rw[decide_eq_false oM];rfl
theorem fM{l:List YC}(h:pG l=true):(∀o∈l,wD o=true)∧l.length≤8:=by
 unfold pG at h
 rw[dS AB wD (r:=false) fun k=>by unfold jG;rfl]at h
 obtain⟨h1,h2⟩:=TC h
 exact⟨List.all_eq_true.1 h1,by have:=of_decide_eq_true h2;omega⟩
theorem zU{l:List YC}(hg:∀o∈l,wD o=true){x:List lA}(h:PV l x):∀y∈x,lD y.Key y.Val y.Gone=true:=fun y hy=>by
 obtain⟨o,ho,hk,h2⟩:=h.2.2 y hy
 have hg:=hg o ho
 unfold wD at hg
 obtain⟨g1,g2⟩:=TC hg
 unfold lD
 rw[hk,g1]
 rcases h2 with⟨hv,hn,h2⟩ | ⟨hv,hn,_⟩
 ·rw[decide_eq_true h2,cond_true]at g2
  rw[hv,hn,(TC g2).1];rfl
 ·rw[hv,hn];rfl
theorem tQ{rows w:List lA}(hr:EC rows=true)(hw:∀y∈w,lD y.Key y.Val y.Gone=true)(hl:w.length≤1000):EC (KB rows w)=decide ((KB rows w).length≤24):=by
 obtain⟨h1,h2,h3,h4⟩:=(wL rows).1 hr
 obtain⟨a,b,_⟩:=iQ w rows h3 oM
 by_cases hlen:(KB rows w).length≤24
 ·rw[decide_eq_true hlen,wL]
  rw[rL]at hlen ⊢
  refine⟨fun y hy=>?_,fun y hy=>?_,List.Pairwise.filter _ a,hlen⟩
  ·rcases b y (List.mem_filter.1 hy).1 with h | h
   ·exact h1 y h
   ·exact hw y h
  ·simpa using(List.mem_filter.1 hy).2
 ·rw[decide_eq_false hlen,←Bool.not_eq_true,wL]
  exact fun h=>hlen h.2.2.2
theorem KP{rows:List lA}{l:List YC}(hr:EC rows=true)(hg:pG l=true)(hk:RJ l):WF rows l=sH rows l∧EC (sH rows l).1=true:=by
 obtain⟨h1,h2,h3,h4⟩:=(wL rows).1 hr
 obtain⟨g1,g2⟩:=fM hg
 have hw:=ET rows hk oM
 have hx:=zU g1 hw
 have hgood:=tQ hr hx (by have:=hw.2.1;omega)
 have hput:=MS (w:=(SB rows l).2.1) h3 (by have:=hw.2.1;omega)
 have hrun:=pW hr hg (show SB rows l=((SB rows l).1,(SB rows l).2.1,(SB rows l).2.2)from rfl)
 unfold WF sH
 rw[NU h3 oM hk oM,hput,hrun,hgood]
 by_cases hlen:(KB rows (SB rows l).2.1).length≤24
 ·rw[decide_eq_false (show ¬(24:Int)<_ by omega)]
  rw[decide_eq_true hlen]at hgood ⊢
  cases (SB rows l).2.2
  ·exact⟨rfl,hr⟩
  ·exact⟨rfl,hgood⟩
 ·rw[decide_eq_true (show(24:Int)<_ by omega),decide_eq_false hlen]
  cases (SB rows l).2.2<;>exact⟨rfl,hr⟩
theorem UR{t:YA}(h:RB t=true):tB t.Name 1=true:=by
 rw[TJ]at h
 simp only[Bool.and_eq_true,List.all_eq_true,List.mem_range]at h
 exact h.1.1.1
theorem xQ{t:YA}{r:PE}(h:sG t r=true):cE (FA t r).Key=true∧CE (FA t r).Val=true:=by
 obtain⟨hg,hr,hf,hl,hc⟩:=nJ h
 have hn1:=UR hg
 have ln1:=qJ hn1
 have f0:=xS h (k:=0) oM
 have l0:=FJ f0
 have hc4:=(WI.of hg).cols
 refine⟨?_,?_⟩
 ·rw[tT]
  refine aO (by simp only[lN];omega) (by simp only[lN];omega) fun b hb=>?_
  simp only[List.mem_append,List.mem_singleton]at hb
  rcases hb with(hb | hb) | hb
  ·exact KK hn1 b hb
  ·rw[hb];decide
  ·exact rK f0 b hb _
 ·show CE (fD (r.Vals.drop 1) ([44]:KA))=true
  unfold fD
  have hs:∀x∈r.Vals.drop 1,HD x=true:=fun x hx=>hf x (List.mem_of_mem_drop hx)
  have h1:=qK (r.Vals.drop 1) fun x hx=>by have:=FJ (hs x hx);omega
  rw[List.length_drop]at h1
  refine FR oM fun b hb=>?_
  rcases qL _ b hb with hb | ⟨x,hx,hb⟩
  ·rw[hb];decide
  ·exact rK (hs x hx) b hb _
theorem lW{k:KA}(hk:cE k=true):wD ⟨6,k,[],0⟩=true:=by
 unfold wD
 rw[hk];rfl
structure OL (t:YA) (a:DB):Prop where
 tbl:RB t=true
 act:PB t a=true
 kind:a.Kind=1∨a.Kind=2∨a.Kind=3
 old:a.Kind≠1→sG t a.Old=true
 new:a.Kind≠2→sG t a.New=true
 same:a.Kind=3→a.Old.Vals.getD 0 WA=a.New.Vals.getD 0 WA
theorem OL.of{t:YA}{a:DB}(h:DE t a=true):OL t a:=by
 have hg:=(ZJ h).1
 have h':=h
 unfold DE at h
 have h2:=(TC h).2
 have row:∀r,cC t r=true→sG t r=true:=fun r hr=>by unfold sG;rw[lG,hg,hr];rfl
 have h3:=h2
 unfold PB at h3
 by_cases k1:a.Kind=1
 ·rw[decide_eq_true k1,cond_true]at h3
  have h4:=(TC h3).2
  exact⟨hg,h2,.inl k1,fun h=>absurd k1 h,fun _=>row _ h4,fun h=>by omega⟩
 ·rw[decide_eq_false k1,cond_false]at h3
  by_cases k2:a.Kind=2
  ·rw[decide_eq_true k2,cond_true]at h3
   have h4:=(TC h3).1
   exact⟨hg,h2,.inr (.inl k2),fun _=>row _ h4,fun h=>absurd k2 h,fun h=>by omega⟩
  ·rw[decide_eq_false k2,cond_false]at h3
   by_cases k3:a.Kind=3
   ·rw[decide_eq_true k3,cond_true]at h3
    obtain⟨h4,h5⟩:=TC h3
    obtain⟨h5,h6⟩:=TC h5
    exact⟨hg,h2,.inr (.inr k3),fun _=>row _ h4,fun _=>row _ h5,fun _=>eq_of_beq h6⟩
   ·rw[decide_eq_false k3]at h3;cases h3
def OV(y:YC):Prop:=wD y=true∧(y.Kind=2∨y.Kind=3∨y.Kind=6∨y.Kind=7)
theorem ZV{t:YA}{x:XD}{a:DB}{y:YC}(h:y∈fC t x a):(a.Kind≠1∧y=⟨3,aB t x a.Old,[],0⟩)∨(a.Kind≠2∧y=⟨2,aB t x a.New,[],0⟩):=by
 unfold fC at h
 try rw[show(([]:KA)==([]:KA))=true from rfl]at h
 generalize aB t x a.Old=eO at h ⊢
 generalize aB t x a.New=eN at h ⊢
 by_cases k1:a.Kind=1
 ·have k2:¬a.Kind=2:=by omega
  rw[decide_eq_true k1,decide_eq_false k2]at h
  refine .inr ⟨k2,?_⟩
  revert h
  cases eN==[]<;>cases decide (2≤x.Stage)<;>simp
 ·rw[decide_eq_false k1]at h
  by_cases k2:a.Kind=2
  ·rw[decide_eq_true k2]at h
   refine .inl ⟨k1,?_⟩
   revert h
   cases eO==[]<;>cases decide (1≤x.Stage)<;>simp
  ·rw[decide_eq_false k2]at h
   have:y=⟨3,eO,[],0⟩∨y=⟨2,eN,[],0⟩:=by
    revert h
    cases eO==[]<;>cases eN==[]<;>cases eO==eN<;>cases decide (1≤x.Stage)<;>cases decide (2≤x.Stage)<;>simp<;>intro h<;>first | exact .inl h | exact .inr h | exact h
   rcases this with h | h
   ·exact .inl ⟨k1,h⟩
   ·exact .inr ⟨k2,h⟩
theorem qP{t:YA}{r:PE}(h:sG t r=true){k:Nat}(hk:k<t.Idxs.length):cE (aB t (t.Idxs.getD k AA) r)=true:=by
 have hg:=(nJ h).1
 have hi:HH t (t.Idxs.getD k AA).Name=true:=(XN _ _).2 ⟨hg,by have:=vN (t:=t) (k:=k) hk;rw[jI]at this;exact this.1⟩
 have:=(qU h hi).2.2
 rw[lQ (WI.of hg) hk]at this
 exact this
theorem kM{t:YA}{a:DB}(h:OL t a):pG (vF t a)=true∧RJ (vF t a):=by
 have key:∀y∈vF t a,OV y:=by
  unfold vF
  refine MD (fun _ (x:List YC)=>∀y∈x,OV y) (fun(v:List YC)=>∀y∈v,OV y) ?_ (fun s hs=>hs) ?_
  ·intro y hy
   unfold SE at hy
   by_cases k1:a.Kind=1
   ·rw[decide_eq_true k1,cond_true]at hy
    obtain⟨hk,hv⟩:=xQ (h.new oM)
    rw[cK]at hk hv
    rcases List.mem_cons.1 hy with rfl | hy
    ·exact⟨lW hk,.inr (.inr (.inl rfl))⟩
    ·rw[List.mem_singleton.1 hy];exact⟨HS hk hv,.inl rfl⟩
   ·rw[decide_eq_false k1,cond_false]at hy
    obtain⟨hk,hv⟩:=xQ (h.old k1)
    rw[cK]at hk hv
    by_cases k2:a.Kind=2
    ·rw[decide_eq_true k2,cond_true]at hy
     rcases List.mem_cons.1 hy with rfl | hy
     ·exact⟨GW hk hv,.inr (.inr (.inr rfl))⟩
     ·rw[List.mem_singleton.1 hy];exact⟨qT hk,.inr (.inl rfl)⟩
    ·rw[decide_eq_false k2,cond_false]at hy
     obtain⟨hk3,hv3⟩:=xQ (h.new k2)
     rw[cK]at hk3 hv3
     rcases List.mem_cons.1 hy with rfl | hy
     ·exact⟨GW hk hv,.inr (.inr (.inr rfl))⟩
     ·rw[List.mem_singleton.1 hy];exact⟨HS hk hv3,.inl rfl⟩
  ·intro j x _ hj hx
   show ∀y∈x++fC t (t.Idxs.getD j AA) a,OV y
   intro y hy
   rcases List.mem_append.1 hy with hy | hy
   ·exact hx y hy
   ·rcases ZV hy with⟨k1,rfl⟩ | ⟨k2,rfl⟩
    ·exact⟨qT (qP (h.old k1) oM),.inr (.inl rfl)⟩
    ·exact⟨HS (qP (h.new k2) oM) vW,.inl rfl⟩
 have hl:=BS t a
 have h3:=(WI.of h.tbl).idxs
 exact⟨WU _ (List.all_eq_true.2 fun y hy=>(key y hy).1) oM,fun y hy=>(key y hy).2⟩
theorem GM{t:YA}{a:DB}(h:mH t a=true):∀y∈vF t a,y.Kind≠4:=fun y hy=>by
 have:=(kM (OL.of (EI t a▸h))).2 y hy
 omega
theorem gO{t:YA}{a:DB}(h:mH t a=true):(vF t a).length≤100:=by
 have:=(fM (kM (OL.of (EI t a▸h))).1).2
 omega
theorem pQ{t:YA}{a:DB}(h:DE t a=true):∀y∈oD t a,y.Kind≠4:=by
 have ha:=OL.of h
 rw[HL ha.tbl ha.act]
 exact GM (EI t a▸h)
theorem CS{t:YA}{a:DB}(h:DE t a=true):(oD t a).length≤100:=by
 have ha:=OL.of h
 rw[HL ha.tbl ha.act]
 exact gO (EI t a▸h)
theorem kW{l:List YC}(h:pG l=true):SF PI l:=by
 obtain⟨h1,h2⟩:=fM h
 refine UB oM fun y hy=>?_
 have hg:=h1 y hy
 unfold wD at hg
 obtain⟨g1,g2⟩:=TC hg
 have hk:=yP g1
 have hv:y.Val.length≤24:=by
  have e0:∀{c:Bool},(bif y.Val==([]:KA)then c else false)=true→y.Val.length≤24:=fun h=>by rw[eq_of_beq (TC h).1];exact Nat.zero_le _
  revert g2
  cases decide (y.Kind=2)
  ·cases decide (y.Kind=7)
   ·cases decide (y.Kind=4)
    ·cases decide (y.Kind=5)
     ·cases decide (y.Kind=1)
      ·cases decide (y.Kind=3)
       ·intro g2;first | exact e0 g2 | exact e0 (TC g2).2 | exact e0 (TC g2).1 | (revert g2;cases decide (y.Kind=6)<;>intro g2<;>first | exact e0 g2 | cases g2)
       ·exact e0
      ·exact e0
     ·exact e0
    ·exact e0
   ·exact fun g2=>YM (TC g2).1
  ·exact fun g2=>YM (TC g2).1
 exact⟨by show _≤_;omega,by show _≤_;omega⟩
theorem lU{t:YA}{a:DB}(h:DE t a=true):SF PI (oD t a):=by
 have ha:=OL.of h
 rw[HL ha.tbl ha.act]
 exact kW (kM ha).1
theorem MQ(t:YA)(l:List lA)(a:DB):zC t l a=nD t l a:=by
 unfold zC nD
 rw[←EI,←sK]
 cases h:DE t a
 ·rfl
 ·have ha:=OL.of h
  cases hr:EC l
  ·rfl
  ·rw[HL ha.tbl ha.act,(KP hr (kM ha).1 (kM ha).2).1]
theorem BT(t:YA)(l:List lA)(a:DB):(zC t l a).1.length≤24:=by
 rw[MQ]
 unfold nD
 rw[←EI]
 cases h:DE t a
 ·exact Nat.zero_le _
 ·have ha:=OL.of h
  cases hr:EC l
  ·exact Nat.zero_le _
  ·exact((wL _).1 (KP hr (kM ha).1 (kM ha).2).2).2.2.2
theorem YS(t:YA)(l:List lA)(a:DB)(hw:AL t)(hw2:(YR wK) l)(hw3:vK a):VB t l a=true:=by
 unfold VB
 cases h1:decide (UD t 1048576<0)
 case true=>rfl
 cases h2:decide (JE l (UD t 1048576)<0)
 case true=>rfl
 cases h3:decide (KF a (JE l (UD t 1048576))<0)
 case true=>rfl
 have hl:=RR hw (of_decide_eq_false h1)
 have hz:=ID hw (by decide) (of_decide_eq_false h1)
 have hz2:=KE hw2 hz.2 (of_decide_eq_false h2)
 have ho:l.length≤2147483648:=hz2.1.1
 have hal:=(NH hw3 hz2.2 (of_decide_eq_false h3)).1
 have hl1:=hal.1.1
 have hl2:=hal.2.1
 have hc:=BT t l a
 obtain⟨_,m1⟩:=oV t 1 (by decide) oM
 obtain⟨_,m2,_⟩:=EP l (xD t 1).1 oM oM
 obtain⟨_,m3⟩:=iU a (tC l (xD t 1).1).1 oM oM
 obtain⟨m4,m5,_⟩:=EP (zC t l a).1 1 (by decide) oM
 simp only[cond_false,←MQ,UU,UT,TT,beq_self_eq_true,cond_true,m4]
 rw[m3,decide_eq_false oM,cond_false,m5,decide_eq_false oM,cond_false,decide_true];rfl
theorem BV(s:List lA)(o:List (List YC)):(QB s o).1.length≤s.length∨(QB s o).1.length≤24:=by
 unfold QB
 cases EC s
 ·exact .inr (Nat.zero_le _)
 ·cases decide (20<(o.length:Int))
  ·refine MD (fun _ (_:Unit)=>True) (fun(v:List lA×List Bool×Bool)=>v.1.length≤s.length∨v.1.length≤24) trivial (fun _ _=>?_) (fun j _ _ _ _=>?_)
   ·refine MD (fun _ (x:List lA×List Bool)=>x.1.length≤s.length∨x.1.length≤24) (fun(v:List lA×List Bool×Bool)=>v.1.length≤s.length∨v.1.length≤24) (.inl (Nat.le_refl _)) (fun _ h=>h) (fun j x _ _ h=>?_)
    obtain⟨x,y⟩:=x
    unfold vD
    dsimp only
    cases (SB x (o.getD j rG)).2.2
    ·exact h
    ·cases hr:EC (KB x (SB x (o.getD j rG)).2.1)
     ·exact h
     ·exact .inr (MK hr)
   ·unfold CD
    cases pG (o.getD j rG)
    ·exact .inr (Nat.zero_le _)
    ·trivial
  ·exact .inr (Nat.zero_le _)
theorem fU(s:List lA)(o:List YC):(sH s o).1.length≤s.length∨(sH s o).1.length≤24:=by
 have h:=BV s [o]
 unfold sH
 cases decide ((((QB s [o]).2.1).length:Int)=1)<;>exact h
end Go.Proofs.YtoimdjojffkefaaGreatDoor
