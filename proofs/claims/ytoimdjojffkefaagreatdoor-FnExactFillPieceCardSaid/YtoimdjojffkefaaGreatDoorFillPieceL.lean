/- Fill Piece: plain laws of the models. -/
import Derived.Test.YtoimdjojffkefaaGreatDoorFillPieceT
set_option linter.unusedVariables false
set_option linter.unusedSimpArgs false
namespace Go.Proofs.YtoimdjojffkefaaGreatDoor
open Go.RowKit Go.X
theorem nX{x:SE}{L:Int}(hw:TP x)(hL:0≤L∧L≤1048576)(h:¬HI x L<0):TJ x∧0≤HI x L∧HI x L≤1048576:=by
  unfold HI at h ⊢
  obtain⟨a0,e0,h⟩:=BY h
  rw[e0]
  have s0:=uO hw.1 hL a0
  exact⟨s0.1,s0.2⟩
theorem WY(x:SE):OU x=x:=rfl
theorem IY(x:SE):rI x x=true:=by unfold rI;simp only[beq_self_eq_true,cond_true,decide_true]
theorem yT(x:List KA)(L:Int):UE x L=bW (fun s L=>IntKind.wrap .i64 (L-(s.length:Int))) kB x L:=by
  unfold UE bW AY
  have:BF x L=fun k y=>bif decide (IntKind.wrap .i64 (y-((x.getD k kB).length:Int))<0)then .ret (-1)else .cont (IntKind.wrap .i64 (y-((x.getD k kB).length:Int))):=by
    funext k y;rfl
  rw[this]
theorem aS{x:List KA}{L:Int}(hw:(FT ZN) x)(hL:0≤L∧L≤1048576)(h:¬UE x L<0):(uF WE) x∧0≤UE x L∧UE x L≤1048576:=by
  rw[yT]at h ⊢
  exact ZR kB uO hw hL h
theorem EU(x:List KA):KO x=x:=DU kB (f:=fun s=>s) (fun _=>rfl) x
theorem bU(x:List KA):HH x x=true:=uP kB (f:=fun a b=>a==b) (fun _=>beq_self_eq_true _) x
theorem cW{x:List SE}{L:Int}(hw:(FT TP) x)(hL:0≤L∧L≤1048576)(h:¬xI x L<0):(uF TJ) x∧0≤xI x L∧xI x L≤1048576:=ZR JA (f:=HI) nX hw hL h
theorem lY(x:List SE):jT x=x:=DU JA (f:=fun s=>s) (fun _=>rfl) x
theorem PX(x:List SE):pJ x x=true:=uP JA (f:=rI) IY x
theorem yE{x:ZA}{L:Int}(hw:GM x)(hL:0≤L∧L≤1048576)(h:¬CE x L<0):vE x∧0≤CE x L∧CE x L≤1048576:=by
  unfold CE at h ⊢
  obtain⟨a0,e0,h⟩:=BY h
  rw[e0]
  have s0:=uO hw.1 hL a0
  obtain⟨a1,e1,h⟩:=BY h
  rw[e1]
  have s1:=aS hw.2.1 s0.2 a1
  obtain⟨a2,e2,h⟩:=BY h
  rw[e2]
  have s2:=cW hw.2.2 s1.2 a2
  exact⟨⟨s0.1,s1.1,s2.1⟩,s2.2⟩
theorem qX(x:ZA):QQ x=x:=rfl
theorem BW(x:ZA):YG x x=true:=by unfold YG;simp only[bU,PX,beq_self_eq_true,cond_true,decide_true]
theorem CU{x:iA}{L:Int}(hw:zL x)(hL:0≤L∧L≤1048576)(h:¬oG x L<0):tB x∧0≤oG x L∧oG x L≤1048576:=by
  unfold oG at h ⊢
  obtain⟨a0,e0,h⟩:=BY h
  rw[e0]
  have s0:=uO hw.1 hL a0
  obtain⟨a1,e1,h⟩:=BY h
  rw[e1]
  have s1:=uO hw.2 s0.2 a1
  exact⟨⟨s0.1,s1.1⟩,s1.2⟩
theorem rX(x:iA):RQ x=x:=rfl
theorem DW(x:iA):PG x x=true:=by unfold PG;simp only[beq_self_eq_true,cond_true,decide_true]
theorem yK{x:gE}{L:Int}(hw:ZO x)(hL:0≤L∧L≤1048576)(h:¬QI x L<0):FH x∧0≤QI x L∧QI x L≤1048576:=by
  unfold QI at h ⊢
  obtain⟨a0,e0,h⟩:=BY h
  rw[e0]
  have s0:=uO hw hL a0
  exact⟨s0.1,s0.2⟩
theorem kY(x:gE):iT x=x:=rfl
theorem OX(x:gE):dJ x x=true:=by unfold dJ;simp only[beq_self_eq_true,cond_true,decide_true]
theorem WF{x:List iA}{L:Int}(hw:(FT zL) x)(hL:0≤L∧L≤1048576)(h:¬AF x L<0):(uF tB) x∧0≤AF x L∧AF x L≤1048576:=ZR nA (f:=oG) CU hw hL h
theorem eW(x:List iA):CP x=x:=DU nA (f:=fun s=>s) (fun _=>rfl) x
theorem tV(x:List iA):yH x x=true:=uP nA (f:=PG) DW x
def KK(_:iA)(k:Int):Int×iA:=(IntKind.wrap .i64 ((IntKind.wrap .i64 ((IntKind.wrap .i64 (k+1))+1))+1),⟨XB k,XB (IntKind.wrap .i64 (k+1)),decide (Int.tmod (IntKind.wrap .i64 ((IntKind.wrap .i64 (k+1))+1)) 3=0)⟩)
theorem WQ(x:iA)(k:Int)(h0:0≤k)(h1:k+((3:Nat):Int)≤4611686018427387904):(KK x k).1=k+((3:Nat):Int):=by
  unfold KK
  simp only[IntKind.wrap_i64];omega
theorem vM(a:List iA)(k:Int):eD a k=FP KK a k:=by
  unfold eD
  exact ZW (d:=nA) (mk:=KK) (fun i k xs hi=>by unfold TG;simp only[List.set_set,dG hi,KK]) a k
theorem aT(a:List iA)(k:Int)(h0:0≤k)(h1:k+(jO (fun _=>3) a:Int)≤4611686018427387904):tE (eD a k).2 k=(eD a k).1:=by
  rw[vM]
  unfold tE
  exact LW (d:=nA) (mk:=KK) (c:=fun _=>3) a k WQ (fun i k x hx _ _=>by unfold rD;simp only[hx,KK,eq_self,decide_true,beq_self_eq_true,cond_true]) h0 h1
theorem VQ(a:List iA)(k:Int)(h0:0≤k)(h1:k+(((3:Nat)*a.length:Nat):Int)≤4611686018427387904):tE (eD a k).2 k=(eD a k).1∧(eD a k).1=k+(((3:Nat)*a.length:Nat):Int)∧(eD a k).2.length=a.length:=by
  rw[←IL]at h1 ⊢
  refine⟨aT a k h0 h1,?_,?_⟩
  · rw[vM];exact XO WQ a k h0 h1
  · rw[vM];exact JK _ _ _
theorem ZM(a:List iA)(k:Int)(h:k≤9223372036854775807):(eD a k).1≤9223372036854775807:=by
  unfold eD
  refine ND (fun _ (s:Int×List iA)=>s.1≤9223372036854775807) (fun(v:Int×List iA)=>v.1≤9223372036854775807) h (fun s hs=>hs) ?_
  rintro j ⟨k,x⟩ _ _ hk
  exact aP _
theorem YM(a:List iA)(k:Int)(h:k≤9223372036854775807):tE a k≤9223372036854775807:=by
  unfold tE
  refine ND (fun _ (s:Int)=>s≤9223372036854775807) (fun v=>v≤9223372036854775807) h (fun s hs=>hs) ?_
  intro j k' _ _ hk
  unfold rD
  dsimp only
  cases (((a.getD j nA).Key)==XB k')<;>cases (((a.getD j nA).Val)==XB (IntKind.wrap .i64 (k'+1)))<;>cases (((a.getD j nA).Gone)==decide (Int.tmod (IntKind.wrap .i64 ((IntKind.wrap .i64 (k'+1))+1)) 3=0))<;>first | exact aP _ | exact YX
theorem VP(xs:List SE)(f:SE→Bool):gF xs f=bT f JA xs:=rfl
theorem zK(xs:List iA)(f:iA→Bool):ME xs f=xs.any f:=JN f nA xs
theorem TM(xs:List KA)(f:KA→Bool):kF xs f=xs.any f:=JN f kB xs
theorem QO(xs:List KA)(y:KA):rF xs y=xs.any (fun x=>y==x):=JN _ kB xs
def SJ(_:KA)(k:Int):Int×KA:=(IntKind.wrap .i64 (k+1),XB k)
theorem GP(x:KA)(k:Int)(h0:0≤k)(h1:k+((1:Nat):Int)≤4611686018427387904):(SJ x k).1=k+((1:Nat):Int):=by
  unfold SJ
  simp only[IntKind.wrap_i64];omega
theorem ML(a:List KA)(k:Int):QD a k=FP SJ a k:=by
  unfold QD
  exact ZW (d:=kB) (mk:=SJ) (fun i k xs hi=>by unfold AG;simp only[List.set_set,dG hi,SJ]) a k
theorem LR(a:List KA)(k:Int)(h0:0≤k)(h1:k+(jO (fun _=>1) a:Int)≤4611686018427387904):TI (QD a k).2 k=(QD a k).1:=by
  rw[ML]
  unfold TI
  exact LW (d:=kB) (mk:=SJ) (c:=fun _=>1) a k GP (fun i k x hx _ _=>by unfold UK;simp only[hx,SJ,eq_self,decide_true,beq_self_eq_true,cond_true]) h0 h1
theorem kU(a:List KA)(k:Int)(h0:0≤k)(h1:k+(((1:Nat)*a.length:Nat):Int)≤4611686018427387904):TI (QD a k).2 k=(QD a k).1∧(QD a k).1=k+(((1:Nat)*a.length:Nat):Int)∧(QD a k).2.length=a.length:=by
  rw[←IL]at h1 ⊢
  refine⟨LR a k h0 h1,?_,?_⟩
  · rw[ML];exact XO GP a k h0 h1
  · rw[ML];exact JK _ _ _
theorem AM(a:List KA)(k:Int)(h:k≤9223372036854775807):(QD a k).1≤9223372036854775807:=by
  unfold QD
  refine ND (fun _ (s:Int×List KA)=>s.1≤9223372036854775807) (fun(v:Int×List KA)=>v.1≤9223372036854775807) h (fun s hs=>hs) ?_
  rintro j ⟨k,x⟩ _ _ hk
  exact aP _
def sN(_:SE)(k:Int):Int×SE:=(IntKind.wrap .i64 ((IntKind.wrap .i64 ((IntKind.wrap .i64 (k+1))+1))+1),⟨XB k,IntKind.wrap .i64 (k+1),IntKind.wrap .i64 ((IntKind.wrap .i64 (k+1))+1)⟩)
theorem RU(x:SE)(k:Int)(h0:0≤k)(h1:k+((3:Nat):Int)≤4611686018427387904):(sN x k).1=k+((3:Nat):Int):=by
  unfold sN
  simp only[IntKind.wrap_i64];omega
theorem nO(a:List SE)(k:Int):SF a k=FP sN a k:=by
  unfold SF
  exact ZW (d:=JA) (mk:=sN) (fun i k xs hi=>by unfold LH;simp only[List.set_set,dG hi,sN]) a k
theorem BV(a:List SE)(k:Int)(h0:0≤k)(h1:k+(jO (fun _=>3) a:Int)≤4611686018427387904):IK (SF a k).2 k=(SF a k).1:=by
  rw[nO]
  unfold IK
  exact LW (d:=JA) (mk:=sN) (c:=fun _=>3) a k RU (fun i k x hx _ _=>by unfold XL;simp only[hx,sN,eq_self,decide_true,beq_self_eq_true,cond_true]) h0 h1
theorem XX(a:List SE)(k:Int)(h0:0≤k)(h1:k+(((3:Nat)*a.length:Nat):Int)≤4611686018427387904):IK (SF a k).2 k=(SF a k).1∧(SF a k).1=k+(((3:Nat)*a.length:Nat):Int)∧(SF a k).2.length=a.length:=by
  rw[←IL]at h1 ⊢
  refine⟨BV a k h0 h1,?_,?_⟩
  · rw[nO];exact XO RU a k h0 h1
  · rw[nO];exact JK _ _ _
theorem NO(a:List SE)(k:Int)(h:k≤9223372036854775807):(SF a k).1≤9223372036854775807:=by
  unfold SF
  refine ND (fun _ (s:Int×List SE)=>s.1≤9223372036854775807) (fun(v:Int×List SE)=>v.1≤9223372036854775807) h (fun s hs=>hs) ?_
  rintro j ⟨k,x⟩ _ _ hk
  exact aP _
theorem aX(a:ZA)(k:Int)(h0:0≤k)(h1:k+((1*a.Cols.length+3*a.Idxs.length:Nat):Int)≤4611686018427387904):uM (EE a k).2 k=(EE a k).1∧(EE a k).1=k+((1*a.Cols.length+3*a.Idxs.length:Nat):Int):=by
  obtain⟨e0,n0,_⟩:=kU a.Cols k oM oM
  obtain⟨e1,n1,_⟩:=XX a.Idxs (k+((1*a.Cols.length:Nat):Int)) oM oM
  have q1:uM (EE a k).2 k=(k+((1*a.Cols.length:Nat):Int))+((3*a.Idxs.length:Nat):Int):=by unfold uM EE;simp only[e0,n0,e1,n1,decide_eq_false (show ¬k+((1*a.Cols.length:Nat):Int)<0 by omega),decide_eq_false (show ¬(k+((1*a.Cols.length:Nat):Int))+((3*a.Idxs.length:Nat):Int)<0 by omega),cond_false]
  have q2:(EE a k).1=(k+((1*a.Cols.length:Nat):Int))+((3*a.Idxs.length:Nat):Int):=by unfold EE;simp only[n0,n1]
  exact⟨q1.trans q2.symm,q2.trans oM⟩
theorem UR(a:ZA)(k:Int)(h:k≤9223372036854775807):(EE a k).1≤9223372036854775807:=by
  unfold EE
  exact(NO _ _ (AM _ _ h))
theorem PM:QC=xD:=rfl
theorem DK{n lo hi:Int}(h:xD n lo hi=true):lo≤n∧n≤hi:=by
  unfold xD at h
  obtain⟨h1,h2⟩:=gD h
  exact⟨of_decide_eq_true h1,of_decide_eq_true h2⟩
theorem oL{n lo hi:Int}(h:QC n lo hi=true):lo≤n∧n≤hi:=DK h
theorem qQ(l:List UInt8)(c:UInt8):decide (Lib.indexByte l c<0)=!(l.contains c):=by
  induction l with
  | nil=>rfl
  | cons b l ih=>
    have hge:=Lib.indexByte_ge l c
    rw[Bool.eq_iff_iff]at ih ⊢
    simp only[decide_eq_true_eq,Bool.not_eq_true',List.contains_cons]at ih ⊢
    unfold Lib.indexByte
    by_cases hb:b=c
    · subst hb;simp
    · have hb1:(b==c)=false:=by simpa using hb
      have hb2:(c==b)=false:=by simpa using fun h=>hb h.symm
      rw[hb1,hb2]
      simp only[Bool.false_or,Bool.false_eq_true,if_false]
      split
      · rename_i h
        have:Lib.indexByte l c=-1:=by simpa using h
        rw[←ih];omega
      · rename_i h
        have:Lib.indexByte l c≠-1:=by simpa using h
        constructor
        · intro h;omega
        · intro h;have:=ih.2 h;omega
theorem byte_back(b:UInt8):((b.toNat:Int)).toNat.toUInt8=b:=by simp
theorem NW(s:KA)(b:UInt8):decide (CV s (b.toNat:Int)<0)=!(s.contains b):=by
  unfold CV
  rw[byte_back,qQ]
def IJ(more:KA)(b:UInt8):Bool:=sD (b.toNat:Int)||more.contains b
theorem tM(s more:KA):lI s more=s.all (IJ more):=by
  unfold lI
  rw[JT (0:UInt8) (IJ more) (r:=false) fun k=>by
    unfold jF IJ OG AD
    rw[NW]
    cases sD ((s.getD k 0).toNat:Int)<;>cases more.contains (s.getD k 0)<;>rfl]
  cases s.all (IJ more)<;>rfl
theorem zT(a b:UInt8):decide ((a.toNat:Int)=(b.toNat:Int))=(a==b):=by
  rw[Bool.eq_iff_iff,decide_eq_true_iff,beq_iff_eq]
  constructor
  · intro h;exact UInt8.toNat.inj oM
  · intro h;rw[h]
theorem xZ{T:Type}(s more:KA)(k:Nat)(x0:Bool)(fr:Bool→T)(fd:Bool→T):fD (FA (KB s more k) (more.length-0) 0 x0) fr fd=fd (x0||more.contains (s.getD k 0)):=by
  rw[MZ (0:UInt8) (fun b=>(s.getD k 0)==b) fun j x=>by
    unfold KB
    rw[zT]
    cases x<;>rfl]
  rw[List.contains_eq_any_beq]
theorem BJ(s more:KA):ZF s more=s.all (IJ more):=by
  unfold ZF
  rw[JT (0:UInt8) (IJ more) (r:=false) fun k=>by
    unfold pC IJ sD
    simp only[xZ]
    cases decide (97≤((s.getD k 0).toNat:Int))<;>cases decide (((s.getD k 0).toNat:Int)≤122)<;>cases decide (48≤((s.getD k 0).toNat:Int))<;>cases decide (((s.getD k 0).toNat:Int)≤57)<;>cases more.contains (s.getD k 0)<;>rfl]
  cases s.all (IJ more)<;>rfl
theorem eP(s:KA):RI s=aF s:=by
  unfold RI aF
  rw[tM,BJ,PM]
theorem lS(f:gE):jI f=UH f:=by
  unfold jI UH
  rw[eP]
theorem IT(s:KA):iJ s=KF s:=by
  unfold iJ KF
  rw[tM,BJ]

theorem bS(l:List iA):kH l=l.map (·.Key):=by
  unfold kH
  rw[yZ (body:=rH l) (xs:=l) nA (fun w=>w.Key) fun k x _=>rfl]
  rfl
def KJ(ks:List KA)(k:Nat):Bool:=bif decide (0<(k:Int))then LI (ks.getD ((IntKind.wrap .i64 ((k:Int)-1)).toNat) kB) (ks.getD k kB)else true
theorem pR(ks:List KA):jH ks=(List.range ks.length).all fun k=>aF (ks.getD k kB)&&KJ ks k:=by
  unfold jH
  rw[TQ (fun k=>aF (ks.getD k kB)&&KJ ks k) (r:=false) fun k _=>by
    unfold aE KJ
    rw[eP,PL]
    cases aF (ks.getD k kB)<;>cases decide (0<(k:Int))<;>cases LI (ks.getD ((IntKind.wrap .i64 ((k:Int)-1)).toNat) kB) (ks.getD k kB)<;>rfl]
  cases (List.range ks.length).all fun k=>aF (ks.getD k kB)&&KJ ks k<;>rfl
theorem bK(l:List iA):TF l=(((List.range l.length).all fun k=>ID ((l.getD k nA).Key) ((l.getD k nA).Val) ((l.getD k nA).Gone)&&KJ (l.map (·.Key)) k)&&decide ((l.length:Int)≤24)):=by
  have hg:∀k,(l.map (·.Key)).getD k kB=(l.getD k nA).Key:=by
    intro k
    simp only[List.getD_eq_getElem?_getD,List.getElem?_map]
    cases l[k]? <;> rfl
  unfold TF
  rw[TQ (fun k=>ID ((l.getD k nA).Key) ((l.getD k nA).Val) ((l.getD k nA).Gone)&&KJ (l.map (·.Key)) k) (r:=false) fun k _=>by
    unfold pE KJ
    rw[hg,hg]
    cases ID ((l.getD k nA).Key) ((l.getD k nA).Val) ((l.getD k nA).Gone)<;>cases decide (0<(k:Int))<;>cases LI (l.getD ((IntKind.wrap .i64 ((k:Int)-1)).toNat) nA).Key (l.getD k nA).Key<;>rfl]
  cases ((List.range l.length).all fun k=>ID ((l.getD k nA).Key) ((l.getD k nA).Val) ((l.getD k nA).Gone)&&KJ (l.map (·.Key)) k)<;>rfl
theorem HX{α:Type}(l:List α)(p q:α→Bool):(l.all p&&l.all q)=l.all fun x=>p x&&q x:=by
  induction l with
  | nil=>rfl
  | cons x l ih=>
    simp only[List.all_cons,←ih]
    cases p x<;>cases q x<;>cases l.all p<;>rfl
theorem HO(v:KA)(g:Bool):jG v g=(KF v&&(!g||v==([]:KA))):=by
  unfold jG
  rw[IT]
  cases KF v<;>cases g<;>cases (v==([]:KA))<;>rfl
theorem BP(k v:KA)(g:Bool):ID k v g=(aF k&&jG v g):=by
  rw[HO]
  unfold ID
  cases aF k<;>cases KF v<;>cases g<;>cases (v==([]:KA))<;>rfl
theorem UP(l:List iA):JG l=TF l:=by
  have hg:∀k,(l.map (·.Key)).getD k kB=(l.getD k nA).Key:=by
    intro k
    simp only[List.getD_eq_getElem?_getD,List.getElem?_map]
    cases l[k]? <;> rfl
  unfold JG
  rw[bS,pR,bK,zK,List.length_map]
  have h1:(!(l.any fun y=>xH y))=(List.range l.length).all fun k=>jG (l.getD k nA).Val (l.getD k nA).Gone:=by
    rw[List.not_any_eq_all_not,←aR nA]
    unfold xH
    simp only[Bool.not_not]
  rw[h1]
  have h2:((List.range l.length).all fun k=>ID ((l.getD k nA).Key) ((l.getD k nA).Val) ((l.getD k nA).Gone)&&KJ (l.map (·.Key)) k)=(((List.range l.length).all fun k=>aF ((l.map (·.Key)).getD k kB)&&KJ (l.map (·.Key)) k)&&(List.range l.length).all fun k=>jG (l.getD k nA).Val (l.getD k nA).Gone):=by
    rw[HX]
    congr 1;funext k
    rw[BP,hg]
    cases aF (l.getD k nA).Key<;>cases jG (l.getD k nA).Val (l.getD k nA).Gone<;>cases KJ (l.map (·.Key)) k<;>rfl
  rw[h2]
  cases decide ((l.length:Int)≤24)<;>cases ((List.range l.length).all fun k=>aF ((l.map (·.Key)).getD k kB)&&KJ (l.map (·.Key)) k)<;>cases ((List.range l.length).all fun k=>jG (l.getD k nA).Val (l.getD k nA).Gone)<;>rfl
theorem LM(l:List iA):OI l=(TF l&&l.all fun w=>!w.Gone):=by
  unfold OI
  rw[UP,zK,List.not_any_eq_all_not]
  cases TF l<;>rfl
theorem rN:GC=JB:=by
  funext s m
  unfold GC JB
  rfl
theorem nN(s:KA):SI s=xE s:=by
  unfold SI xE
  rw[tM,BJ,PM]
theorem GK(t:ZA)(r:rC):TD t r=(r.Vals.all xE&&decide ((r.Vals.length:Int)=(t.Cols.length:Int))):=by
  unfold TD
  rw[JT kB xE (r:=false) fun k=>rfl]
  cases r.Vals.all xE<;>rfl
theorem LN(t:ZA)(r:rC):qD t r=TD t r:=by
  rw[GK]
  unfold qD
  rw[TM,List.not_any_eq_all_not]
  unfold JH
  simp only[Bool.not_not,nN]
  cases decide ((r.Vals.length:Int)=(t.Cols.length:Int))<;>cases (r.Vals.all fun x=>xE x)<;>rfl
theorem FV(l:List KA)(s:KA):decide (0≤tK l s)=l.any fun x=>x==s:=by
  have:tK l s=bT (fun x=>x==s) kB l:=rfl
  rw[this,JN]
def rP(l:List KA)(k:Nat):Bool:=JB (l.getD k kB) 3&&!((l.take k).any fun x=>x==l.getD k kB)
theorem AP(l:List KA):KH l=((List.range l.length).all (rP l)&&xD (l.length:Int) 2 4):=by
  unfold KH
  rw[TQ (rP l) (r:=false) fun k _=>by
    unfold pF rP
    rw[FV]
    cases JB (l.getD k kB) 3<;>cases ((l.take k).any fun x=>x==l.getD k kB)<;>rfl]
  cases (List.range l.length).all (rP l)<;>rfl
theorem DG(t:ZA):YC t=VB t:=by
  unfold YC VB
  rw[AP,rN,PM]
  rw[TQ (rP t.Cols) (r:=false) fun k _=>by
    unfold zE rP
    rw[QO,rN]
    rw[show((t.Cols.take k).any fun x=>t.Cols.getD k kB==x)=((t.Cols.take k).any fun x=>x==t.Cols.getD k kB)by congr 1;funext x;rw[Bool.beq_comm]]
    cases JB (t.Cols.getD k kB) 3<;>cases ((t.Cols.take k).any fun x=>x==t.Cols.getD k kB)<;>rfl]
  have hb:LC t=BC t:=by
    funext k u
    unfold LC BC IF
    rw[rN,PM,PL]
    cases JB ((t.Idxs.getD k JA).Name) 1<;>cases xD ((t.Idxs.getD k JA).Col) 1 (IntKind.wrap .i64 ((t.Cols.length:Int)-1))<;>cases xD ((t.Idxs.getD k JA).Stage) 0 3<;>cases decide (0<(k:Int))<;>cases LI ((t.Idxs.getD ((IntKind.wrap .i64 ((k:Int)-1)).toNat) JA).Name) ((t.Idxs.getD k JA).Name)<;>rfl
  rw[hb]
  cases JB t.Name 1<;>cases xD (t.Cols.length:Int) 2 4<;>cases decide (3<(t.Idxs.length:Int))<;>cases (List.range t.Cols.length).all (rP t.Cols)<;>rfl
theorem fP(t:ZA)(r:rC):XG t r=wL t r:=by
  unfold XG wL
  rw[DG,LN]
theorem eH{t:ZA}(h:VB t=true):2≤(t.Cols.length:Int)∧(t.Cols.length:Int)≤4∧(t.Idxs.length:Int)≤3:=by
  unfold VB at h
  obtain⟨_,h⟩:=gD h
  obtain⟨h1,h⟩:=gD h
  rw[AP,Bool.and_eq_true]at h1
  have h2:=DK h1.2
  refine⟨h2.1,h2.2,?_⟩
  cases h3:decide (3<(t.Idxs.length:Int))
  · have:=of_decide_eq_false h3;omega
  · rw[h3]at h;cases h
theorem pQ{t:ZA}(h:YC t=true):2≤(t.Cols.length:Int)∧(t.Cols.length:Int)≤4∧(t.Idxs.length:Int)≤3:=eH (DG t▸h)
theorem IR{t:ZA}{r:rC}(h:TD t r=true):r.Vals.length=t.Cols.length:=by
  rw[GK,Bool.and_eq_true]at h
  have:=of_decide_eq_true h.2
  omega
theorem bJ(t:ZA)(s:KA):dC t s=oC t s:=by
  unfold dC
  rw[VP]
  rfl
theorem eT(t:ZA)(n:KA):oC t n=bT (fun y=>JE y n) JA t.Idxs:=rfl
theorem JO(t:ZA)(n:KA):(oC t n=-1∧∀x∈t.Idxs,x.Name≠n)∨∃(k:Nat) (_:k<t.Idxs.length),oC t n=(k:Int)∧(t.Idxs.getD k JA).Name=n∧∀j,j<k→(t.Idxs.getD j JA).Name≠n:=by
  rw[eT]
  rcases wK (fun y=>JE y n) JA t.Idxs with⟨h1,h2⟩ | ⟨k,hk,h1,h2,h3⟩
  · exact .inl ⟨h1,fun x hx e=>by have:=h2 x hx;unfold JE at this;rw[e,beq_self_eq_true]at this;cases this⟩
  · refine .inr ⟨k,hk,h1,?_,fun j hj e=>?_⟩
    · rw[DE hk];unfold JE at h2;exact eq_of_beq h2
    · have:=h3 j hj;rw[DE oM]at e;unfold JE at this;rw[e,beq_self_eq_true]at this;cases this
theorem dK(t:ZA)(n:KA):-1≤oC t n∧oC t n<(t.Idxs.length:Int):=by
  rcases JO t n with⟨h,_⟩ | ⟨k,hk,h,_⟩<;>omega
theorem sK(t:ZA)(n:KA):-1≤dC t n∧dC t n<(t.Idxs.length:Int):=by rw[bJ];exact dK t n
def PQ(t:ZA)(k:Nat):Bool:=JB (t.Idxs.getD k JA).Name 1&&xD (t.Idxs.getD k JA).Col 1 (IntKind.wrap .i64 ((t.Cols.length:Int)-1))&&xD (t.Idxs.getD k JA).Stage 0 3&&bif decide (0<(k:Int))then LI (t.Idxs.getD ((IntKind.wrap .i64 ((k:Int)-1)).toNat) JA).Name (t.Idxs.getD k JA).Name else true
theorem CM(t:ZA):VB t=(JB t.Name 1&&KH t.Cols&&decide (t.Idxs.length≤3)&&(List.range t.Idxs.length).all (PQ t)):=by
  unfold VB
  rw[TQ (PQ t) (r:=false) fun k _=>by
    unfold BC PQ
    cases JB (t.Idxs.getD k JA).Name 1<;>cases xD (t.Idxs.getD k JA).Col 1 (IntKind.wrap .i64 ((t.Cols.length:Int)-1))<;>cases xD (t.Idxs.getD k JA).Stage 0 3<;>cases decide (0<(k:Int))<;>cases LI (t.Idxs.getD ((IntKind.wrap .i64 ((k:Int)-1)).toNat) JA).Name (t.Idxs.getD k JA).Name<;>rfl]
  have e:decide (t.Idxs.length≤3)=!decide (3<(t.Idxs.length:Int)):=by
    by_cases h:t.Idxs.length≤3
    · rw[decide_eq_true h,decide_eq_false oM];rfl
    · rw[decide_eq_false h,decide_eq_true oM];rfl
  rw[e]
  cases JB t.Name 1<;>cases KH t.Cols<;>cases decide (3<(t.Idxs.length:Int))<;>cases (List.range t.Idxs.length).all (PQ t)<;>rfl
def EP(b:UInt8):Bool:=!decide ((b.toNat:Int)<97)&&!decide (122<(b.toNat:Int))
theorem XM(s:KA)(m:Int):JB s m=(s.all EP&&decide (1≤(s.length:Int))&&decide ((s.length:Int)≤m)):=by
  unfold JB
  rw[JT (0:UInt8) EP (r:=false) fun k=>by
    unfold kE EP
    cases decide (((s.getD k 0).toNat:Int)<97)<;>cases decide (122<((s.getD k 0).toNat:Int))<;>rfl]
  cases s.all EP<;>cases decide (1≤(s.length:Int))<;>rfl
theorem eL{s:KA}{m:Int}(h:JB s m=true):1≤(s.length:Int)∧(s.length:Int)≤m:=by
  rw[XM]at h
  simp only[Bool.and_eq_true,decide_eq_true_eq]at h
  exact⟨h.1.2,h.2⟩
structure YL (t:ZA):Prop where
  name:t.Name.length=1
  cols:2≤t.Cols.length∧t.Cols.length≤4
  idxs:t.Idxs.length≤3
  idx:∀k,k<t.Idxs.length→(t.Idxs.getD k JA).Name.length=1∧1≤(t.Idxs.getD k JA).Col∧(t.Idxs.getD k JA).Col<(t.Cols.length:Int)∧0≤(t.Idxs.getD k JA).Stage∧(t.Idxs.getD k JA).Stage≤3
  rise:∀k,k+1<t.Idxs.length→(t.Idxs.getD k JA).Name<(t.Idxs.getD (k+1) JA).Name
theorem YL.of{t:ZA}(h:VB t=true):YL t:=by
  have hf:=eH h
  rw[CM]at h
  simp only[Bool.and_eq_true,decide_eq_true_eq,List.all_eq_true,List.mem_range]at h
  obtain⟨⟨⟨h1,h2⟩,h3⟩,h4⟩:=h
  have h5:∀k,k<t.Idxs.length→_:=fun k hk=>h4 k hk
  unfold PQ at h5
  simp only[Bool.and_eq_true]at h5
  refine⟨by have:=eL h1;omega,oM,h3,fun k hk=>?_,fun k hk=>?_⟩
  · obtain⟨⟨⟨a,b⟩,c⟩,d⟩:=h5 k hk
    have a:=eL a
    have b:=DK b
    have c:=DK c
    rw[sG oM]at b
    omega
  · have d:=(h5 (k+1) hk).2
    rw[sG oM,decide_eq_true (show 0<((k+1:Nat):Int)by omega)]at d
    have e:(((k+1:Nat):Int)-1).toNat=k:=by omega
    rw[e]at d
    exact(WU _ _).1 d
theorem QS{t:ZA}{n:KA}(h:jE t n=true):(2≤(t.Cols.length:Int)∧(t.Cols.length:Int)≤4∧(t.Idxs.length:Int)≤3)∧(0≤dC t n∧dC t n<(t.Idxs.length:Int))∧1≤(QB t n).Col∧(QB t n).Col<(t.Cols.length:Int):=by
  unfold jE at h
  obtain⟨h1,h2⟩:=gD h
  have h2:=of_decide_eq_true h2
  have h3:=sK t n
  rw[DG]at h1
  have hg:=YL.of h1
  refine⟨eH h1,⟨h2,h3.2⟩,?_⟩
  unfold QB
  have:=hg.idx (dC t n).toNat oM
  omega
theorem cU{t:ZA}{n:KA}(h:(sJ t n).2=true):(2≤(t.Cols.length:Int)∧(t.Cols.length:Int)≤4∧(t.Idxs.length:Int)≤3)∧(0≤oC t n∧oC t n<(t.Idxs.length:Int))∧1≤(sJ t n).1.Col∧(sJ t n).1.Col<(t.Cols.length:Int):=by
  unfold sJ at h ⊢
  cases h1:VB t
  · rw[h1]at h;cases h
  · rw[h1]at h
    simp only[cond_true]at h ⊢
    cases h2:decide (oC t n<0)
    · simp only[cond_false]
      have h2:=of_decide_eq_false h2
      have h3:=dK t n
      have:=(YL.of h1).idx (oC t n).toNat oM
      exact⟨eH h1,⟨by omega,h3.2⟩,by omega⟩
    · rw[h2]at h;cases h
theorem AV(t:ZA)(n:KA):jE t n=(sJ t n).2:=by
  unfold jE sJ
  rw[DG,bJ]
  cases VB t
  · rfl
  · simp only[cond_true]
    by_cases h:oC t n<0
    · rw[decide_eq_true h,decide_eq_false (show ¬0≤oC t n by omega)];rfl
    · rw[decide_eq_false h,decide_eq_true (show 0≤oC t n by omega)];rfl
theorem aO{t:ZA}{n:KA}(h:(sJ t n).2=true):(sJ t n).1=QB t n∧(QB t n).Name=n:=by
  have hf:=cU h
  unfold sJ at h ⊢
  unfold QB
  cases h1:VB t
  · rw[h1]at h;cases h
  · simp only[cond_true]
    rw[decide_eq_false (show ¬oC t n<0 by omega),bJ]
    refine⟨rfl,?_⟩
    rcases JO t n with⟨h,_⟩ | ⟨k,hk,h,h',_⟩
    · omega
    · rw[h];exact h'
theorem JP(t:ZA)(n:KA):(cD t n).length=t.Name.length+n.length+2:=by
  unfold cD
  simp only[lN];omega
def qG(r:rC):Prop:=∀v∈r.Vals,v.length≤3
theorem qG.getD{r:rC}(h:qG r)(k:Nat):(r.Vals.getD k kB).length≤3:=by
  rcases Nat.lt_or_ge k r.Vals.length with hk | hk
  · exact h _ (LF hk)
  · rw[List.getD_eq_getElem?_getD,List.getElem?_eq_none hk];exact Nat.zero_le _
theorem lU{t:ZA}{n:KA}{r:rC}(h:t.Name.length≤1∧n.length≤1)(hr:qG r){a b:Nat}:WE ((((cD t n)++(r.Vals.getD a kB))++([47]:KA))++(r.Vals.getD b kB)):=by
  have h1:=JP t n
  have h2:=hr.getD a
  have h3:=hr.getD b
  unfold WE
  simp only[lN];omega
theorem PN{t:ZA}{x:SE}{r:rC}(h:t.Name.length≤1∧x.Name.length≤1)(hr:qG r){a b:Nat}:WE ((((((t.Name++([46]:KA))++x.Name)++([47]:KA))++(r.Vals.getD a kB))++([47]:KA))++(r.Vals.getD b kB)):=by
  have h2:=hr.getD a
  have h3:=hr.getD b
  unfold WE
  simp only[lN];omega
theorem pL{s:KA}(h:xE s=true):1≤(s.length:Int)∧(s.length:Int)≤3:=by
  unfold xE at h
  exact DK (gD h).1
theorem EJ{t:ZA}{r:rC}(h:TD t r=true):r.Vals.length=t.Cols.length∧qG r:=by
  refine⟨IR h,fun v hv=>?_⟩
  rw[GK,Bool.and_eq_true]at h
  have:=pL (List.all_eq_true.1 h.1 v hv)
  omega
theorem uV{t:ZA}{r:rC}(h:qD t r=true):r.Vals.length=t.Cols.length∧qG r:=EJ (LN t r▸h)
theorem SS{t:ZA}{r:rC}(h:wL t r=true):(r.Vals.length=t.Cols.length∧2≤(t.Cols.length:Int)∧(t.Cols.length:Int)≤4∧(t.Idxs.length:Int)≤3)∧t.Name.length=1∧qG r:=by
  unfold wL at h
  obtain⟨h1,h2⟩:=gD h
  exact⟨⟨(EJ h2).1,eH h1⟩,(YL.of h1).name,(EJ h2).2⟩
theorem DO{t:ZA}{r:rC}(h:XG t r=true):(r.Vals.length=t.Cols.length∧2≤(t.Cols.length:Int)∧(t.Cols.length:Int)≤4∧(t.Idxs.length:Int)≤3)∧t.Name.length=1∧qG r:=SS (fP t r▸h)
theorem KL{t:ZA}{n:KA}(h:jE t n=true):(2≤(t.Cols.length:Int)∧(t.Cols.length:Int)≤4∧(t.Idxs.length:Int)≤3)∧(0≤dC t n∧dC t n<(t.Idxs.length:Int))∧1≤(QB t n).Col∧(QB t n).Col<(t.Cols.length:Int)∧0≤(QB t n).Stage∧(QB t n).Stage≤3∧t.Name.length=1∧n.length=1:=by
  have h0:=QS h
  unfold jE at h
  obtain⟨h1,h2⟩:=gD h
  rw[DG]at h1
  have hg:=YL.of h1
  have h3:=aO (t:=t) (n:=n) (by unfold sJ;rw[h1,cond_true,decide_eq_false (by have:=of_decide_eq_true h2;rw[bJ]at this;omega)];rfl)
  refine⟨h0.1,h0.2.1,h0.2.2.1,h0.2.2.2,?_⟩
  have h4:=hg.idx (dC t n).toNat oM
  have h5:(t.Idxs.getD (dC t n).toNat JA).Name=n:=h3.2
  rw[h5]at h4
  unfold QB
  exact⟨h4.2.2.2.1,h4.2.2.2.2,hg.name,h4.1⟩
theorem OW(t:ZA)(n:KA):QB t n=t.Idxs.getD (oC t n).toNat JA:=by unfold QB;rw[bJ]
theorem RJ(l:List iA):EC l=OI l:=by
  rw[LM]
  unfold EC
  rw[JT nA (fun w=>!w.Gone) (r:=false) fun k=>by
    unfold dH
    cases (l.getD k nA).Gone<;>rfl]
  cases TF l<;>cases (l.all fun w=>!w.Gone)<;>rfl
theorem yP(t:ZA)(n:KA):jE t n=true↔VB t=true∧0≤oC t n:=by
  unfold jE
  rw[DG,bJ]
  constructor
  · intro h
    obtain⟨h1,h2⟩:=gD h
    exact⟨h1,of_decide_eq_true h2⟩
  · rintro⟨h1,h2⟩
    rw[h1,decide_eq_true h2];rfl
theorem xT{t:ZA}(hw:GM t)(h:¬CE t 1048576<0):t.Cols.length≤2147483648∧t.Idxs.length≤2147483648:=by
  have:=(yE hw (by decide) h).1
  exact⟨this.2.1.1,this.2.2.1⟩
theorem lO{s:KA}(h:aF s=true):s.length≤12:=by
  unfold aF at h
  have:=DK (gD h).1
  omega
theorem mO{s:KA}(h:KF s=true):s.length≤24:=by
  unfold KF at h
  have:=of_decide_eq_true (gD h).1
  omega
theorem gT{k v:KA}{g:Bool}(h:ID k v g=true):k.length≤12∧v.length≤24:=by
  rw[BP,HO]at h
  simp only[Bool.and_eq_true]at h
  exact⟨lO h.1,mO h.2.1⟩
theorem vP{l:List iA}(h:TF l=true):l.length≤24∧∀k,k<l.length→(l.getD k nA).Key.length≤12∧(l.getD k nA).Val.length≤24:=by
  rw[bK,Bool.and_eq_true,decide_eq_true_eq]at h
  refine⟨by omega,fun k hk=>?_⟩
  have:=List.all_eq_true.1 h.1 k (List.mem_range.2 hk)
  rw[Bool.and_eq_true]at this
  exact gT this.1
theorem eV(s:KA)(c:UInt8):BE s [c]=Lib.indexByte s c:=by
  unfold BE AD CV
  have h:((([c]:KA).getD 0 0).toNat:Int).toNat.toUInt8=c:=by simp
  rw[h]
  cases hc:([c]:KA)==s
  · rfl
  · have:s=[c]:=(eq_of_beq hc).symm
    subst this
    simp[Lib.indexByte]
theorem PS{s p:KA}(h:kC s p=true):p.length≤s.length:=by
  unfold kC at h
  have:=of_decide_eq_true (gD h).1
  omega
theorem HR{t:ZA}{n:KA}{l:List iA}(h:iG t n l=true):t.Name.length≤1∧n.length≤1:=by
  unfold iG at h
  have:=KL (gD h).1
  omega
theorem eU(s:KA)(b:UInt8):lD s (b.toNat:Int)=sp b s:=by
  unfold lD
  refine ND (fun k (p:List KA×Int)=>0≤p.2∧p.2.toNat≤k∧b∉(s.take k).drop p.2.toNat∧p.1++sp b (s.drop p.2.toNat)=sp b s) (fun(v:List KA)=>v=sp b s) ⟨by omega,by simp,by simp,by simp⟩ ?_ ?_
  · rintro⟨x,a⟩ ⟨h1,h2,h3,h4⟩
    dsimp only at h1 h2 h3 h4 ⊢
    rw[show s.take (0+(s.length-0))=s from by rw[List.take_of_length_le oM]]at h3
    rw[VR h3]at h4
    exact h4
  · rintro j ⟨x,a⟩ _ hj ⟨h1,h2,h3,h4⟩
    have hj':j<s.length:=by omega
    unfold xG
    dsimp only at h1 h2 h3 h4 ⊢
    have ht:(s.take (j+1)).drop a.toNat=(s.take j).drop a.toNat++[s.getD j 0]:=by
      rw[DE hj',List.take_succ_eq_append_getElem hj',List.drop_append_of_le_length (by rw[List.length_take];omega)]
    have hd:s.drop a.toNat=(s.take j).drop a.toNat++s.getD j 0::s.drop (j+1):=by
      conv=>lhs;rw[←List.take_append_drop j s]
      rw[List.drop_append_of_le_length (by rw[List.length_take];omega),DE hj',List.drop_eq_getElem_cons hj']
    rw[zT]
    cases hc:s.getD j 0==b
    · refine⟨h1,oM,?_,h4⟩
      rw[ht]
      intro hm
      rcases List.mem_append.1 hm with hm | hm
      · exact h3 hm
      · rw[←List.mem_singleton.1 hm]at hc;simp at hc
    · have hb:s.getD j 0=b:=eq_of_beq hc
      refine⟨by omega,by simp,by simp,?_⟩
      rw[hd,hb,VN h3]at h4
      rw[←h4,List.append_assoc]
      show x++([_]++sp b (s.drop _))=_
      rw[show(((j+1:Nat):Int)).toNat=j+1 from by simp]
      rfl
theorem nW{a r:KA}{c:UInt8}(h:c∉a)(hl:a.length≤1073741824):iI (a++c::r) [c]=(a,r,true):=by
  have h1:BE (a++c::r) [c]=(a.length:Int):=by
    rw[eV]
    rcases fK c (a++c::r)with⟨h2,_⟩ | ⟨a',r',h2,h3,h4⟩
    · simp at h2
    · have:a'::sp c r'=a::sp c r:=by rw[←VN h3,←VN h,h2]
      rw[h4,(List.cons.inj this).1]
  unfold iI IG
  rw[h1,decide_eq_true oM]
  simp only[cond_true]
  rw[sG (by simp only[List.length_cons,List.length_nil];omega)]
  have h2:((a.length:Int)).toNat=a.length:=by simp
  have h3:((a.length:Int)+(([c]:KA).length:Int)).toNat=a.length+1:=by simp only[List.length_cons,List.length_nil];omega
  rw[h2,h3]
  simp
theorem vT{s:KA}(h:xE s=true):(47:UInt8)∉s:=by
  unfold xE at h
  obtain⟨_,h2⟩:=gD h
  rw[BJ,List.all_eq_true]at h2
  intro hm
  exact absurd (h2 _ hm) (by decide)
theorem VM(k p:KA):(iB k p).2=p.isPrefixOf k∧((iB k p).2=true→(iB k p).1=k.drop p.length):=by
  have h:kC k p=p.isPrefixOf k:=by
    unfold kC
    by_cases hp:p <+: k
    · obtain⟨r,rfl⟩:=hp
      rw[decide_eq_true (by rw[List.length_append];omega),cond_true,List.take_left]
      simp
    · rw[show p.isPrefixOf k=false from by rw[Bool.eq_false_iff];intro e;exact hp (List.isPrefixOf_iff_prefix.1 e)]
      cases hd:decide ((p.length:Int)≤(k.length:Int))
      · rfl
      · rw[cond_true,beq_eq_false_iff_ne]
        intro e
        exact hp (e▸List.take_prefix ..)
  unfold iB uC
  rw[h]
  cases p.isPrefixOf k<;>simp
theorem zP{l:List iA}(h:OI l=true):TF l=true:=by
  rw[LM,Bool.and_eq_true]at h
  exact h.1
theorem FK(sep x y:KA)(zs:List KA):sep.intercalate (x::y::zs)=x++(sep++sep.intercalate (y::zs)):=by
  simp[List.intercalate,List.intersperse]
theorem KM(sep x:KA):sep.intercalate [x]=x:=by simp[List.intercalate]
theorem KN(sep x:KA):∀xs:List KA,0<xs.length→sep.intercalate (xs++[x])=(sep.intercalate xs++sep)++x
  | [],h=>by simp at h
  | [y],_=>by show sep.intercalate (y::x::[])=_;rw[FK,KM,KM,List.append_assoc]
  | y::z::zs,_=>by
    show sep.intercalate (y::z::(zs++[x]))=_
    rw[FK,show z::(zs++[x])=(z::zs)++[x]from rfl,KN sep x (z::zs) (Nat.succ_pos _),FK]
    simp only[List.append_assoc]
theorem sL:∀xs:List KA,(∀x∈xs,x.length≤3)→(([44]:KA).intercalate xs).length≤4*xs.length
  | [],_=>Nat.zero_le _
  | [x],h=>by have:=h x (by simp);rw[KM,List.length_singleton];omega
  | x::y::zs,h=>by
    have h1:=h x (by simp)
    have h2:=sL (y::zs) fun z hz=>h z (List.mem_cons_of_mem _ hz)
    rw[FK,List.length_append,List.length_append,List.length_cons (as:=y::zs)]
    simp only[List.length_cons,List.length_nil]at h2 ⊢
    omega
theorem EV{r:rC}(h:r.Vals.length≤4)(hr:qG r):(UD (r.Vals.drop 1) ([44]:KA)).length≤1073741824:=by
  have:=sL (r.Vals.drop 1) fun x hx=>hr x (List.mem_of_mem_drop hx)
  rw[List.length_drop]at this
  unfold UD;omega
theorem mR(xs:List KA)(sep:KA):UI xs sep=UD xs sep:=by
  unfold UI UD
  refine ND (fun k (s:KA)=>s=sep.intercalate (xs.take k)) (fun(v:KA)=>v=sep.intercalate xs) rfl (fun s h=>by rw[h,List.take_of_length_le oM]) ?_
  intro j s _ hj hs
  have hj':j<xs.length:=by omega
  unfold aH
  dsimp only
  rw[List.take_succ_eq_append_getElem hj',DE hj']
  by_cases h0:0<j
  · rw[decide_eq_true oM,hs,KN _ _ _ (by rw[List.length_take];omega)];rfl
  · have:j=0:=by omega
    subst this
    rw[decide_eq_false oM,hs]
    show[]++_=_
    simp[List.intercalate]
theorem BM(t:ZA)(r:rC):OA t r=vB t r:=by
  unfold OA vB
  rw[mR]
theorem RS{s:Int}(h:IF s=true):0≤s∧s≤3:=oL h
theorem vU(s:KA)(b:Int):1≤(lD s b).length∧(lD s b).length≤s.length+1:=by
  unfold lD
  refine ND (fun k (p:List KA×Int)=>p.1.length≤k) (fun(v:List KA)=>1≤v.length∧v.length≤s.length+1) (Nat.zero_le _) ?_ ?_
  · rintro⟨x,a⟩ h1
    dsimp only at h1 ⊢
    rw[List.length_append,List.length_singleton];omega
  · rintro j ⟨x,a⟩ _ hj h1
    dsimp only at h1
    unfold xG
    dsimp only
    cases decide (((s.getD j 0).toNat:Int)=b)
    · exact Nat.le_succ_of_le h1
    · show(x++_).length≤_
      rw[List.length_append,List.length_singleton];omega
theorem lX(s sep:KA):1≤(xC s sep).length∧(xC s sep).length≤s.length+1:=⟨zY _ _,tO _ _⟩
theorem KS(s:KA):lD s 44=sp 44 s:=eU s 44
theorem KR{t:ZA}(h:VB t=true):t.Name.length≤1:=Nat.le_of_eq (YL.of h).name
theorem OY{t:ZA}(h:t.Name.length≤1):WE (t.Name++([47]:KA)):=by unfold WE;rw[List.length_append];show t.Name.length+1≤_;omega

theorem HW{t:ZA}{r:rC}(h:TD t r=true){v:KA}(hv:v∈r.Vals):1≤v.length∧v.length≤3:=by
  rw[GK,Bool.and_eq_true]at h
  have:=pL (List.all_eq_true.1 h.1 v hv)
  omega
def RN(w:iA):rC:=⟨[w.Key.drop 2]++lD w.Val 44⟩
theorem qS(s:KA):xC s ([44]:KA)=lD s 44:=(KS s).symm
theorem NS{p s k:KA}(h:s=p++k):p.isPrefixOf s=true:=by subst h;simp
theorem pN(t:ZA)(w:iA):HD t w=bif decide ((w.Key.length:Int)<3)then(⟨[]⟩,false)else(RN w,TD t (RN w)&&(((t.Name++([47]:KA))++w.Key.drop 2==w.Key)&&(((vB t (RN w)).Val==w.Val)&&(false==w.Gone)))):=by
  unfold HD
  cases decide ((w.Key.length:Int)<3)
  · show(bif TD t (RN w)then _ else _)=_
    cases TD t (RN w)<;>rfl
  · rfl
theorem qT{t:ZA}(hg:VB t=true)(w:iA):rB t w=bif(HD t w).2 then((HD t w).1,true)else(⟨[]⟩,false):=by
  have hn:=(YL.of hg).name
  have hpl:(t.Name++([47]:KA)).length=2:=by rw[List.length_append,hn];rfl
  obtain⟨c1,c2⟩:=VM w.Key (t.Name++([47]:KA))
  rw[hpl]at c2
  rw[pN]
  unfold rB
  rw[c1]
  cases hp:(t.Name++([47]:KA)).isPrefixOf w.Key
  · rw[cond_false]
    have hne:((t.Name++([47]:KA))++w.Key.drop 2==w.Key)=false:=by
      cases hh:((t.Name++([47]:KA))++w.Key.drop 2==w.Key)
      · rfl
      · rw[NS (eq_of_beq hh).symm]at hp;cases hp
    cases decide ((w.Key.length:Int)<3)
    · rw[cond_false,hne,Bool.false_and,Bool.and_false];rfl
    · rfl
  · rw[c1]at c2
    rw[cond_true,c2 hp,qS]
    show(bif qD t (RN w)then _ else _)=_
    rw[LN]
    cases hgd:TD t (RN w)
    · cases decide ((w.Key.length:Int)<3)<;>rfl
    · have h1:=HW hgd (v:=w.Key.drop 2) (List.mem_cons_self ..)
      rw[List.length_drop]at h1
      rw[decide_eq_false oM,cond_false,cond_true,Bool.true_and,BM]
      show(bif(w.Key==(t.Name++([47]:KA))++w.Key.drop 2)&&((w.Val==(vB t (RN w)).Val)&&(w.Gone==false))then _ else _)=_
      rw[BEq.comm (a:=w.Key),BEq.comm (a:=w.Val),BEq.comm (a:=w.Gone)]
      rfl
theorem PV{t:ZA}{w:iA}(h:(HD t w).2=true):TD t (HD t w).1=true:=by
  rw[pN]at h ⊢
  cases hd:decide ((w.Key.length:Int)<3)<;>rw[hd]at h
  · exact(Bool.and_eq_true _ _▸h).1
  · cases h
theorem OM{t:ZA}(hg:VB t=true)(l:List iA):eB t l=nB t l:=by
  unfold eB nB
  have:oE t l=bG t l:=by
    funext k x
    unfold oE bG
    rw[qT hg]
    cases (HD t (l.getD k nA)).2<;>rfl
  rw[this]
theorem uL(t:ZA)(l:List iA):(nB t l).length≤l.length∧∀y∈nB t l,TD t y=true:=by
  unfold nB
  refine ND (fun k (p:List rC)=>p.length≤k∧∀y∈p,TD t y=true) (fun(v:List rC)=>v.length≤l.length∧∀y∈v,TD t y=true) ⟨Nat.le_refl _,fun _ h=>by cases h⟩ (fun s hs=>⟨by have:=hs.1;omega,hs.2⟩) ?_
  intro j x _ _ ⟨h1,h2⟩
  unfold bG
  dsimp only
  cases h:(HD t (l.getD j nA)).2
  · exact⟨Nat.le_succ_of_le h1,h2⟩
  · refine⟨by rw[List.length_append,List.length_singleton];omega,fun y hy=>?_⟩
    rcases List.mem_append.1 hy with hy | hy
    · exact h2 y hy
    · rw[List.mem_singleton.1 hy];exact PV h
theorem eY(t:ZA)(l:List iA){k:Nat}(hk:k<(nB t l).length):TD t ((nB t l).getD k PD)=true:=(uL t l).2 _ (by rw[DE hk];exact List.getElem_mem hk)
theorem uN{t:ZA}(hg:VB t=true){l:List iA}{y:rC}(h:y∈eB t l):TD t y=true:=(uL t l).2 y (OM hg l▸h)
theorem TW{t:ZA}{n:KA}(h:jE t n=true)(r:rC):iD t n r=kG t (t.Idxs.getD (oC t n).toNat JA) r:=by
  obtain⟨h1,h2⟩:=(yP t n).1 h
  have hn:(sJ t n).2=true:=by
    unfold sJ
    rw[h1,decide_eq_false oM];rfl
  rw[←OW]
  unfold iD kG cD
  rw[(aO hn).2]
theorem MY{t:ZA}(h:VB t=true){k:Nat}(hk:k<t.Idxs.length):0≤(t.Idxs.getD k JA).Col∧(t.Idxs.getD k JA).Col<(t.Cols.length:Int)∧0≤(t.Idxs.getD k JA).Stage∧(t.Idxs.getD k JA).Stage≤3∧(t.Idxs.getD k JA).Name.length=1:=by
  obtain⟨a,b,c,d,e⟩:=(YL.of h).idx k hk
  exact⟨by omega,c,d,e,a⟩
theorem KP(n:Int):(VJ n).length=1:=rfl
theorem cJ{t:ZA}{n:KA}(h:jE t n=true):VB t=true:=by
  unfold jE at h
  rw[←DG]
  exact(gD h).1
theorem KT{t:ZA}{n:KA}{l:List iA}(h:XE t n l=true):VB t=true:=by
  unfold XE at h
  exact(gD h).1
theorem RX(t:ZA)(n:KA):oC t n<(t.Idxs.length:Int):=by
  have h:=sK t n
  rw[bJ]at h
  exact h.2
theorem gV{t:ZA}{n:KA}{l:List iA}(h:XE t n l=true):0≤oC t n∧oC t n<(t.Idxs.length:Int):=by
  unfold XE at h
  exact⟨of_decide_eq_true (gD (gD h).2).1,RX t n⟩
theorem RV{t:ZA}{n:KA}(h:jE t n=true)(l:List iA){k:Nat}(hk:k<(eB t l).length):((eB t l).getD k PD).Vals.length=t.Cols.length∧qG ((eB t l).getD k PD):=
  EJ (uN (cJ h) (l:=l) (LF hk))
theorem tN{t:ZA}{n:KA}(h:jE t n=true)(l:List iA):(eB t l).length≤l.length:=OM (cJ h) l▸(uL t l).1
theorem tT(t:ZA)(l:List iA){k:Nat}(hk:k<(nB t l).length):((nB t l).getD k PD).Vals.length=t.Cols.length∧qG ((nB t l).getD k PD):=EJ (eY t l hk)
theorem pT{t:ZA}{x:SE}{r:rC}(h:t.Name.length≤1∧x.Name.length≤1)(hr:qG r):WE (kG t x r):=PN h hr
theorem rT(t:ZA)(r:rC)(h:t.Name.length≤1)(hl:r.Vals.length≤4)(hr:qG r):(vB t r).Key.length≤5∧(vB t r).Val.length≤16:=by
  unfold vB
  dsimp only
  rw[mR]
  have h1:=sL (r.Vals.drop 1) fun x hx=>hr x (List.mem_of_mem_drop hx)
  rw[List.length_drop]at h1
  have h2:=hr.getD 0
  simp only[lN]
  unfold UD;omega
theorem wM{t:ZA}{r:rC}(h:t.Name.length≤1)(hl:r.Vals.length≤4)(hr:qG r):tB (vB t r):=by
  have:=rT t r h hl hr
  exact⟨by unfold WE;omega,by unfold WE;omega⟩
theorem rM{t:ZA}{r:rC}(h:XG t r=true):VB t=true∧qD t r=true∧(∀v∈r.Vals,xE v=true)∧2≤r.Vals.length∧r.Vals.length=t.Cols.length:=by
  have h1:=DO h
  unfold XG at h
  obtain⟨h2,h3⟩:=gD h
  have h4:=h3
  rw[LN,GK,Bool.and_eq_true]at h4
  exact⟨DG t▸h2,h3,List.all_eq_true.1 h4.1,oM,h1.1.1⟩
theorem uQ{t:ZA}{w:iA}(h:(qL t w).2=true):mN t (qL t w).1=(w,true):=by
  unfold qL at h ⊢
  cases hg:YC t
  · rw[hg]at h;cases h
  · rw[hg]at h
    dsimp only[cond_true]at h ⊢
    unfold rB at h ⊢
    revert h
    generalize (⟨(([(iB w.Key (t.Name++([47]:KA))).1]:List KA)++(xC w.Val ([44]:KA)))⟩:rC)=r
    intro h
    cases hc:(iB w.Key (t.Name++([47]:KA))).2
    · rw[hc]at h;cases h
    · rw[hc]at h
      dsimp only[cond_true]at h ⊢
      cases hr:qD t r
      · rw[hr]at h;cases h
      · rw[hr]at h
        dsimp only[cond_true]at h ⊢
        cases he:(w.Key==(OA t r).Key&&(w.Val==(OA t r).Val&&w.Gone==(OA t r).Gone))
        · rw[he]at h;cases h
        · dsimp only[cond_true]
          simp only[Bool.and_eq_true,beq_iff_eq]at he
          unfold mN XG
          rw[hg,cond_true,hr,cond_true]
          have:OA t r=w:=by
            cases w;cases hq:OA t r
            rw[hq]at he
            simp only[iA.mk.injEq]
            exact⟨he.1.symm,he.2.1.symm,he.2.2.symm⟩
          rw[this]
theorem RW{t:ZA}{n:KA}{r:rC}(h:XG t r=true)(hi:jE t n=true):(0≤(QB t n).Col∧(QB t n).Col<(r.Vals.length:Int))∧IN t n (iD t n r)=(r.Vals.getD ((QB t n).Col).toNat kB,r.Vals.getD 0 kB,true):=by
  obtain⟨hg,hr,hf,hl,hc⟩:=rM h
  have hcol:0≤(QB t n).Col∧(QB t n).Col<(r.Vals.length:Int):=by
    have:=KL hi
    omega
  refine⟨hcol,?_⟩
  have f1:=hf _ (LF (d:=kB) (i:=((QB t n).Col).toNat) oM)
  have f0:=hf _ (LF (d:=kB) (i:=0) oM)
  obtain⟨c1,c2⟩:=VM (iD t n r) (cD t n)
  have hk:iD t n r=cD t n++(r.Vals.getD (((QB t n).Col).toNat) kB++47::r.Vals.getD 0 kB):=by
    unfold iD
    simp only[List.append_assoc];rfl
  rw[NS hk]at c1
  have c3:=c2 c1
  rw[hk,List.drop_left' rfl]at c3
  have hs:=(DO h).2.2.getD ((QB t n).Col).toNat
  have hcut:=nW (r:=r.Vals.getD 0 kB) (vT f1) oM
  unfold IN
  rw[hi,cond_true]
  have:RH t n (iD t n r)=(r.Vals.getD ((QB t n).Col).toNat kB,r.Vals.getD 0 kB,true):=by
    unfold RH
    rw[c1,hk,c3,hcut,nN,nN]
    dsimp only[cond_true]
    rw[f1,f0];rfl
  rw[this]
theorem LP(t:ZA)(l:List iA):eB t l=(l.filter fun w=>(rB t w).2).map fun w=>(rB t w).1:=by
  unfold eB
  refine ND (fun k (p:List rC)=>p=((l.take k).filter fun w=>(rB t w).2).map fun w=>(rB t w).1) (fun(v:List rC)=>v=(l.filter fun w=>(rB t w).2).map fun w=>(rB t w).1) rfl (fun s h=>by rw[h,List.take_of_length_le oM]) ?_
  intro j s _ hj hs
  have hj':j<l.length:=by omega
  unfold oE
  dsimp only
  rw[List.take_succ_eq_append_getElem hj',List.filter_append,List.map_append,←hs,←DE (d:=nA) hj',List.filter_cons]
  cases (rB t (l.getD j nA)).2<;>simp
theorem vL{a b c:KA}(h1:LI a b=true)(h2:LI b c=true):LI a c=true:=by
  unfold LI at *
  rw[lK,decide_eq_true_eq]at *
  exact List.lt_trans h1 h2
theorem OK(a:KA):¬LI a a=true:=by
  unfold LI
  rw[lK,decide_eq_true_eq]
  exact List.lt_irrefl a
theorem IP{t:ZA}{w:iA}(hg:YC t=true)(h:(rB t w).2=true):XG t (rB t w).1=true∧OA t (rB t w).1=w:=by
  have e:qL t w=rB t w:=by unfold qL;rw[hg,cond_true]
  have h1:=uQ (t:=t) (w:=w) (by rw[e];exact h)
  rw[e]at h1
  unfold mN at h1
  cases hr:XG t (rB t w).1
  · rw[hr]at h1;cases h1
  · rw[hr]at h1
    exact⟨rfl,(Prod.mk.inj h1).1⟩
theorem dY(t:ZA)(r:rC):(OA t r).Key=(t.Name++([47]:KA))++r.Vals.getD 0 kB:=rfl
theorem rO(n:Int):(OF n).length≤2:=by
  unfold OF
  cases decide (n<0)
  · exact Nat.le_succ 1
  · show(([45]:KA)++VJ _).length≤2
    rw[List.length_append,KP];exact Nat.le_refl 2
theorem ZQ(n:Int):WE (OF n):=by
  have:=rO n
  unfold WE;omega
theorem pX(rows:List iA)(k:KA):(nF rows k).Key=k:=by
  unfold nF
  refine ND (fun _ _=>True) (fun(v:dE)=>v.Key=k) trivial (fun _ _=>rfl) (fun j s _ _ _=>?_)
  unfold CG
  dsimp only
  cases ((rows.getD j nA).Key==k)
  · trivial
  · rfl
theorem AU{buf:List iA}{got:List dE}{k:KA}(h:(zB buf got k).2.2=false):(got.any fun g=>g.Key==k)=false:=by
  revert h
  unfold zB
  refine ND (fun _ _=>True) (fun(v:KA×Bool×Bool)=>v.2.2=false→(got.any fun g=>g.Key==k)=false) trivial (fun _ _=>?_) (fun j s _ _ _=>?_)
  · refine ND (fun j _=>((got.take j).any fun g=>g.Key==k)=false) (fun(v:KA×Bool×Bool)=>v.2.2=false→(got.any fun g=>g.Key==k)=false) rfl (fun s hs _=>?_) (fun j s _ hj hs=>?_)
    · rw[List.take_of_length_le oM]at hs;exact hs
    · have hj':j<got.length:=by omega
      unfold cG
      dsimp only
      cases h1:((got.getD j HG).Key==k)
      · show((got.take (j+1)).any fun g=>g.Key==k)=false
        have hs:((got.take j).any fun g=>g.Key==k)=false:=hs
        rw[List.take_succ_eq_append_getElem hj',List.any_append,hs,←DE (d:=HG) hj',List.any_cons,h1];rfl
      · exact fun h=>by cases h
  · unfold xF
    cases ((buf.getD j nA).Key==k)
    · trivial
    · exact fun h=>by cases h
theorem YV{l:List AH}{got:List dE}(h:(SC l got).1=1):∃o∈l,(SC l got).2.1=o.Key∧(got.any fun g=>g.Key==o.Key)=false:=by
  revert h
  unfold SC
  refine ND (fun _ _=>True) (fun(v:Int×KA×List iA)=>v.1=1→∃o∈l,v.2.1=o.Key∧(got.any fun g=>g.Key==o.Key)=false) trivial (fun _ _ h=>?_) (fun j s _ hj _=>?_)
  · cases h
  · have hm:l.getD j PB∈l:=LF (d:=PB) oM
    unfold iC
    dsimp only
    cases hk:(zB s got (l.getD j PB).Key).2.2
    · have hn:=AU hk
      cases decide ((l.getD j PB).Kind=2)
      · cases decide ((l.getD j PB).Kind=3)
        · exact fun _=>⟨_,hm,rfl,hn⟩
        · cases tD (l.getD j PB) ((zB s got (l.getD j PB).Key).1) ((zB s got (l.getD j PB).Key).2.1)
          · trivial
          · exact fun h=>by cases h
      · cases tD (l.getD j PB) ((zB s got (l.getD j PB).Key).1) ((zB s got (l.getD j PB).Key).2.1)
        · trivial
        · exact fun h=>by cases h
    · cases tD (l.getD j PB) ((zB s got (l.getD j PB).Key).1) ((zB s got (l.getD j PB).Key).2.1)
      · cases decide ((l.getD j PB).Kind=2)
        · cases decide ((l.getD j PB).Kind=3)
          · cases decide ((l.getD j PB).Kind=4)
            · trivial
            · cases (zB s got (l.getD j PB).Key).2.1<;>trivial
          · trivial
        · trivial
      · exact fun h=>by cases h
theorem pM{α:Type}{p q:α→Bool}(hpq:∀x,q x=true→p x=true):∀{l:List α},(∃x∈l,p x=true∧q x=false)→(l.filter q).length<(l.filter p).length
  | [],h=>by obtain⟨x,hx,_⟩:=h;cases hx
  | y::l,h=>by
    have hle:∀l:List α,(l.filter q).length≤(l.filter p).length:=fun l=>by
      induction l with
      | nil=>exact Nat.le_refl _
      | cons y l ih=>cases hq:q y<;>cases hp:p y<;>simp[hq,hp]<;>first | omega | (have:=hpq y hq;rw[hp]at this;cases this)
    obtain⟨x,hx,h1,h2⟩:=h
    rcases List.mem_cons.1 hx with rfl | hx
    · have:=hle l;simp[h1,h2];omega
    · have ih:=pM hpq ⟨x,hx,h1,h2⟩
      cases hq:q y<;>cases hp:p y<;>simp[hq,hp]<;>first | omega | (have:=hpq y hq;rw[hp]at this;cases this)
theorem kP{rows:List iA}{l:List AH}{got:List dE}(h:(SC l got).1=1):(l.filter fun o=>!((got++([(nF rows ((SC l got).2.1))]:List dE)).any fun g=>g.Key==o.Key)).length<(l.filter fun o=>!(got.any fun g=>g.Key==o.Key)).length:=by
  obtain⟨o,ho,hk,hn⟩:=YV h
  refine pM (fun x hx=>?_) ⟨o,ho,by rw[hn];rfl,?_⟩
  · rw[List.any_append,Bool.not_or,Bool.and_eq_true]at hx;exact hx.1
  · rw[List.any_append,hk]
    simp[pX]
theorem vW(l:List AH):([]:List dE).length+(l.filter fun o=>!(([]:List dE).any fun g=>g.Key==o.Key)).length≤l.length:=by
  rw[List.length_nil,Nat.zero_add];exact List.length_filter_le _ _
theorem qN{l:List iA}(h:EC l=true):l.length≤24:=by
  rw[RJ]at h
  exact(vP (zP h)).1
theorem VU{rows:List iA}{f:List AH}{got:List dE}{x:List iA}{d:Bool}(hr:EC rows=true)(hf:KG f=true)(ha:UB rows f=(got,x,d)):cC rows [f]=bif d&&EC (TB rows x)then(TB rows x,[true],true)else(rows,[false],true):=by
  unfold cC
  rw[hr,cond_true]
  have b0:mE rows [f] 0 ()=.cont ():=by
    unfold mE
    show(bif KG f then _ else _)=_
    rw[hf];rfl
  have e0:FA (mE rows [f]) (([f]:List (List AH)).length-0) 0 ()=.done ():=by
    show FA (mE rows [f]) 1 0 ()=_
    simp only[FA,b0]
  have b1:bE rows [f] 0 (rows,[])=.cont (bif d&&EC (TB rows x)then(TB rows x,[true])else(rows,[false])):=by
    unfold bE
    show(bif(UB rows f).2.2 then bif EC (TB rows (UB rows f).2.1)then _ else _ else _)=_
    rw[ha]
    cases d
    · rfl
    · cases h:EC (TB rows x)
      · simp only[cond_true,cond_false,Bool.true_and,h]
        show WH.cont (rows,[]++[EC (TB rows (UB rows f).2.1)])=_
        rw[ha];simp only[h];rfl
      · simp only[cond_true,cond_false,Bool.true_and,h]
        show WH.cont (TB rows (UB rows f).2.1,[]++[EC (TB rows (UB rows f).2.1)])=_
        rw[ha];simp only[h];rfl
  have e1:FA (bE rows [f]) (([f]:List (List AH)).length-0) 0 ((([]:List iA)++rows),([]:List Bool))=.done (bif d&&EC (TB rows x)then(TB rows x,[true])else(rows,[false])):=by
    show FA (bE rows [f]) 1 0 (rows,[])=_
    simp only[FA,b1]
  rw[e0,e1]
  cases d&&EC (TB rows x)<;>rfl

theorem MN{s:KA}(h:xE s=true):∀b∈s,∀more:KA,IJ more b=true:=by
  unfold xE at h
  obtain⟨_,h2⟩:=gD h
  rw[BJ,List.all_eq_true]at h2
  intro b hb more
  have:=h2 b hb
  unfold IJ at this ⊢
  rw[Bool.or_eq_true]at this ⊢
  rcases this with h | h
  · exact Or.inl h
  · cases h
theorem oN{s:KA}{m:Int}(h:JB s m=true):∀b∈s,IJ ([46,47]:KA) b=true:=by
  rw[XM,Bool.and_eq_true,Bool.and_eq_true,List.all_eq_true]at h
  intro b hb
  have h1:=h.1.1 b hb
  unfold EP at h1
  rw[Bool.and_eq_true,Bool.not_eq_true',Bool.not_eq_true',decide_eq_false_iff_not,decide_eq_false_iff_not]at h1
  unfold IJ sD
  rw[decide_eq_true (show(97:Int)≤(b.toNat:Int)by omega),decide_eq_true (show(b.toNat:Int)≤122 by omega)];rfl
theorem cT{t:ZA}{n:KA}(h:jE t n=true):JB t.Name 1=true∧JB n 1=true:=by
  have h2:=aO (AV t n▸h)
  obtain⟨h3,h4⟩:=(yP t n).1 h
  have h5:=dK t n
  rw[OW]at h2
  rw[CM]at h3
  simp only[Bool.and_eq_true,List.all_eq_true,List.mem_range]at h3
  have h6:=h3.2 (oC t n).toNat oM
  unfold PQ at h6
  simp only[Bool.and_eq_true]at h6
  have h7:=h6.1.1.1
  rw[h2.2]at h7
  exact⟨h3.1.1.1,h7⟩
theorem fT{s:KA}(h1:1≤s.length)(h2:s.length≤12)(h:∀b∈s,IJ ([46,47]:KA) b=true):aF s=true:=by
  unfold aF xD
  rw[decide_eq_true oM,cond_true,decide_eq_true oM,cond_true,BJ,List.all_eq_true];exact h
theorem UW{s:KA}(h2:s.length≤24)(h:∀b∈s,IJ ([46,45,44,95]:KA) b=true):KF s=true:=by
  unfold KF
  rw[decide_eq_true oM,cond_true,BJ,List.all_eq_true];exact h
theorem GO:∀(xs:List KA),∀b∈([44]:KA).intercalate xs,b=44∨∃x∈xs,b∈x
  | [],b,h=>by simp[List.intercalate]at h
  | [x],b,h=>by rw[KM]at h;exact Or.inr ⟨x,by simp,h⟩
  | x::y::zs,b,h=>by
    rw[FK]at h
    rcases List.mem_append.1 h with h | h
    · exact Or.inr ⟨x,by simp,h⟩
    · rcases List.mem_append.1 h with h | h
      · exact Or.inl (List.mem_singleton.1 h)
      · rcases GO (y::zs) b h with h | ⟨z,hz,h⟩
        · exact Or.inl h
        · exact Or.inr ⟨z,List.mem_cons_of_mem _ hz,h⟩
theorem EW{t:ZA}{r:rC}(h:XG t r=true){k:Nat}(hk:k<r.Vals.length):xE (r.Vals.getD k kB)=true:=(rM h).2.2.1 _ (LF hk)
theorem QV{t:ZA}{r:rC}{n:KA}(h:XG t r=true)(hi:jE t n=true):aF (OA t r).Key=true∧KF (OA t r).Val=true∧aF (iD t n r)=true:=by
  obtain⟨hg,hr,hf,hl,hc⟩:=rM h
  obtain⟨hn1,hn2⟩:=cT hi
  have ln1:=eL hn1
  have ln2:=eL hn2
  have hcol:=(RW h hi).1
  have f0:=EW h (k:=0) oM
  have f1:=EW h (k:=((QB t n).Col).toNat) oM
  have l0:=pL f0
  have l1:=pL f1
  have hc4:=(YL.of hg).cols
  refine⟨?_,?_,?_⟩
  · rw[dY]
    refine fT (by simp only[lN];omega) (by simp only[lN];omega) fun b hb=>?_
    simp only[List.mem_append,List.mem_singleton]at hb
    rcases hb with(hb | hb) | hb
    · exact oN hn1 b hb
    · rw[hb];decide
    · exact MN f0 b hb _
  · show KF (UD (r.Vals.drop 1) ([44]:KA))=true
    unfold UD
    have hs:∀x∈r.Vals.drop 1,xE x=true:=fun x hx=>hf x (List.mem_of_mem_drop hx)
    have h1:=sL (r.Vals.drop 1) fun x hx=>by have:=pL (hs x hx);omega
    rw[List.length_drop]at h1
    refine UW oM fun b hb=>?_
    rcases GO _ b hb with hb | ⟨x,hx,hb⟩
    · rw[hb];decide
    · exact MN (hs x hx) b hb _
  · unfold iD cD
    refine fT (by simp only[lN];omega) (by simp only[lN];omega) fun b hb=>?_
    simp only[List.mem_append,List.mem_singleton]at hb
    rcases hb with(((((hb | hb) | hb) | hb) | hb) | hb) | hb
    · exact oN hn1 b hb
    · rw[hb];decide
    · exact oN hn2 b hb
    · rw[hb];decide
    · exact MN f1 b hb _
    · rw[hb];decide
    · exact MN f0 b hb _
theorem IW(l:List AH)(h:l.all sE=true)(hl:l.length≤8):KG l=true:=by
  unfold KG
  rw[JT PB sE (r:=false) fun k=>rfl,h,cond_true,decide_eq_true oM]
theorem nZ{k v:KA}(hk:aF k=true)(hv:KF v=true):sE ⟨7,k,v,0⟩=true:=by
  unfold sE
  show(bif aF k then bif KF v then true else false else _)=true
  rw[hk,hv];rfl
theorem RY{k v:KA}(hk:aF k=true)(hv:KF v=true):sE ⟨2,k,v,0⟩=true:=by
  unfold sE
  show(bif aF k then bif KF v then true else false else _)=true
  rw[hk,hv];rfl
theorem mY:KF ([]:KA)=true:=rfl
def eR(y:rC):cP:=⟨y.Vals.getD 1 kB,y.Vals.getD 0 kB⟩
theorem XU{a b:KA}(h1:LI a b=false)(h2:LI b a=false):a=b:=by
  have h3:KI a b=true:=by rw[PL,h2];rfl
  unfold KI at h3
  rw[h1,Bool.false_or]at h3
  exact eq_of_beq h3
theorem EY(x y:KA):decide (cS x y<0)=LI x y:=by
  unfold cS
  cases LI x y
  · cases KI x y<;>rfl
  · rfl
theorem IX(x y:KA):decide (cS x y=0)=decide (x=y):=by
  by_cases h:x=y
  · subst h
    rw[decide_eq_true rfl]
    unfold cS
    have h1:LI x x=false:=by cases h:LI x x;rfl;exact absurd h (OK x)
    have h2:KI x x=true:=by unfold KI;rw[beq_self_eq_true,Bool.or_true]
    rw[h1,h2];rfl
  · rw[decide_eq_false h]
    unfold cS
    cases h1:LI x y
    · cases h2:KI x y
      · rfl
      · unfold KI at h2
        rw[h1,Bool.false_or]at h2
        exact absurd (eq_of_beq h2) h
    · rfl
theorem gY(a:KA):LI a a=false:=by cases h:LI a a;rfl;exact absurd h (OK a)
theorem uT{a b:KA}(h:LI a b=true):LI b a=false:=by
  cases h2:LI b a
  · rfl
  · exact absurd (vL h h2) (OK _)
theorem MT{i j:Int}(h0:0≤i)(h1:i<j)(h2:j≤2147483648):IntKind.wrap .i64 (Int.fdiv (IntKind.wrap .u64 (IntKind.wrap .i64 (i+j))) 2)=(i+j) / 2:=by
  rw[show IntKind.wrap .i64 (i+j)=i+j from sG oM,show IntKind.wrap .u64 (i+j)=i+j by simp[IntKind.wrap,IntKind.bits,IntKind.signed];omega,Int.fdiv_eq_ediv_of_nonneg _ oM]
  exact sG oM
theorem DY(l:List iA)(k:KA)(f:iA→KA→Int)(hl:l.length≤2147483648):(0≤(IB l k f).1∧(IB l k f).1≤(l.length:Int))∧((IB l k f).2=true→(IB l k f).1<(l.length:Int)):=by
  unfold IB
  refine xK (body:=CB l k f) (fun(p:Int×Int)=>0≤p.1∧p.1≤p.2∧p.2≤(l.length:Int)) (fun p=>(p.2-p.1).toNat) (fun(v:Int×Bool)=>(0≤v.1∧v.1≤(l.length:Int))∧(v.2=true→v.1<(l.length:Int))) ?_ _ (0,(l.length:Int)) ⟨oM,(by show(0:Int)≤(l.length:Int);omega),Int.le_refl _⟩ (by show((l.length:Int)-0).toNat<_;omega)
  rintro⟨a,b⟩ ⟨h0,h1,h2⟩
  dsimp only at h0 h1 h2
  unfold CB
  dsimp only
  cases hd:decide (a<b)
  · dsimp only[cond_false]
    show(0≤(bif decide (a<(l.length:Int))then _ else _:Int×Bool).1∧_)∧_
    cases hd2:decide (a<(l.length:Int))
    · exact⟨⟨h0,by show a≤_;omega⟩,fun h=>by cases h⟩
    · have:=of_decide_eq_true hd2
      exact⟨⟨h0,by show a≤_;omega⟩,fun _=>this⟩
  · have hlt:=of_decide_eq_true hd
    have hm:=MT h0 hlt oM
    rw[hm]
    have hw:IntKind.wrap .i64 ((a+b) / 2+1)=(a+b) / 2+1:=sG oM
    dsimp only[cond_true]
    show WH.sat _ _ _ (bif _ then _ else _)
    cases decide (f (l.getD ((a+b) / 2).toNat nA) k<0)
    · exact⟨⟨h0,by show a≤(a+b) / 2;omega,by show(a+b) / 2≤_;omega⟩,by show((a+b) / 2-a).toNat<(b-a).toNat;omega⟩
    · rw[hw]
      exact⟨⟨by show 0≤(a+b) / 2+1;omega,by show(a+b) / 2+1≤b;omega,h2⟩,by show(b-((a+b) / 2+1)).toNat<(b-a).toNat;omega⟩
theorem UJ(l:List iA)(k:KA)(hl:l.length≤2147483648):(0≤(WB l k).1∧(WB l k).1≤(l.length:Int))∧((WB l k).2=true→(WB l k).1<(l.length:Int)):=DY l k _ hl
theorem nM{l:List iA}{k:KA}(h:(WB l k).2=true)(hl:l.length≤2147483648):(WB l k).1<(l.length:Int):=(UJ l k hl).2 h
theorem nL(l:List iA):(SA l).length=l.length:=rfl
theorem LL{l:List iA}(h:OI l=true):l.length≤24:=(vP (zP h)).1
theorem IV{l:List AH}(hl:l.length≤100)(h:∀y∈l,y.Kind≠4):∀x∈([l]:List (List AH)),x.length≤100∧∀y∈x,y.Kind≠4:=fun x hx=>by rw[List.mem_singleton.1 hx];exact⟨hl,h⟩
theorem rK(l:List iA)(w:iA):(iE l w).length≤l.length+1:=by
  unfold iE
  cases (WB l w.Key).2
  · show(l.take _++w::l.drop _).length≤_
    rw[List.length_append,List.length_cons,List.length_take,List.length_drop];omega
  · show(l.set _ _).length≤_
    rw[List.length_set];omega
theorem LS{buf:List iA}{got:List dE}{k:KA}(h:(MD k buf got).2.2=false):(got.any fun g=>g.Key==k)=false:=by
  revert h
  unfold MD
  cases (WB buf k).2
  · rw[cond_false]
    refine ND (fun j _=>((got.take j).any fun g=>g.Key==k)=false) (fun(v:KA×Bool×Bool)=>v.2.2=false→(got.any fun g=>g.Key==k)=false) rfl (fun s hs _=>?_) (fun j s _ hj hs=>?_)
    · rw[List.take_of_length_le oM]at hs;exact hs
    · have hj':j<got.length:=by omega
      unfold wG
      dsimp only
      cases h1:((got.getD j HG).Key==k)
      · show((got.take (j+1)).any fun g=>g.Key==k)=false
        have hs:((got.take j).any fun g=>g.Key==k)=false:=hs
        rw[List.take_succ_eq_append_getElem hj',List.any_append,hs,←DE (d:=HG) hj',List.any_cons,h1];rfl
      · exact fun h=>by cases h
  · exact fun h=>by cases h
theorem BU{l:List AH}{got:List dE}(h:(IC l got).1=1):∃o∈l,(IC l got).2.1=o.Key∧(got.any fun g=>g.Key==o.Key)=false:=by
  revert h
  unfold IC
  refine ND (fun _ _=>True) (fun(v:Int×KA×List iA)=>v.1=1→∃o∈l,v.2.1=o.Key∧(got.any fun g=>g.Key==o.Key)=false) trivial (fun _ _ h=>?_) (fun j s _ hj _=>?_)
  · cases h
  · have hm:l.getD j PB∈l:=LF (d:=PB) oM
    unfold NC
    dsimp only
    cases decide ((l.getD j PB).Kind=2)
    · cases decide ((l.getD j PB).Kind=3)
      · cases hk:(MD (l.getD j PB).Key s got).2.2
        · exact fun _=>⟨_,hm,rfl,LS hk⟩
        · cases FD (l.getD j PB) ((MD (l.getD j PB).Key s got).1) ((MD (l.getD j PB).Key s got).2.1)
          · exact fun h=>by cases h
          · trivial
      · trivial
    · trivial
theorem zV(rows:List iA)(k:KA):(gG rows k).Key=k:=by
  unfold gG
  cases (WB rows k).2<;>rfl
theorem DQ{rows:List iA}{l:List AH}{got:List dE}(_:∀y∈l,y.Kind≠4)(h:(IC l got).1=1):(l.filter fun o=>!((got++([(gG rows ((IC l got).2.1))]:List dE)).any fun g=>g.Key==o.Key)).length<(l.filter fun o=>!(got.any fun g=>g.Key==o.Key)).length:=by
  obtain⟨o,ho,hk,hn⟩:=BU h
  refine pM (fun x hx=>?_) ⟨o,ho,by rw[hn];rfl,?_⟩
  · rw[List.any_append,Bool.not_or,Bool.and_eq_true]at hx;exact hx.1
  · rw[List.any_append,hk]
    simp[zV]
theorem sU(r w:List iA):(nG r w).1.length≤24:=by
  unfold nG
  refine ND (fun _ _=>True) (fun(v:List iA×Bool)=>v.1.length≤24) trivial (fun s _=>?_) (fun j s _ _ _=>?_)
  · cases hd:decide (24<((MC s fun y0=>EH y0).length:Int))
    · have:=of_decide_eq_false hd
      show(MC s fun y0=>EH y0).length≤24
      omega
    · exact Nat.zero_le _
  · trivial
theorem xU(s:List iA)(o:List AH):(tF s o).1.length≤s.length∨(tF s o).1.length≤24:=by
  unfold tF
  cases (wE s o).2.2
  · exact .inl (Nat.le_refl _)
  · cases (nG s (wE s o).2.1).2
    · exact .inl (Nat.le_refl _)
    · exact .inr (sU _ _)
theorem LU{l:List nE}{f:nE→Bool}{n:Nat}(h:∀y∈l,y.ops.length≤100∧∀o∈y.ops,o.Kind≠4)(hn:n<(BA (TA l) f).length):((BA (TA l) f).getD n wH).ops.length≤100∧∀o∈((BA (TA l) f).getD n wH).ops,o.Kind≠4:=
  h _ (List.mem_filter.1 (LF hn)).1

def Up(l:List iA):Prop:=l.Pairwise fun a b=>LI a.Key b.Key=true
structure mS (l:List iA) (k:KA) (i:Nat):Prop where
  le:i≤l.length
  lo:∀j (h:j<l.length),j<i→LI l[j].Key k=true
  hi:∀j (h:j<l.length),i≤j→LI l[j].Key k=false
theorem mS.uniq{l:List iA}{k:KA}{i i':Nat}(h:mS l k i)(h':mS l k i'):i=i':=by
  rcases Nat.lt_trichotomy i i' with h1 | h1 | h1
  · have hl:i<l.length:=by have:=h'.le;omega
    have a:=h'.lo i hl h1
    rw[h.hi i hl (Nat.le_refl _)]at a;cases a
  · exact h1
  · have hl:i'<l.length:=by have:=h.le;omega
    have a:=h.lo i' hl h1
    rw[h'.hi i' hl (Nat.le_refl _)]at a;cases a
theorem Up.lt{l:List iA}(h:Up l){i j:Nat}(hi:i<l.length)(hj:j<l.length)(hij:i<j):LI l[i].Key l[j].Key=true:=List.pairwise_iff_getElem.1 h i j hi hj hij
theorem Up.down{l:List iA}(h:Up l){m:Nat}{k:KA}(hm:m<l.length)(hk:LI l[m].Key k=true):∀j (h:j<l.length),j≤m→LI l[j].Key k=true:=fun j hj hjm=>by
  rcases Nat.lt_or_ge j m with hlt | hge
  · exact vL (h.lt hj hm hlt) hk
  · obtain rfl:j=m:=by omega
    exact hk
theorem Up.up{l:List iA}(h:Up l){m:Nat}{k:KA}(hm:m<l.length)(hk:LI l[m].Key k=false):∀j (h:j<l.length),m≤j→LI l[j].Key k=false:=fun j hj hjm=>by
  cases hh:LI l[j].Key k
  · rfl
  · rw[h.down hj hh m hm hjm]at hk;cases hk
def JR(l:List iA)(k:KA)(i:Nat):Bool:=decide (i<l.length)&&((l.getD i nA).Key==k)
theorem bL{l:List iA}{k:KA}{i:Nat}:JR l k i=true↔∃h:i<l.length,l[i].Key=k:=by
  unfold JR
  rw[Bool.and_eq_true,decide_eq_true_eq]
  constructor
  · rintro⟨h,e⟩;refine⟨h,?_⟩;rw[DE h]at e;exact eq_of_beq e
  · rintro⟨h,e⟩;refine⟨h,?_⟩;rw[DE h,e];exact beq_self_eq_true _
theorem mS.fnd_at{l:List iA}(hu:Up l){k:KA}{j:Nat}(hj:j<l.length)(e:l[j].Key=k):mS l k j where
  le:=by omega
  lo i hi hij:=e▸hu.lt hi hj hij
  hi i hi hij:=hu.up hj (by rw[e];exact gY k) i hi hij
theorem FY(x y:KA):KC x y=cS x y:=by
  unfold KC IE cS
  rw[beq_self_eq_true,beq_self_eq_true];rfl
theorem JM{l:List iA}(hu:Up l)(hl:l.length≤2147483648)(k:KA):∃i,mS l k i∧WB l k=((i:Int),JR l k i):=by
  have hf:(fun y0 y1=>SH y0 y1)=fun(y0:iA) (y1:KA)=>cS y0.Key y1:=by funext y0 y1;exact FY _ _
  unfold WB
  rw[hf]
  suffices h:∃i,mS l k i∧IB l k (fun y0 y1=>cS y0.Key y1)=((i:Int),JR l k i)by
    obtain⟨i,h1,h2⟩:=h;exact⟨i,h1,by rw[h2]⟩
  unfold IB
  refine xK (body:=CB l k fun y0 y1=>cS y0.Key y1) (fun(p:Int×Int)=>(0≤p.1∧p.1≤p.2∧p.2≤(l.length:Int))∧(∀j (h:j<l.length),(j:Int)<p.1→LI l[j].Key k=true)∧∀j (h:j<l.length),p.2≤(j:Int)→LI l[j].Key k=false) (fun p=>(p.2-p.1).toNat) (fun(v:Int×Bool)=>∃i,mS l k i∧v=((i:Int),JR l k i)) ?_ _ (0,(l.length:Int)) ⟨⟨by omega,(by show(0:Int)≤(l.length:Int);omega),Int.le_refl _⟩,fun j _ h=>by dsimp only at h;omega,fun j h h2=>by dsimp only at h2;omega⟩ (by show((l.length:Int)-0).toNat<_;omega)
  rintro⟨a,b⟩ ⟨⟨h0,h1,h2⟩,h3,h4⟩
  dsimp only at h0 h1 h2 h3 h4
  unfold CB
  dsimp only
  cases hd:decide (a<b)
  · have hge:=of_decide_eq_false hd
    have hp:mS l k a.toNat:=⟨by omega,fun j h hj=>h3 j h oM,fun j h hj=>h4 j h oM⟩
    dsimp only[cond_false]
    show ∃i,mS l k i∧(bif decide (a<(l.length:Int))then(a,decide (cS (l.getD a.toNat nA).Key k=0))else(a,false))=((i:Int),JR l k i)
    refine⟨a.toNat,hp,?_⟩
    rw[show((a.toNat:Nat):Int)=a by omega]
    unfold JR
    by_cases hl2:a<(l.length:Int)
    · rw[decide_eq_true hl2,decide_eq_true (show a.toNat<l.length by omega),IX]
      show(a,_)=(a,_)
      congr 1
      rw[Bool.eq_iff_iff,decide_eq_true_eq,Bool.true_and]
      exact⟨fun e=>by rw[e];exact beq_self_eq_true _,eq_of_beq⟩
    · rw[decide_eq_false hl2,decide_eq_false (show ¬a.toNat<l.length by omega)];rfl
  · have hlt:=of_decide_eq_true hd
    have hm:=MT h0 hlt oM
    rw[hm,EY]
    have hw:IntKind.wrap .i64 ((a+b) / 2+1)=(a+b) / 2+1:=sG oM
    have hml:((a+b) / 2).toNat<l.length:=by omega
    rw[DE hml]
    dsimp only[cond_true]
    show WH.sat _ _ _ (bif _ then _ else _)
    cases hs:LI l[((a+b) / 2).toNat].Key k
    · exact⟨⟨⟨h0,by show a≤(a+b) / 2;omega,by show(a+b) / 2≤_;omega⟩,h3,fun j h hj=>hu.up hml hs j h (by dsimp only at hj;omega)⟩,by show((a+b) / 2-a).toNat<(b-a).toNat;omega⟩
    · rw[hw]
      exact⟨⟨⟨by show 0≤(a+b) / 2+1;omega,by show(a+b) / 2+1≤b;omega,h2⟩,fun j h hj=>hu.down hml hs j h (by dsimp only at hj;omega),h4⟩,by show(b-((a+b) / 2+1)).toNat<(b-a).toNat;omega⟩
theorem rU{l:List iA}(hu:Up l)(hl:l.length≤2147483648)(k:KA):∃i,mS l k i:=by
  obtain⟨i,h,_⟩:=JM hu hl k;exact⟨i,h⟩
def QN(l:List iA)(w:iA)(i:Nat):List iA:=bif JR l w.Key i then l.set i w else l.take i++w::l.drop i
theorem uU{l:List iA}(hu:Up l)(hl:l.length≤2147483648)(w:iA){i:Nat}(hp:mS l w.Key i):iE l w=QN l w i:=by
  obtain⟨i',h,e⟩:=JM hu hl w.Key
  obtain rfl:=hp.uniq h
  unfold iE QN
  rw[e];rfl
theorem SR{l:List iA}(hu:Up l)(hl:l.length≤1000000)(w:iA){i:Nat}(hp:mS l w.Key i):RC l w=QN l w i:=by
  unfold RC
  refine xK (body:=HF l w) (fun(x:Int)=>(0≤x∧x≤(l.length:Int))∧∀j (h:j<l.length),x≤(j:Int)→LI w.Key l[j].Key=true) (fun x=>x.toNat) (fun(v:List iA)=>v=QN l w i) ?_ _ _ ⟨⟨by omega,Int.le_refl _⟩,fun j h h2=>by omega⟩ oM
  rintro x ⟨⟨h0,h1⟩,h2⟩
  unfold HF
  dsimp only
  have hi:=hp.le
  have key:(0<x→∀h:x.toNat-1<l.length,KI l[x.toNat-1].Key w.Key=true)→((bif decide (0<x)then(bif(l.getD (IntKind.wrap .i64 (x-1)).toNat nA).Key==w.Key then((([]:List iA)++l).set (IntKind.wrap .i64 (x-1)).toNat w)else(((([]:List iA)++(l.take x.toNat))++([w]:List iA))++(([]:List iA)++(l.drop x.toNat))))else(((([]:List iA)++(l.take x.toNat))++([w]:List iA))++(([]:List iA)++(l.drop x.toNat)))):List iA)=QN l w i:=fun hx=>by
    have hins:∀q:Nat,(((([]:List iA)++(l.take q))++([w]:List iA))++(([]:List iA)++(l.drop q)))=l.take q++w::l.drop q:=fun q=>by simp
    rw[hins]
    by_cases hx0:0<x
    · rw[decide_eq_true hx0,cond_true,sG oM,show(x-1).toNat=x.toNat-1 by omega]
      have hxl:x.toNat-1<l.length:=by omega
      have hle:=hx hx0 hxl
      rw[DE hxl]
      unfold KI at hle
      cases he:(l[x.toNat-1].Key==w.Key)
      · rw[he,Bool.or_false]at hle
        have e:i=x.toNat:=hp.uniq ⟨by omega,fun j h hj=>hu.down hxl hle j h oM,fun j h hj=>uT (h2 j h oM)⟩
        have hnf:JR l w.Key i=false:=by
          rw[←Bool.not_eq_true,bL]
          rintro⟨h,h3⟩
          have:=h2 i h oM
          rw[h3]at this;exact OK _ this
        unfold QN
        rw[hnf,e];rfl
      · have e:i=x.toNat-1:=hp.uniq (mS.fnd_at hu hxl (eq_of_beq he))
        have hf:JR l w.Key i=true:=bL.2 ⟨by omega,by subst e;exact eq_of_beq he⟩
        unfold QN
        rw[hf,e];rfl
    · rw[decide_eq_false hx0,cond_false]
      have e:i=x.toNat:=hp.uniq ⟨by omega,fun j h hj=>by omega,fun j h hj=>uT (h2 j h oM)⟩
      have hnf:JR l w.Key i=false:=by
        rw[←Bool.not_eq_true,bL]
        rintro⟨h,h3⟩
        have:=h2 i h oM
        rw[h3]at this;exact OK _ this
      unfold QN
      rw[hnf,e];rfl
  cases hd:decide (0<x)
  · exact key fun h=>absurd h (of_decide_eq_false hd)
  · have hx0:=of_decide_eq_true hd
    have hxl:x.toNat-1<l.length:=by omega
    rw[cond_true,sG oM,show(x-1).toNat=x.toNat-1 by omega,DE hxl]
    cases hs:KI l[x.toNat-1].Key w.Key
    · rw[cond_false]
      rw[PL]at hs
      have hs:LI w.Key l[x.toNat-1].Key=true:=by simpa using hs
      refine⟨⟨⟨by omega,by omega⟩,fun j h hj=>?_⟩,by omega⟩
      rcases Nat.lt_or_ge j x.toNat with hlt | hge
      · obtain rfl:j=x.toNat-1:=by omega
        exact hs
      · exact h2 j h oM
    · rw[cond_true]
      exact key fun _ _=>hs
theorem TR{l:List iA}(hu:Up l)(hl:l.length≤1000000)(w:iA):iE l w=RC l w:=by
  obtain⟨i,hp⟩:=rU hu oM w.Key
  rw[uU hu oM w hp,SR hu hl w hp]
theorem jX{l:List iA}{w y:iA}{i:Nat}(h:y∈QN l w i):y∈l∨y=w:=by
  unfold QN at h
  cases hf:JR l w.Key i
  · rw[hf,cond_false]at h
    rcases List.mem_append.1 h with h | h
    · exact .inl (List.mem_of_mem_take h)
    · rcases List.mem_cons.1 h with h | h
      · exact .inr h
      · exact .inl (List.mem_of_mem_drop h)
  · rw[hf,cond_true]at h
    exact List.mem_or_eq_of_mem_set h
theorem bY{l:List iA}(hu:Up l){w:iA}{i:Nat}(hp:mS l w.Key i):Up (QN l w i):=by
  unfold QN
  cases hf:JR l w.Key i
  · rw[cond_false]
    have hne:∀h:i<l.length,l[i].Key≠w.Key:=fun h e=>by rw[bL.2 ⟨h,e⟩]at hf;cases hf
    unfold Up
    have h0:=hu
    unfold Up at h0
    rw[←List.take_append_drop i l,List.pairwise_append]at h0
    obtain⟨h1,h2,h3⟩:=h0
    rw[List.pairwise_append,List.pairwise_cons]
    have hd:∀y∈l.drop i,LI w.Key y.Key=true:=fun y hy=>by
      obtain⟨j,hj,rfl⟩:=List.mem_iff_getElem.1 hy
      rw[List.length_drop]at hj
      rw[List.getElem_drop]
      have hil:i+j<l.length:=by omega
      cases hs:LI w.Key l[i+j].Key
      · have e:=XU hs (hp.hi (i+j) hil oM)
        rcases Nat.eq_zero_or_pos j with h0 | h0
        · subst h0;exact absurd e.symm (hne oM)
        · have h4:=hu.lt (show i<l.length by omega) hil oM
          rw[←e,hp.hi i oM (Nat.le_refl _)]at h4;cases h4
      · rfl
    have ht:∀x∈l.take i,LI x.Key w.Key=true:=fun x hx=>by
      obtain⟨j,hj,rfl⟩:=List.mem_iff_getElem.1 hx
      rw[List.length_take]at hj
      rw[List.getElem_take]
      exact hp.lo j oM oM
    refine⟨h1,⟨hd,h2⟩,fun a ha b hb=>?_⟩
    rcases List.mem_cons.1 hb with rfl | hb
    · exact ht a ha
    · exact h3 a ha b hb
  · rw[cond_true]
    obtain⟨h,e⟩:=bL.1 hf
    unfold Up
    have hm:(l.set i w).map (·.Key)=l.map (·.Key):=by
      rw[List.map_set]
      apply List.ext_getElem (by simp)
      intro j h1 h2
      rw[List.getElem_set]
      split
      · rename_i hij;subst hij;rw[List.getElem_map];exact e.symm
      · rfl
    have h1:((l.set i w).map (·.Key)).Pairwise fun a b=>LI a b=true:=by rw[hm];exact List.pairwise_map.2 hu
    exact List.pairwise_map.1 h1
theorem YO{l:List iA}(hu:Up l)(hl:l.length≤1000000)(w:iA):Up (RC l w)∧(∀y∈RC l w,y∈l∨y=w)∧(RC l w).length≤l.length+1:=by
  obtain⟨i,hp⟩:=rU hu oM w.Key
  refine⟨by rw[SR hu hl w hp];exact bY hu hp,fun y hy=>by rw[SR hu hl w hp]at hy;exact jX hy,?_⟩
  rw[←TR hu hl w];exact rK l w
theorem fR{l:List iA}(hu:Up l)(k:KA){ρ:Type}{body:Nat→Unit→WH ρ Unit}(f:iA→ρ)(e:ρ){i:Nat}(hp:mS l k i)(hb:∀j,body j ()=bif(l.getD j nA).Key==k then .ret (f (l.getD j nA))else .cont ()) :
    fD (FA body (l.length-0) 0 ()) (fun r=>r) (fun _=>e)=bif JR l k i then f (l.getD i nA)else e:=by
  refine ND (fun j _=>∀q (h:q<l.length),q<j→l[q].Key≠k) (fun v=>v=bif JR l k i then f (l.getD i nA)else e) (fun q _ h=>absurd h (Nat.not_lt_zero _)) (fun s hs=>?_) (fun j s _ hj hs=>?_)
  · have:JR l k i=false:=by
      rw[←Bool.not_eq_true,bL]
      rintro⟨h,h3⟩
      exact hs i h oM h3
    rw[this];rfl
  · have hj':j<l.length:=by omega
    cases s
    rw[hb]
    cases hk:((l.getD j nA).Key==k)
    · intro q h hq hqk
      rcases Nat.lt_or_ge q j with hlt | hge
      · exact hs q h hlt hqk
      · obtain rfl:q=j:=by omega
        rw[DE hj',hqk,beq_self_eq_true]at hk;cases hk
    · rw[DE hj']at hk
      have e1:=hp.uniq (mS.fnd_at hu hj' (eq_of_beq hk))
      subst e1
      show f (l.getD i nA)=_
      rw[bL.2 ⟨hj',eq_of_beq hk⟩];rfl
theorem aU{buf:List iA}(hu:Up buf)(hl:buf.length≤1000000)(got:List dE)(k:KA):MD k buf got=zB buf got k:=by
  obtain⟨i,hp,e⟩:=JM hu oM k
  unfold MD zB
  rw[e,fR hu k (body:=xF buf got k) (fun w=>(w.Val,!w.Gone,true)) _ hp fun j=>rfl]
  cases hf:JR buf k i
  · rfl
  · rfl
theorem JW{rows:List iA}(hu:Up rows)(hl:rows.length≤1000000)(k:KA):gG rows k=nF rows k:=by
  obtain⟨i,hp,e⟩:=JM hu oM k
  unfold gG nF
  rw[e,fR hu k (body:=CG rows k) (fun w=>(⟨k,w.Val,true⟩:dE)) _ hp fun j=>rfl]
  cases hf:JR rows k i<;>rfl
def JJ(l:List AH):Prop:=∀y∈l,y.Kind=2∨y.Kind=3∨y.Kind=6∨y.Kind=7
theorem MQ{o:AH}(h:o.Kind=2∨o.Kind=3)(v:KA)(th:Bool):tD o v th=false:=by
  unfold tD
  rw[decide_eq_false (show ¬o.Kind=4 by omega),decide_eq_false (show ¬o.Kind=5 by omega),decide_eq_false (show ¬o.Kind=6 by omega),decide_eq_false (show ¬o.Kind=7 by omega)];rfl
theorem MW{o:AH}(h:o.Kind=6∨o.Kind=7)(v:KA)(th:Bool):FD o v th=!tD o v th:=by
  unfold FD tD
  rw[decide_eq_false (show ¬o.Kind=4 by omega),decide_eq_false (show ¬o.Kind=5 by omega)]
  rcases h with h | h
  · rw[decide_eq_true h];rfl
  · rw[decide_eq_false (show ¬o.Kind=6 by omega),decide_eq_true h]
    cases th
    · rfl
    · cases v==o.Val<;>rfl
theorem NN{ρ σ:Type}{b b':Nat→σ→WH ρ σ}(I:Nat→σ→Prop):∀(n k:Nat) (s:σ),I k s→(∀j s,k≤j→j<k+n→I j s→b j s=b' j s∧∀s',b j s=.cont s'→I (j+1) s')→FA b n k s=FA b' n k s
  | 0,_,_,_,_=>rfl
  | n+1,k,s,h0,h=>by
    obtain⟨h1,h2⟩:=h k s (Nat.le_refl _) oM h0
    simp only[FA]
    rw[←h1]
    cases hb:b k s with
    | ret r=>rfl
    | brk s=>rfl
    | cont s'=>exact NN I n (k+1) s' (h2 s' hb) fun j s h3 h4=>h j s oM oM
theorem gR{l:List AH}(hk:JJ l)(hl:l.length≤1000)(got:List dE){j:Nat}(hj:j<l.length){x:List iA}(hu:Up x)(hx:x.length≤j) :
    NC l got j x=iC l got j x∧∀s',NC l got j x=.cont s'→(Up s'∧s'.length≤j+1)∧∀y∈s',y∈x∨(y.Key=(l.getD j PB).Key∧((y.Val=(l.getD j PB).Val∧y.Gone=false∧(l.getD j PB).Kind=2)∨(y.Val=[]∧y.Gone=true∧(l.getD j PB).Kind=3))):=by
  have hko:=hk _ (LF (d:=PB) hj)
  unfold NC iC
  dsimp only
  generalize l.getD j PB=o at *
  have hc:=aU hu oM got o.Key
  rw[hc]
  rcases hko with h2 | h3 | h67
  · have hg:=MQ (.inl h2) (zB x got o.Key).1 (zB x got o.Key).2.1
    have hp:=YO hu oM (⟨o.Key,o.Val,false⟩:iA)
    rw[decide_eq_true h2,hg,cond_true,TR hu oM]
    refine⟨by cases (zB x got o.Key).2.2<;>rfl,fun s' hs=>?_⟩
    cases hs
    refine⟨⟨hp.1,by omega⟩,fun y hy=>?_⟩
    rcases hp.2.1 y hy with h | rfl
    · exact .inl h
    · exact .inr ⟨rfl,.inl ⟨rfl,rfl,h2⟩⟩
  · have hg:=MQ (.inr h3) (zB x got o.Key).1 (zB x got o.Key).2.1
    have hp:=YO hu oM (⟨o.Key,[],true⟩:iA)
    rw[decide_eq_false (show ¬o.Kind=2 by omega),decide_eq_true h3,hg,cond_true,cond_false,TR hu oM]
    refine⟨by cases (zB x got o.Key).2.2<;>rfl,fun s' hs=>?_⟩
    cases hs
    refine⟨⟨hp.1,by omega⟩,fun y hy=>?_⟩
    rcases hp.2.1 y hy with h | rfl
    · exact .inl h
    · exact .inr ⟨rfl,.inr ⟨rfl,rfl,h3⟩⟩
  · rw[decide_eq_false (show ¬o.Kind=2 by omega),decide_eq_false (show ¬o.Kind=3 by omega),decide_eq_false (show ¬o.Kind=4 by omega),MW h67]
    cases (zB x got o.Key).2.2
    · exact⟨rfl,fun s' hs=>by cases hs⟩
    · cases tD o (zB x got o.Key).1 (zB x got o.Key).2.1
      · exact⟨rfl,fun s' hs=>by cases hs;exact⟨⟨hu,by omega⟩,fun y hy=>.inl hy⟩⟩
      · exact⟨rfl,fun s' hs=>by cases hs⟩
theorem ZU{l:List AH}(hk:JJ l)(hl:l.length≤1000)(got:List dE):IC l got=SC l got:=by
  unfold IC SC
  have h:=NN (b:=NC l got) (b':=iC l got) (fun j (x:List iA)=>Up x∧x.length≤j) (l.length-0) 0 [] ⟨List.Pairwise.nil,Nat.le_refl _⟩ fun j s _ hj hI=>by
    obtain⟨h1,h2⟩:=gR hk hl got (j:=j) oM hI.1 hI.2
    exact⟨h1,fun s' hs=>(h2 s' hs).1⟩
  rw[h]
def CX(l:List AH)(x:List iA):Prop:=Up x∧x.length≤l.length∧∀y∈x,∃o∈l,y.Key=o.Key∧((y.Val=o.Val∧y.Gone=false∧o.Kind=2)∨(y.Val=[]∧y.Gone=true∧o.Kind=3))
theorem CX.nil(l:List AH):CX l []:=⟨List.Pairwise.nil,Nat.zero_le _,fun _ h=>by cases h⟩
theorem mX{l:List AH}(hk:JJ l)(hl:l.length≤1000)(got:List dE):CX l (SC l got).2.2:=by
  rw[←ZU hk hl got]
  unfold IC
  refine ND (fun j (x:List iA)=>Up x∧x.length≤j∧∀y∈x,∃o∈l,y.Key=o.Key∧((y.Val=o.Val∧y.Gone=false∧o.Kind=2)∨(y.Val=[]∧y.Gone=true∧o.Kind=3))) (fun(v:Int×KA×List iA)=>CX l v.2.2) ⟨List.Pairwise.nil,Nat.le_refl _,fun _ h=>by cases h⟩ (fun s hs=>⟨hs.1,by have:=hs.2.1;show s.length≤_;omega,hs.2.2⟩) (fun j s _ hj hI=>?_)
  have hj':j<l.length:=by omega
  obtain⟨_,h2⟩:=gR hk hl got hj' hI.1 hI.2.1
  have hr:∀r,NC l got j s=.ret r→r.2.2=[]:=fun r hr=>by
    unfold NC at hr
    dsimp only at hr
    revert hr
    cases decide ((l.getD j PB).Kind=2)
    · cases decide ((l.getD j PB).Kind=3)
      · cases (MD (l.getD j PB).Key s got).2.2
        · intro h;cases h;rfl
        · cases FD (l.getD j PB) ((MD (l.getD j PB).Key s got).1) ((MD (l.getD j PB).Key s got).2.1)
          · intro h;cases h;rfl
          · intro h;cases h
      · intro h;cases h
    · intro h;cases h
  have hbk:∀r,NC l got j s≠.brk r:=fun r hr=>by
    unfold NC at hr
    dsimp only at hr
    revert hr
    cases decide ((l.getD j PB).Kind=2)
    · cases decide ((l.getD j PB).Kind=3)
      · cases (MD (l.getD j PB).Key s got).2.2
        · intro h;cases h
        · cases FD (l.getD j PB) ((MD (l.getD j PB).Key s got).1) ((MD (l.getD j PB).Key s got).2.1)
          · intro h;cases h
          · intro h;cases h
      · intro h;cases h
    · intro h;cases h
  cases hb:NC l got j s with
  | ret r=>show CX l r.2.2;rw[hr r hb];exact CX.nil l
  | brk s'=>exact absurd hb (hbk s')
  | cont s'=>
    obtain⟨⟨a,b⟩,c⟩:=h2 s' hb
    refine⟨a,b,fun y hy=>?_⟩
    rcases c y hy with h | h
    · exact hI.2.2 y h
    · exact⟨_,LF (d:=PB) hj',h⟩
theorem uW{rows:List iA}(hu:Up rows)(hr:rows.length≤1000000){l:List AH}(hk:JJ l)(hl:l.length≤1000):wE rows l=UB rows l:=by
  have hb:aG rows l=CF rows l:=by
    funext x
    unfold aG CF
    dsimp only
    rw[ZU hk hl x,JW hu hr]
  unfold wE UB
  rw[hb]
theorem CQ(rows:List iA){l:List AH}(hk:JJ l)(hl:l.length≤1000):CX l (UB rows l).2.1:=by
  unfold UB
  refine xK (body:=CF rows l) (fun _=>True) (fun(x:List dE)=>(l.filter fun o=>!(x.any fun g=>g.Key==o.Key)).length) (fun(v:List dE×List iA×Bool)=>CX l v.2.1) ?_ _ _ trivial (Nat.lt_succ_self _)
  intro x _
  unfold CF
  dsimp only
  cases hd:decide ((SC l x).1=1)
  · exact mX hk hl x
  · exact⟨trivial,kP (rows:=rows) (of_decide_eq_true hd)⟩
theorem WO:∀(w rows:List iA),Up rows→rows.length+w.length≤1000000→Up (w.foldl RC rows)∧(∀y∈w.foldl RC rows,y∈rows∨y∈w)∧w.foldl iE rows=w.foldl RC rows
  | [],rows,h,_=>⟨h,fun y hy=>.inl hy,rfl⟩
  | x::w,rows,h,hl=>by
    rw[List.length_cons]at hl
    obtain⟨a,b,c⟩:=YO h oM x
    obtain⟨a2,b2,c2⟩:=WO w (RC rows x) a oM
    refine⟨a2,fun y hy=>?_,?_⟩
    · rcases b2 y hy with h | h
      · rcases b y h with h | h
        · exact .inl h
        · exact .inr (by rw[h];exact List.mem_cons_self ..)
      · exact .inr (List.mem_cons_of_mem _ h)
    · rw[List.foldl_cons,List.foldl_cons,TR h oM,c2]
theorem KQ{T:Type}(f:List iA→iA→List iA){body:Nat→List iA→WH T (List iA)}(w rows:List iA)(hb:∀j x,body j x=.cont (f x (w.getD j nA))){U:Type}(fr:T→U)(fd:List iA→U):fD (FA body (w.length-0) 0 rows) fr fd=fd (w.foldl f rows):=by
  refine ND (fun k (p:List iA)=>p=(w.take k).foldl f rows) (fun v=>v=fd (w.foldl f rows)) rfl (fun s hs=>by rw[hs,List.take_of_length_le oM]) (fun j s _ hj hs=>?_)
  have hj':j<w.length:=by omega
  rw[hb]
  show f s (w.getD j nA)=_
  rw[List.take_succ_eq_append_getElem hj',List.foldl_append,←hs,←DE (d:=nA) hj'];rfl
theorem HK(rows w:List iA):TB rows w=(w.foldl RC rows).filter fun y=>!y.Gone:=by
  unfold TB
  rw[KQ RC (body:=sH rows w) w _ fun j x=>rfl]
  rw[List.nil_append]
  generalize w.foldl RC rows=l
  refine ND (fun k (p:List iA)=>p=(l.take k).filter fun y=>!y.Gone) (fun(v:List iA)=>v=l.filter fun y=>!y.Gone) rfl (fun s h=>by rw[h,List.take_of_length_le oM]) ?_
  intro j s _ hj hs
  have hj':j<l.length:=by omega
  unfold fG
  dsimp only
  rw[List.take_succ_eq_append_getElem hj',List.filter_append,←hs,←DE (d:=nA) hj',List.filter_cons]
  cases (l.getD j nA).Gone<;>simp
theorem tU{rows w:List iA}(hu:Up rows)(hl:rows.length+w.length≤1000000):nG rows w=bif decide (24<((TB rows w).length:Int))then([],false)else(TB rows w,true):=by
  unfold nG
  rw[KQ iE (body:=eI rows w) w _ fun j x=>rfl]
  have hc:SA rows=rows:=rfl
  rw[hc,(WO w rows hu hl).2.2,HK];rfl
theorem fY{l:List iA}(h:EC l=true):Up l:=by
  have h1:=zP (RJ l▸h)
  rw[bK,Bool.and_eq_true,List.all_eq_true]at h1
  have h24:l.length≤24:=by have:=of_decide_eq_true h1.2;omega
  have step:∀i (hi:i+1<l.length),LI l[i].Key l[i+1].Key=true:=fun i hi=>by
    have h3:=h1.1 (i+1) (List.mem_range.2 hi)
    rw[Bool.and_eq_true]at h3
    have h4:=h3.2
    unfold KJ at h4
    rw[decide_eq_true oM,cond_true,sG oM,show(((i+1:Nat):Int)-1).toNat=i by omega,DE (by rw[List.length_map];omega),DE (by rw[List.length_map];exact hi),List.getElem_map,List.getElem_map]at h4
    exact h4
  have all:∀d i (hj:i+d+1<l.length),LI l[i].Key l[i+d+1].Key=true:=by
    intro d
    induction d with
    | zero=>exact fun i hj=>step i hj
    | succ d ih=>exact fun i hj=>vL (ih i oM) (step (i+d+1) oM)
  refine List.pairwise_iff_getElem.2 fun i j hi hj hij=>?_
  obtain⟨d,rfl⟩:∃d,j=i+d+1:=⟨j-i-1,by omega⟩
  exact all d i hj
theorem NK(l:List iA):EC l=true↔(∀y∈l,ID y.Key y.Val y.Gone=true)∧(∀y∈l,y.Gone=false)∧Up l∧l.length≤24:=by
  constructor
  · intro h
    have hu:=fY h
    rw[RJ,LM,Bool.and_eq_true,bK,Bool.and_eq_true,List.all_eq_true,List.all_eq_true]at h
    refine⟨fun y hy=>?_,fun y hy=>by simpa using h.2 y hy,hu,by have:=of_decide_eq_true h.1.2;omega⟩
    obtain⟨j,hj,rfl⟩:=List.mem_iff_getElem.1 hy
    have h1:=h.1.1 j (List.mem_range.2 hj)
    rw[Bool.and_eq_true,DE hj]at h1
    exact h1.1
  · rintro⟨h1,h2,hu,h4⟩
    rw[RJ,LM,Bool.and_eq_true,bK,Bool.and_eq_true,List.all_eq_true,List.all_eq_true]
    refine⟨⟨fun j hj=>?_,decide_eq_true oM⟩,fun y hy=>by rw[h2 y hy];rfl⟩
    have hj:=List.mem_range.1 hj
    rw[Bool.and_eq_true,DE hj]
    refine⟨h1 _ (List.getElem_mem hj),?_⟩
    unfold KJ
    by_cases h0:0<j
    · rw[decide_eq_true oM,cond_true,sG oM,DE (by rw[List.length_map];omega),DE (by rw[List.length_map];exact hj),List.getElem_map,List.getElem_map]
      exact hu.lt _ _ oM
    · rw[decide_eq_false oM];rfl
theorem EK{l:List AH}(h:KG l=true):(∀o∈l,sE o=true)∧l.length≤8:=by
  unfold KG at h
  rw[JT PB sE (r:=false) fun k=>by unfold cH;rfl]at h
  obtain⟨h1,h2⟩:=gD h
  exact⟨List.all_eq_true.1 h1,by have:=of_decide_eq_true h2;omega⟩
theorem iW{l:List AH}(hg:∀o∈l,sE o=true){x:List iA}(h:CX l x):∀y∈x,ID y.Key y.Val y.Gone=true:=fun y hy=>by
  obtain⟨o,ho,hk,h2⟩:=h.2.2 y hy
  have hg:=hg o ho
  unfold sE at hg
  obtain⟨g1,g2⟩:=gD hg
  unfold ID
  rw[hk,g1]
  rcases h2 with⟨hv,hn,h2⟩ | ⟨hv,hn,_⟩
  · rw[decide_eq_true h2,cond_true]at g2
    rw[hv,hn,(gD g2).1];rfl
  · rw[hv,hn];rfl
theorem QR{rows w:List iA}(hr:EC rows=true)(hw:∀y∈w,ID y.Key y.Val y.Gone=true)(hl:w.length≤1000):EC (TB rows w)=decide ((TB rows w).length≤24):=by
  obtain⟨h1,h2,h3,h4⟩:=(NK rows).1 hr
  obtain⟨a,b,_⟩:=WO w rows h3 oM
  by_cases hlen:(TB rows w).length≤24
  · rw[decide_eq_true hlen,NK]
    rw[HK]at hlen ⊢
    refine⟨fun y hy=>?_,fun y hy=>?_,List.Pairwise.filter _ a,hlen⟩
    · rcases b y (List.mem_filter.1 hy).1 with h | h
      · exact h1 y h
      · exact hw y h
    · simpa using(List.mem_filter.1 hy).2
  · rw[decide_eq_false hlen,←Bool.not_eq_true,NK]
    exact fun h=>hlen h.2.2.2
theorem SV{rows:List iA}{l:List AH}(hr:EC rows=true)(hg:KG l=true)(hk:JJ l):tF rows l=DD rows l∧EC (DD rows l).1=true:=by
  obtain⟨h1,h2,h3,h4⟩:=(NK rows).1 hr
  obtain⟨g1,g2⟩:=EK hg
  have hw:=CQ rows hk oM
  have hx:=iW g1 hw
  have hgood:=QR hr hx (by have:=hw.2.1;omega)
  have hput:=tU (w:=(UB rows l).2.1) h3 (by have:=hw.2.1;omega)
  have hrun:=VU hr hg (show UB rows l=((UB rows l).1,(UB rows l).2.1,(UB rows l).2.2)from rfl)
  unfold tF DD
  rw[uW h3 oM hk oM,hput,hrun,hgood]
  by_cases hlen:(TB rows (UB rows l).2.1).length≤24
  · rw[decide_eq_false (show ¬(24:Int)<_ by omega)]
    rw[decide_eq_true hlen]at hgood ⊢
    cases (UB rows l).2.2
    · exact⟨rfl,hr⟩
    · exact⟨rfl,hgood⟩
  · rw[decide_eq_true (show(24:Int)<_ by omega),decide_eq_false hlen]
    cases (UB rows l).2.2<;>exact⟨rfl,hr⟩

def vZ(y:AH):Prop:=sE y=true∧(y.Kind=2∨y.Kind=3∨y.Kind=6∨y.Kind=7)
theorem aY{l:List AH}(h:KG l=true):uF iK l:=by
  obtain⟨h1,h2⟩:=EK h
  refine MB oM fun y hy=>?_
  have hg:=h1 y hy
  unfold sE at hg
  obtain⟨g1,g2⟩:=gD hg
  have hk:=lO g1
  have hv:y.Val.length≤24:=by
    have e0:∀{c:Bool},(bif y.Val==([]:KA)then c else false)=true→y.Val.length≤24:=fun h=>by rw[eq_of_beq (gD h).1];exact Nat.zero_le _
    revert g2
    cases decide (y.Kind=2)
    · cases decide (y.Kind=7)
      · cases decide (y.Kind=4)
        · cases decide (y.Kind=5)
          · cases decide (y.Kind=1)
            · cases decide (y.Kind=3)
              · intro g2;first | exact e0 g2 | exact e0 (gD g2).2 | exact e0 (gD g2).1 | (revert g2;cases decide (y.Kind=6)<;>intro g2<;>first | exact e0 g2 | cases g2)
              · exact e0
            · exact e0
          · exact e0
        · exact e0
      · exact fun g2=>mO (gD g2).1
    · exact fun g2=>mO (gD g2).1
  exact⟨by show _≤_;omega,by show _≤_;omega⟩
theorem OL{t:ZA}{n:KA}{st:List iA}{f:gE}{m:Int}(h:zF t n st f m=true):jE t n=true∧OI st=true∧jI f=true∧QC m 1 24=true:=by
  unfold zF iG at h
  obtain⟨h1,h2⟩:=gD h
  obtain⟨h3,h4⟩:=gD h1
  obtain⟨h5,h6⟩:=gD h2
  exact⟨h3,h4,h5,h6⟩
theorem MV{t:ZA}{n:KA}{st:List iA}{f:gE}{m:Int}(h:zF t n st f m=true):st.length≤100:=by
  have:=LL (OL h).2.1;omega
theorem jP{α β:Type}(d:α)(f:α→β)(l:List α){body:Nat→List β→WH (List β) (List β)}(hb:∀k x,body k x=.cont (x++[f (l.getD k d)])):fD (FA body (l.length-0) 0 []) (fun r=>r) (fun x=>x)=l.map f:=by
  refine ND (fun k (x:List β)=>x=(l.take k).map f) (fun v=>v=l.map f) rfl (fun s hs=>by rw[hs,List.take_of_length_le oM]) (fun j s _ hj hs=>?_)
  have hj':j<l.length:=by omega
  rw[hb]
  show s++[f (l.getD j d)]=_
  rw[List.take_succ_eq_append_getElem hj',List.map_append,←hs,←DE (d:=d) hj'];rfl
theorem vK(t:ZA)(n:KA)(st:List iA):cB t n st=(eB t st).map fun r=>⟨(OA t r).Key,FB t n r⟩:=by
  unfold cB
  exact jP PD (fun r=>(⟨(OA t r).Key,FB t n r⟩:nE)) _ fun k x=>rfl
def oR(y:nE):Prop:=aF y.key=true∧KG y.ops=true∧JJ y.ops
theorem gX{l:List AH}(h:∀y∈l,vZ y)(hl:l.length≤8):KG l=true∧JJ l:=⟨IW _ (List.all_eq_true.2 fun y hy=>(h y hy).1) hl,fun y hy=>(h y hy).2⟩
theorem sT{t:ZA}(hg:VB t=true){r:rC}(h:TD t r=true):XG t r=true:=by
  rw[fP]
  unfold wL
  rw[hg,h];rfl
theorem HQ{t:ZA}{n:KA}(hi:jE t n=true){r:rC}(h:XG t r=true):oR ⟨(OA t r).Key,FB t n r⟩:=by
  obtain⟨h1,h2,h3⟩:=QV h hi
  refine⟨h1,gX (fun y hy=>?_) (nb rfl)⟩
  unfold FB at hy
  rcases List.mem_cons.1 hy with rfl | hy
  · exact⟨nZ h1 h2,.inr (.inr (.inr rfl))⟩
  · rw[List.mem_singleton.1 hy];exact⟨RY h3 mY,.inl rfl⟩
theorem TS{t:ZA}{n:KA}(hi:jE t n=true)(st:List iA):∀y∈cB t n st,oR y:=fun y hy=>by
  rw[vK]at hy
  obtain⟨r,hr,rfl⟩:=List.mem_map.1 hy
  have hg:=cJ hi
  exact HQ hi (sT hg (uN hg hr))
theorem dW{l:List nE}(h:∀y∈l,oR y):∀y∈l,y.ops.length≤100∧∀o∈y.ops,o.Kind≠4:=fun y hy=>by
  obtain⟨_,h2,h3⟩:=h y hy
  exact⟨by have:=(EK h2).2;omega,fun o ho=>by have:=h3 o ho;omega⟩
theorem oX{l:List nE}(h:∀y∈l,oR y)(hl:l.length≤24):uF lJ l:=MB oM fun y hy=>by
  obtain⟨h1,h2,_⟩:=h y hy
  exact⟨by have:=lO h1;show _≤_;omega,aY h2⟩
theorem vV{t:ZA}{n:KA}{st:List iA}{f:gE}{m:Int}(h:zF t n st f m=true):∀y∈cB t n st,y.ops.length≤100∧∀o∈y.ops,o.Kind≠4:=dW (TS (OL h).1 st)
theorem eX{t:ZA}{n:KA}{st:List iA}{f:gE}{m:Int}(h:zF t n st f m=true):uF lJ (cB t n st):=oX (TS (OL h).1 st) (by
  have h1:=tN (OL h).1 st
  have h2:=LL (OL h).2.1
  rw[vK,List.length_map];omega)
theorem sQ(t:ZA)(x:SE)(r:rC):∀y∈JF t x r,y.Kind≠4:=fun y hy=>by
  unfold JF at hy
  rcases List.mem_cons.1 hy with rfl | hy
  · exact(show(7:Int)≠4 by decide)
  · rw[List.mem_singleton.1 hy];exact(show(2:Int)≠4 by decide)
theorem WX{a b c:Int}(h:decide (a<min b c)=true):a<b∧a<c:=Int.lt_min.1 (of_decide_eq_true h)
theorem sX(s:List iA)(o:List (List AH)):(cC s o).1.length≤s.length∨(cC s o).1.length≤24:=by
  unfold cC
  cases EC s
  · exact .inr (Nat.zero_le _)
  · cases decide (20<(o.length:Int))
    · refine ND (fun _ (_:Unit)=>True) (fun(v:List iA×List Bool×Bool)=>v.1.length≤s.length∨v.1.length≤24) trivial (fun _ _=>?_) (fun j _ _ _ _=>?_)
      · refine ND (fun _ (x:List iA×List Bool)=>x.1.length≤s.length∨x.1.length≤24) (fun(v:List iA×List Bool×Bool)=>v.1.length≤s.length∨v.1.length≤24) (.inl (Nat.le_refl _)) (fun _ h=>h) (fun j x _ _ h=>?_)
        obtain⟨x,y⟩:=x
        unfold bE
        dsimp only
        cases (UB x (o.getD j oH)).2.2
        · exact h
        · cases hr:EC (TB x (UB x (o.getD j oH)).2.1)
          · exact h
          · exact .inr (qN hr)
      · unfold mE
        cases KG (o.getD j oH)
        · exact .inr (Nat.zero_le _)
        · trivial
    · exact .inr (Nat.zero_le _)
theorem GV(s:List iA)(o:List AH):(DD s o).1.length≤s.length∨(DD s o).1.length≤24:=by
  have h:=sX s [o]
  unfold DD
  cases decide ((((cC s [o]).2.1).length:Int)=1)<;>exact h
theorem jV{t:ZA}{n:KA}{l:List iA}(h:XE t n l=true):l.length≤24:=by
  unfold XE at h
  have h1:=(gD (gD h).2).2
  rw[RJ]at h1
  exact LL h1
theorem MX(l:List nE)(f:nE→Bool):(BA (TA l) f).length≤l.length:=List.length_filter_le _ _
def wZ(l:List KA):Prop:=l.Pairwise fun a b=>LI a b=true
theorem SY{a b c:KA}(h1:KI a b=true)(h2:KI b c=true):KI a c=true:=by
  rw[PL]at *
  cases h:LI c a
  · rfl
  · cases hb:LI b a
    · cases hc:LI c b
      · have e1:a=b:=by
          cases hab:LI a b
          · exact XU hab hb
          · rw[vL h hab]at hc;cases hc
        rw[e1]at h;rw[h]at hc;cases hc
      · rw[hc]at h2;cases h2
    · rw[hb]at h1;cases h1
theorem dR{a b:KA}(h:LI a b=true):KI a b=true:=by unfold KI;rw[h];rfl
theorem SU{a b:KA}(h:KI a b=false):LI b a=true:=by
  rw[PL]at h
  simpa using h
theorem bR{a b:KA}(h:LI b a=true):KI a b=false:=by rw[PL,h];rfl
theorem XW(l:List KA)(z:KA):eF l z=l.any fun y=>!(KI y z):=by
  unfold eF
  refine ND (fun k (_:Unit)=>∀j (h:j<l.length),j<k→KI l[j] z=true) (fun v=>v=l.any fun y=>!(KI y z)) (fun j _ h=>absurd h (Nat.not_lt_zero _)) (fun _ hs=>?_) (fun j u _ hj hs=>?_)
  · refine(Bool.eq_false_iff.2 fun h=>?_).symm
    obtain⟨y,hy,h2⟩:=List.any_eq_true.1 h
    obtain⟨i,hi,rfl⟩:=List.mem_iff_getElem.1 hy
    rw[hs i hi oM]at h2;cases h2
  · have hj':j<l.length:=by omega
    cases u
    unfold yG
    cases h:KI (l.getD j kB) z
    · refine(List.any_eq_true.2 ⟨l.getD j kB,LF hj',?_⟩).symm
      rw[h];rfl
    · intro i hi hij
      rcases Nat.lt_or_ge i j with hlt | hge
      · exact hs i hi hlt
      · obtain rfl:i=j:=by omega
        rw[←DE (d:=kB) hi];exact h
theorem CT{m:Int}(h:QC m 1 24=true):1≤m∧m≤24:=by
  unfold QC at h
  first | exact⟨of_decide_eq_true (gD h).1,of_decide_eq_true (gD h).2⟩ | simpa using h
def rQ(t:ZA)(w:iA):Bool:=(rB t w).2
theorem VS{t:ZA}(hg:VB t=true)(n:KA)(st:List iA):(cB t n st).map (·.key)=(st.filter (rQ t)).map (·.Key):=by
  rw[vK,LP,List.map_map,List.map_map]
  refine List.map_congr_left fun w hw=>?_
  have:=(IP (by rw[DG];exact hg) (List.mem_filter.1 hw).2).2
  show(OA t (rB t w).1).Key=w.Key
  rw[this]
theorem wU{t:ZA}(hg:VB t=true)(st:List iA):wC t st=(st.filter (rQ t)).map (·.Key):=by
  unfold wC
  rw[jP (body:=UG t st) PD (fun r=>(vB t r).Key) (nB t st) fun k x=>rfl,←OM hg,LP,List.map_map]
  refine List.map_congr_left fun w hw=>?_
  have:=(IP (by rw[DG];exact hg) (List.mem_filter.1 hw).2).2
  show(vB t (rB t w).1).Key=w.Key
  rw[←BM,this]
def QJ:List nE→Nat→List iA→KA→List iA×KA×Nat
  | [],_,x,z=>(x,z,0)
  | _::_,0,x,z=>(x,z,0)
  | y::l,b+1,x,z=>bif(DD x y.ops).2 then((QJ l b (DD x y.ops).1 y.key).1,(QJ l b (DD x y.ops).1 y.key).2.1,(QJ l b (DD x y.ops).1 y.key).2.2+1)else(x,z,0)
theorem MU:∀(l:List nE) (b:Nat) (x:List iA) (z:KA),(QJ l b x z).2.2≤l.length∧(QJ l b x z).2.1=((l.take (QJ l b x z).2.2).map (·.key)).getLastD z
  | [],_,_,_=>⟨Nat.le_refl _,rfl⟩
  | _::_,0,_,_=>⟨Nat.zero_le _,rfl⟩
  | y::l,b+1,x,z=>by
    obtain⟨h1,h2⟩:=MU l b (DD x y.ops).1 y.key
    unfold QJ
    cases (DD x y.ops).2
    · exact⟨Nat.zero_le _,rfl⟩
    · refine⟨by rw[List.length_cons];exact Nat.succ_le_succ h1,?_⟩
      show(QJ l b (DD x y.ops).1 y.key).2.1=_
      rw[h2]
      show _=(((y::l).take ((QJ l b (DD x y.ops).1 y.key).2.2+1)).map (·.key)).getLastD z
      rw[List.take_succ_cons,List.map_cons,List.getLastD_cons]
theorem OS{t:ZA}(hg:VB t=true){n:KA}(hi:jE t n=true)(r:rC)(w:iA)(h:w.Key=iD t n r):rQ t w=false:=by
  unfold rQ
  rw[qT hg]
  have hn:=(YL.of hg).name
  have h2:(HD t w).2=false:=by
    rw[pN]
    cases decide ((w.Key.length:Int)<3)
    · show(_&&(_&&_))=false
      have:((t.Name++([47]:KA))++w.Key.drop 2==w.Key)=false:=by
        cases hb:((t.Name++([47]:KA))++w.Key.drop 2==w.Key)
        · rfl
        · exfalso
          have e:=eq_of_beq hb
          rw[h,TW hi]at e
          unfold kG at e
          obtain⟨c,hc⟩:∃c,t.Name=[c]:=by
            match t.Name,hn with
            | [c],_=>exact⟨c,rfl⟩
          rw[hc]at e
          simp at e
      rw[this]
      cases TD t (RN w)<;>rfl
    · rfl
  rw[h2];rfl
theorem NV{t:ZA}{l:List iA}{w:iA}(hw:∀y:iA,y.Key=w.Key→rQ t y=false)(i:Nat):(QN l w i).filter (rQ t)=l.filter (rQ t):=by
  unfold QN
  cases hf:JR l w.Key i
  · rw[cond_false,List.filter_append,List.filter_cons,hw w rfl]
    show(l.take i).filter _++(l.drop i).filter _=_
    rw[←List.filter_append,List.take_append_drop]
  · rw[cond_true]
    obtain⟨h,e⟩:=bL.1 hf
    have hs:l.set i w=l.take i++w::l.drop (i+1):=List.set_eq_take_append_cons_drop▸(if_pos h)
    have ht:l=l.take i++l[i]::l.drop (i+1):=by rw[←List.drop_eq_getElem_cons h,List.take_append_drop]
    rw[hs,List.filter_append,List.filter_cons,hw w rfl]
    conv=>rhs;rw[ht]
    rw[List.filter_append,List.filter_cons,hw l[i] e]
    rfl
theorem LQ{t:ZA}:∀(ws l:List iA),Up l→l.length+ws.length≤1000000→(∀w∈ws,∀y:iA,y.Key=w.Key→rQ t y=false)→(ws.foldl RC l).filter (rQ t)=l.filter (rQ t)
  | [],_,_,_,_=>rfl
  | w::ws,l,hu,hl,hw=>by
    rw[List.length_cons]at hl
    obtain⟨i,hp⟩:=rU hu oM w.Key
    have h1:=YO hu oM w
    rw[List.foldl_cons,LQ ws _ h1.1 oM fun w hw2=>hw w (List.mem_cons_of_mem _ hw2),SR hu oM w hp,NV (hw w (List.mem_cons_self ..))]
theorem RR{t:ZA}{l ws:List iA}(hu:Up l)(hg:∀y∈l,y.Gone=false)(hl:l.length+ws.length≤1000000)(hw:∀w∈ws,w.Gone=false∧∀y:iA,y.Key=w.Key→rQ t y=false):(TB l ws).filter (rQ t)=l.filter (rQ t):=by
  rw[HK]
  obtain⟨_,h2,_⟩:=WO ws l hu hl
  have e:(ws.foldl RC l).filter (fun y=>!y.Gone)=ws.foldl RC l:=List.filter_eq_self.2 fun y hy=>by
    rcases h2 y hy with h | h
    · rw[hg y h];rfl
    · rw[(hw y h).1];rfl
  rw[e,LQ ws l hu hl fun w h=>(hw w h).2]
theorem GW{t:ZA}{n:KA}(hi:jE t n=true){st:List iA}(hr:EC st=true){r:rC}(h:XG t r=true) :
    tF st (FB t n r)=DD st (FB t n r)∧EC (DD st (FB t n r)).1=true∧(DD st (FB t n r)).1.filter (rQ t)=st.filter (rQ t):=by
  obtain⟨_,g2,g3⟩:=HQ hi h
  have g2:KG (FB t n r)=true:=g2
  have g3:JJ (FB t n r):=g3
  obtain⟨e1,e2⟩:=SV hr g2 g3
  refine⟨e1,e2,?_⟩
  obtain⟨k1,k2,hu,k4⟩:=(NK st).1 hr
  have hw:CX (FB t n r) (UB st (FB t n r)).2.1:=CQ st g3 (by have:=(EK g2).2;omega)
  have hrun:=VU hr g2 (show UB st (FB t n r)=((UB st (FB t n r)).1,(UB st (FB t n r)).2.1,(UB st (FB t n r)).2.2)from rfl)
  have hput:=RR (t:=t) hu k2 (by have:=hw.2.1;have:=(EK g2).2;omega) (ws:=(UB st (FB t n r)).2.1) fun w hwm=>by
    obtain⟨o,ho,hk,h2⟩:=hw.2.2 w hwm
    unfold FB at ho
    rcases List.mem_cons.1 ho with rfl | ho
    · rcases h2 with⟨_,_,h2⟩ | ⟨_,_,h2⟩
      · exact absurd h2 (show ¬(7:Int)=2 by decide)
      · exact absurd h2 (show ¬(7:Int)=3 by decide)
    · rw[List.mem_singleton.1 ho]at hk h2
      rcases h2 with⟨_,h2,_⟩ | ⟨_,_,h2⟩
      · exact⟨h2,fun y hy=>OS (cJ hi) hi r y (hy.trans hk)⟩
      · exact absurd h2 (show ¬(2:Int)=3 by decide)
  unfold DD
  rw[hrun]
  cases ((UB st (FB t n r)).2.2&&EC (TB st (UB st (FB t n r)).2.1))
  · rfl
  · exact hput
theorem kO(l:List nE)(x:List iA)(z:KA):QJ l 0 x z=(x,z,0):=by cases l<;>rfl
theorem wP(b:Nat)(x:List iA)(z:KA):QJ [] b x z=(x,z,0):=by cases b<;>rfl
theorem qU{T:List nE}{P:List iA→Prop}(hP:∀x,P x→∀y∈T,tF x y.ops=DD x y.ops∧P (DD x y.ops).1){st:List iA}(h0:P st)(f:gE)(b:Nat)(hl:T.length≤1000) :
    ZC T st f b=((QJ (T.filter fun y=>!(KI y.key f.Last)) b st f.Last).1,⟨(QJ (T.filter fun y=>!(KI y.key f.Last)) b st f.Last).2.1,f.Over||decide ((QJ (T.filter fun y=>!(KI y.key f.Last)) b st f.Last).2.2=(T.filter fun y=>!(KI y.key f.Last)).length)⟩):=by
  have hrest:BA (TA T) (fun y0=>mC y0 f)=T.filter fun y=>!(KI y.key f.Last):=rfl
  generalize hF:(T.filter fun y=>!(KI y.key f.Last))=F at *
  have hmF:∀y∈F,y∈T:=fun y h=>by rw[←hF]at h;exact(List.mem_filter.1 h).1
  have hlF:F.length≤1000:=by rw[←hF];exact Nat.le_trans (List.length_filter_le _ _) hl
  generalize hR:QJ F b st f.Last=R
  unfold ZC
  rw[hrest]
  refine xK (body:=lG T st f b) (fun(s:List iA×Int×KA)=>∃j:Nat,s.2.1=j∧j≤min b F.length∧P s.1∧R=((QJ (F.drop j) (b-j) s.1 s.2.2).1,(QJ (F.drop j) (b-j) s.1 s.2.2).2.1,(QJ (F.drop j) (b-j) s.1 s.2.2).2.2+j)) (fun s=>((F.length:Int)-s.2.1).toNat) (fun(v:List iA×gE)=>v=(R.1,⟨R.2.1,f.Over||decide (R.2.2=F.length)⟩)) ?_ _ _ ⟨0,rfl,Nat.zero_le _,h0,by rw[←hR];rfl⟩ (by show((F.length:Int)-0).toNat<_;omega)
  rintro⟨x,c,z⟩ ⟨j,hc,hj,hPx,hRx⟩
  dsimp only at hc hPx hRx
  subst hc
  have fin:∀q:Nat,q=j→R=(x,z,q)→(bif f.Over then(SA x,(⟨z,true⟩:gE))else(SA x,(⟨z,decide ((j:Int)=(F.length:Int))⟩:gE)))=(R.1,⟨R.2.1,f.Over||decide (R.2.2=F.length)⟩):=fun q hq hR=>by
    subst hq
    rw[hR]
    have hd:decide ((q:Int)=(F.length:Int))=decide (q=F.length):=by rw[Bool.eq_iff_iff,decide_eq_true_eq,decide_eq_true_eq];omega
    rw[hd]
    cases f.Over<;>rfl
  unfold lG
  dsimp only
  rw[hrest]
  by_cases hlt:j<min b F.length
  · have hjF:j<F.length:=by omega
    rw[decide_eq_true (show(j:Int)<min (b:Int) (F.length:Int)by omega),cond_true,Int.toNat_natCast,DE hjF]
    obtain⟨e1,e2⟩:=hP x hPx F[j] (hmF _ (List.getElem_mem hjF))
    rw[e1]
    have hw:IntKind.wrap .i64 ((j:Int)+1)=((j+1:Nat):Int):=by rw[sG oM];rfl
    obtain⟨c,hc⟩:∃c,b-j=c+1:=⟨b-j-1,by omega⟩
    rw[List.drop_eq_getElem_cons hjF,hc]at hRx
    unfold QJ at hRx
    cases hd:(DD x F[j].ops).2
    · rw[hd]at hRx
      exact fin j rfl (by rw[hRx];show(x,z,0+j)=_;rw[Nat.zero_add])
    · rw[hd,cond_true]at hRx
      refine⟨⟨j+1,hw,oM,e2,?_⟩,?_⟩
      · rw[hRx,show b-(j+1)=c by omega]
        show(_,_,_+1+j)=(_,_,_+(j+1))
        rw[Nat.add_assoc,Nat.add_comm 1 j]
      · show((F.length:Int)-IntKind.wrap .i64 ((j:Int)+1)).toNat<((F.length:Int)-(j:Int)).toNat
        rw[hw];omega
  · rw[decide_eq_false (show ¬(j:Int)<min (b:Int) (F.length:Int)by omega),cond_false]
    refine fin j rfl ?_
    rw[hRx]
    by_cases hb:b≤F.length
    · rw[show b-j=0 by omega,kO,Nat.zero_add]
    · rw[List.drop_of_length_le (show F.length≤j by omega),wP,Nat.zero_add]
def kW:List nE→Int→List iA→KA→Int×List iA×KA
  | [],c,x,z=>(c,x,z)
  | y::l,c,x,z=>bif decide (c=0)then kW l c x z else bif KI y.key z then kW l c x z else bif(DD x y.ops).2 then kW l (IntKind.wrap .i64 (c-1)) (DD x y.ops).1 y.key else(c,x,z)
def aN(t:ZA)(n:KA)(r:rC):nE:=⟨(vB t r).Key,JF t (t.Idxs.getD (oC t n).toNat JA) r⟩
theorem FW(t:ZA)(n:KA)(st:List iA)(f:gE)(m:Int):OD t n st f m=((kW ((nB t st).map (aN t n)) m st f.Last).2.1,⟨(kW ((nB t st).map (aN t n)) m st f.Last).2.2,f.Over||!(eF (wC t (kW ((nB t st).map (aN t n)) m st f.Last).2.1) (kW ((nB t st).map (aN t n)) m st f.Last).2.2)⟩):=by
  unfold OD
  generalize hR:kW ((nB t st).map (aN t n)) m st f.Last=R
  have fin:∀s:Int×List iA×KA,s=R→(bif f.Over then(s.2.1,(⟨s.2.2,true⟩:gE))else(s.2.1,(⟨s.2.2,!(eF (wC t s.2.1) s.2.2)⟩:gE)))=(R.2.1,⟨R.2.2,f.Over||!(eF (wC t R.2.1) R.2.2)⟩):=fun s h=>by
    subst h
    cases f.Over<;>rfl
  refine ND (fun j (s:Int×List iA×KA)=>kW (((nB t st).drop j).map (aN t n)) s.1 s.2.1 s.2.2=R) (fun(v:List iA×gE)=>v=_) hR (fun s hs=>?_) (fun j s _ hj hs=>?_)
  · rw[List.drop_of_length_le oM]at hs
    exact fin s hs
  · have hj':j<(nB t st).length:=by omega
    rw[List.drop_eq_getElem_cons hj',←DE (d:=PD) hj',List.map_cons]at hs
    obtain⟨c,x,z⟩:=s
    unfold kW at hs
    unfold ZE
    dsimp only at hs ⊢
    cases h1:decide (c=0)
    · rw[h1,cond_false]at hs
      cases h2:KI (aN t n ((nB t st).getD j PD)).key z
      · rw[h2,cond_false]at hs
        rw[show KI (vB t ((nB t st).getD j PD)).Key z=false from h2]
        cases h3:(DD x (aN t n ((nB t st).getD j PD)).ops).2
        · rw[h3,cond_false]at hs
          rw[show(DD x (JF t (t.Idxs.getD (oC t n).toNat JA) ((nB t st).getD j PD))).2=false from h3]
          exact fin _ hs
        · rw[h3,cond_true]at hs
          rw[show(DD x (JF t (t.Idxs.getD (oC t n).toNat JA) ((nB t st).getD j PD))).2=true from h3]
          exact hs
      · rw[h2,cond_true]at hs
        rw[show KI (vB t ((nB t st).getD j PD)).Key z=true from h2]
        exact hs
    · rw[h1,cond_true]at hs;exact hs
theorem EO{l:List nE}{k z:KA}(h:∀y∈l,LI k y.key=true)(hk:KI k z=false∨k=z):(l.filter fun y=>!(KI y.key z))=l:=List.filter_eq_self.2 fun y hy=>by
  have h1:=h y hy
  have:LI z y.key=true:=by
    rcases hk with hk | rfl
    · exact vL (SU hk) h1
    · exact h1
  rw[bR this];rfl
theorem GN:∀(T:List nE),T.Pairwise (fun a b=>LI a.key b.key=true)→∀(b:Nat) (x:List iA) (z:KA),b≤24 →
    (kW T b x z).2=((QJ (T.filter fun y=>!(KI y.key z)) b x z).1,(QJ (T.filter fun y=>!(KI y.key z)) b x z).2.1)
  | [],_,b,x,z,_=>by rw[show([]:List nE).filter _=[]from rfl,wP];rfl
  | y::l,hu,b,x,z,hb=>by
    obtain⟨hu1,hu2⟩:=List.pairwise_cons.1 hu
    unfold kW
    cases b with
    | zero=>
      rw[show decide (((0:Nat):Int)=0)=true from rfl,cond_true,GN l hu2 0 x z hb,kO,kO]
    | succ b=>
      rw[show decide (((b+1:Nat):Int)=0)=false from decide_eq_false oM,cond_false]
      cases hz:KI y.key z
      · have hw:IntKind.wrap .i64 (((b+1:Nat):Int)-1)=(b:Int):=by rw[sG oM];omega
        have e1:=EO (z:=y.key) hu1 (.inr rfl)
        have e2:=EO (z:=z) hu1 (.inl hz)
        rw[cond_false,List.filter_cons,hz,e2]
        show _=((QJ (y::l) (b+1) x z).1,(QJ (y::l) (b+1) x z).2.1)
        unfold QJ
        cases (DD x y.ops).2
        · rfl
        · rw[cond_true,cond_true,hw,GN l hu2 b _ _ oM,e1]
      · rw[cond_true,GN l hu2 (b+1) x z hb,List.filter_cons,hz]
        rfl
theorem YS{P:List iA→Prop}:∀(l:List nE),(∀x,P x→∀y∈l,P (DD x y.ops).1)→∀(b:Nat) (x:List iA) (z:KA),P x→P (QJ l b x z).1
  | [],_,b,x,z,h=>by rw[wP];exact h
  | _::_,_,0,x,z,h=>h
  | y::l,hP,b+1,x,z,h=>by
    unfold QJ
    cases (DD x y.ops).2
    · exact h
    · exact YS l (fun x hx y hy=>hP x hx y (List.mem_cons_of_mem _ hy)) b _ _ (hP x h y (List.mem_cons_self ..))
theorem fU{E:List KA}(hu:wZ E){z:KA}{c:Nat}(hc:c≤(E.filter fun y=>!(KI y z)).length) :
    eF E (((E.filter fun y=>!(KI y z)).take c).getLastD z)=!decide (c=(E.filter fun y=>!(KI y z)).length):=by
  have hF:∀y,y∈(E.filter fun y=>!(KI y z))↔y∈E∧KI y z=false:=fun y=>by rw[List.mem_filter];simp
  have huF:wZ (E.filter fun y=>!(KI y z)):=List.Pairwise.filter _ hu
  generalize (E.filter fun y=>!(KI y z))=F at *
  rw[XW]
  by_cases hlen:c=F.length
  · rw[decide_eq_true hlen,hlen,List.take_length]
    refine Bool.eq_false_iff.2 fun h=>?_
    obtain⟨y,hyE,h2⟩:=List.any_eq_true.1 h
    have:KI y (F.getLastD z)=true:=by
      cases h3:KI y z
      · obtain⟨i,hi,rfl⟩:=List.mem_iff_getElem.1 ((hF y).2 ⟨hyE,h3⟩)
        obtain⟨q,hq⟩:∃q,F.length=q+1:=⟨F.length-1,by omega⟩
        have e:F.getLastD z=F[q]'oM:=by
          conv=>lhs;rw[←List.take_length (l:=F),hq,List.take_succ_eq_append_getElem oM]
          exact List.getLastD_concat ..
        rw[e]
        rcases Nat.lt_or_ge i q with hlt | hge
        · exact dR (List.pairwise_iff_getElem.1 huF i q hi oM hlt)
        · obtain rfl:i=q:=by omega
          unfold KI;rw[beq_self_eq_true,Bool.or_true]
      · cases hl:F.getLast? with
        | none=>rw[List.getLastD_eq_getLast?,hl];exact h3
        | some q=>
          rw[List.getLastD_eq_getLast?,hl]
          have hq:=(hF q).1 (List.mem_of_getLast? hl)
          exact SY h3 (dR (SU hq.2))
    rw[this]at h2;cases h2
  · rw[decide_eq_false hlen]
    have hcF:c<F.length:=by omega
    refine List.any_eq_true.2 ⟨F[c],((hF _).1 (List.getElem_mem hcF)).1,?_⟩
    cases c with
    | zero=>
      show(!(KI F[0] z))=true
      rw[((hF _).1 (List.getElem_mem hcF)).2];rfl
    | succ c=>rw[List.take_succ_eq_append_getElem oM,List.getLastD_concat,bR (List.pairwise_iff_getElem.1 huF c (c+1) oM oM oM)];rfl
theorem US{t:ZA}{n:KA}(hi:jE t n=true)(st:List iA):cB t n st=(nB t st).map (aN t n):=by
  rw[vK,OM (cJ hi)]
  refine List.map_congr_left fun r _=>?_
  unfold aN FB JF
  rw[BM,TW hi]
theorem pU(t:ZA)(n:KA)(st:List iA)(f:gE)(m:Int):(bif XE t n st then bif UH f then GJ m else false else false)=zF t n st f m:=by
  have h1:XE t n st=iG t n st:=by
    unfold iG XE jE
    rw[DG,bJ,←RJ]
    cases VB t<;>rfl
  have h3:GJ m=QC m 1 24:=rfl
  unfold zF
  rw[h1,lS,h3]
theorem zN(t:ZA)(n:KA)(st:List iA)(f:gE)(m:Int):RA t n st f m=xB t n st f m∧(RA t n st f m).1.length≤24:=by
  have hcond:=pU t n st f m
  unfold RA xB
  cases h:zF t n st f m
  · rw[h]at hcond
    refine⟨?_,Nat.zero_le _⟩
    revert hcond
    cases XE t n st
    · intro _;rfl
    · cases UH f
      · intro _;rfl
      · cases GJ m
        · intro _;rfl
        · intro h;cases h
  · rw[h]at hcond
    obtain⟨c1,c2⟩:=gD hcond
    obtain⟨c3,c4⟩:=gD c2
    rw[c1,c3,c4]
    obtain⟨hi,hr,_,hm⟩:=OL h
    obtain⟨hm1,hm2⟩:=CT hm
    obtain⟨b,rfl⟩:∃b:Nat,m=(b:Int):=⟨m.toNat,by omega⟩
    have hr5:EC st=true:=by rw[RJ];exact hr
    have hg:=cJ hi
    have hst:=LL hr
    have hlen:=tN hi st
    have hk:=VS hg n st
    have hP:∀x,(EC x=true∧x.filter (rQ t)=st.filter (rQ t))→∀y∈cB t n st,tF x y.ops=DD x y.ops∧(EC (DD x y.ops).1=true∧(DD x y.ops).1.filter (rQ t)=st.filter (rQ t)):=fun x hx y hy=>by
      rw[vK]at hy
      obtain⟨r,hrm,rfl⟩:=List.mem_map.1 hy
      obtain⟨a1,a2,a3⟩:=GW hi hx.1 (sT hg (uN hg hrm))
      exact⟨a1,a2,a3.trans hx.2⟩
    have hup:(cB t n st).Pairwise (fun a b=>LI a.key b.key=true):=by
      have:wZ ((cB t n st).map (·.key)):=by
        rw[hk]
        exact List.pairwise_map.2 (List.Pairwise.filter _ ((NK st).1 hr5).2.2.1)
      exact List.pairwise_map.1 this
    have e1:=qU hP ⟨hr5,rfl⟩ f b (by rw[vK,List.length_map];omega)
    have e2:=GN _ hup b st f.Last oM
    have e3:=FW t n st f b
    rw[←US hi st]at e3
    have hF:(((cB t n st).filter fun y=>!(KI y.key f.Last)).map (·.key))=((cB t n st).map (·.key)).filter fun y=>!(KI y f.Last):=by rw[List.filter_map];rfl
    have hinv:=YS (P:=fun x=>EC x=true∧x.filter (rQ t)=st.filter (rQ t)) ((cB t n st).filter fun y=>!(KI y.key f.Last)) (fun x hx y hy=>(hP x hx y (List.mem_filter.1 hy).1).2) b st f.Last ⟨hr5,rfl⟩
    obtain⟨hcl,hz⟩:=MU ((cB t n st).filter fun y=>!(KI y.key f.Last)) b st f.Last
    have hlF:((cB t n st).filter fun y=>!(KI y.key f.Last)).length=(((cB t n st).map (·.key)).filter fun y=>!(KI y f.Last)).length:=by rw[←hF,List.length_map]
    have hLe:=fU (E:=(cB t n st).map (·.key)) (List.pairwise_map.2 hup) (z:=f.Last) (c:=(QJ ((cB t n st).filter fun y=>!(KI y.key f.Last)) b st f.Last).2.2) (by rw[←hlF];exact hcl)
    rw[←hlF,←hF,←List.map_take,←hz]at hLe
    refine⟨?_,?_⟩
    · show((ZC (cB t n st) st f b).1,(ZC (cB t n st) st f b).2,true)=((OD t n st f b).1,(OD t n st f b).2,true)
      rw[e1,e3,e2]
      dsimp only
      rw[wU hg,hinv.2,←hk,hLe,Bool.not_not]
    · show(ZC (cB t n st) st f b).1.length≤24
      rw[e1]
      exact((NK _).1 hinv.1).2.2.2
theorem PP(t:ZA)(n:KA)(l:List iA)(f:gE)(m:Int)(hw:GM t)(_:ZN n)(hl:FT zL l)(_:ZO f)(_:BT m):EB t n l f m=true:=by
  unfold EB
  cases h0:decide (1048576<(n.length:Int))
  case true=>rfl
  cases h1:decide (CE t 1048576<0)
  case true=>rfl
  cases h2:decide (AF l (CE t 1048576)<0)
  case true=>rfl
  cases h3:decide (QI f (AF l (CE t 1048576))<0)
  case true=>rfl
  have hlt:=xT hw (of_decide_eq_false h1)
  have hll:=(WF hl (yE hw (by decide) (of_decide_eq_false h1)).2 (of_decide_eq_false h2)).1.1
  have hc:=(zN t n l f m).2
  obtain⟨_,h3⟩:=aX t 1 (by decide) oM
  obtain⟨_,h4,_⟩:=VQ l (EE t 1).1 oM oM
  obtain⟨h5,h6,_⟩:=VQ (RA t n l f m).1 1 (by decide) oM
  simp only[cond_false,←(zN t n l f m).1,BW,tV,OX,beq_self_eq_true,cond_true,h5]
  rw[h4,decide_eq_false oM,cond_false,h6,decide_eq_false oM,cond_false,decide_true];rfl

theorem iR{t:ZA}(h:VB t=true):t.Name.length≤2∧1≤t.Cols.length∧t.Cols.length≤5:=by
  have h1:=eH h
  have h2:=KR h
  omega
theorem fX{t:ZA}{r:rC}(h:t.Name.length≤2)(hl:r.Vals.length≤5)(hr:qG r):tB (vB t r):=by
  have h1:=sL (r.Vals.drop 1) fun x hx=>hr x (List.mem_of_mem_drop hx)
  rw[List.length_drop]at h1
  have h2:=hr.getD 0
  unfold vB
  rw[mR]
  refine⟨?_,?_⟩
  · show WE ((t.Name++([47]:KA))++(r.Vals.getD 0 kB))
    unfold WE
    simp only[lN]
    omega
  · show WE (([44]:KA).intercalate (r.Vals.drop 1))
    unfold WE
    omega
end Go.Proofs.YtoimdjojffkefaaGreatDoor
