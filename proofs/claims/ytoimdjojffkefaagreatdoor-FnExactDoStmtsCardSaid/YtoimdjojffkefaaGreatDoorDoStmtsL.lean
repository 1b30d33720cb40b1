/- Do Stmts: plain laws of the models. -/
import Derived.Test.YtoimdjojffkefaaGreatDoorDoStmtsT
set_option linter.unusedVariables false
set_option linter.unusedSimpArgs false
namespace Go.Proofs.YtoimdjojffkefaaGreatDoor
open Go.RowKit Go.X
theorem Fb{x:yF}{L:Int}(hw:vS x)(hL:0≤L∧L≤1048576)(h:¬YJ x L<0):xL x∧0≤YJ x L∧YJ x L≤1048576:=by
  unfold YJ at h ⊢
  obtain⟨a0,e0,h⟩:=Qe h
  rw[e0]
  have s0:=pS hw.1 hL a0
  exact⟨s0.1,s0.2⟩
theorem Re(x:yF):kY x=x:=rfl
theorem Be(x:yF):DJ x x=true:=by unfold DJ;simp only[beq_self_eq_true,cond_true,decide_true]
theorem DW(x:List vA)(L:Int):eF x L=zZ (fun s L=>IntKind.wrap .i64 (L-(s.length:Int))) wA x L:=by
  unfold eF zZ Td
  have:AG x L=fun k y=>bif decide (IntKind.wrap .i64 (y-((x.getD k wA).length:Int))<0)then .ret (-1)else .cont (IntKind.wrap .i64 (y-((x.getD k wA).length:Int))):=by
    funext k y;rfl
  rw[this]
theorem MI{x:List vA}{L:Int}(hw:(RU cQ) x)(hL:0≤L∧L≤1048576)(h:¬eF x L<0):(gG PE) x∧0≤eF x L∧eF x L≤1048576:=by
  rw[DW]at h ⊢
  exact JU wA pS hw hL h
theorem RX(x:List vA):OQ x=x:=QX wA (f:=fun s=>s) (fun _=>rfl) x
theorem JR(x:List vA):TG x x=true:=IR wA (f:=fun a b=>a==b) (fun _=>beq_self_eq_true _) x
theorem AZ{x:List yF}{L:Int}(hw:(RU vS) x)(hL:0≤L∧L≤1048576)(h:¬KJ x L<0):(gG xL) x∧0≤KJ x L∧KJ x L≤1048576:=JU MA (f:=YJ) Fb hw hL h
theorem Bd(x:List yF):fW x=x:=QX MA (f:=fun s=>s) (fun _=>rfl) x
theorem Hc(x:List yF):HK x x=true:=IR MA (f:=DJ) Be x
theorem lF{x:VA}{L:Int}(hw:FO x)(hL:0≤L∧L≤1048576)(h:¬vF x L<0):YD x∧0≤vF x L∧vF x L≤1048576:=by
  unfold vF at h ⊢
  obtain⟨a0,e0,h⟩:=Qe h
  rw[e0]
  have s0:=pS hw.1 hL a0
  obtain⟨a1,e1,h⟩:=Qe h
  rw[e1]
  have s1:=MI hw.2.1 s0.2 a1
  obtain⟨a2,e2,h⟩:=Qe h
  rw[e2]
  have s2:=AZ hw.2.2 s1.2 a2
  exact⟨⟨s0.1,s1.1,s2.1⟩,s2.2⟩
theorem Ib(x:VA):wT x=x:=rfl
theorem WZ(x:VA):ZH x x=true:=by unfold ZH;simp only[JR,Hc,beq_self_eq_true,cond_true,decide_true]
theorem PX{x:pA}{L:Int}(hw:uN x)(hL:0≤L∧L≤1048576)(h:¬uH x L<0):nC x∧0≤uH x L∧uH x L≤1048576:=by
  unfold uH at h ⊢
  obtain⟨a0,e0,h⟩:=Qe h
  rw[e0]
  have s0:=pS hw.1 hL a0
  obtain⟨a1,e1,h⟩:=Qe h
  rw[e1]
  have s1:=pS hw.2 s0.2 a1
  exact⟨⟨s0.1,s1.1⟩,s1.2⟩
theorem Jb(x:pA):xT x=x:=rfl
theorem XZ(x:pA):LH x x=true:=by unfold LH;simp only[beq_self_eq_true,cond_true,decide_true]
theorem zG{x:List pA}{L:Int}(hw:(RU uN) x)(hL:0≤L∧L≤1048576)(h:¬xG x L<0):(gG nC) x∧0≤xG x L∧xG x L≤1048576:=JU zA (f:=uH) PX hw hL h
theorem BZ(x:List pA):VR x=x:=QX zA (f:=fun s=>s) (fun _=>rfl) x
theorem PY(x:List pA):EI x x=true:=IR zA (f:=LH) XZ x
def wL(_:vA)(k:Int):Int×vA:=(IntKind.wrap .i64 (k+1),BC k)
theorem aS(x:vA)(k:Int)(h0:0≤k)(h1:k+((1:Nat):Int)≤4611686018427387904):(wL x k).1=k+((1:Nat):Int):=by
  unfold wL
  simp only[IntKind.wrap_i64];omega
theorem NN(a:List vA)(k:Int):lD a k=ZR wL a k:=by
  unfold lD
  exact Qa (d:=wA) (mk:=wL) (fun i k xs hi=>by unfold BH;simp only[List.set_set,dH hi,wL]) a k
theorem kU(a:List vA)(k:Int)(h0:0≤k)(h1:k+(nQ (fun _=>1) a:Int)≤4611686018427387904):dF (lD a k).2 k=(lD a k).1:=by
  rw[NN]
  unfold dF
  exact Ca (d:=wA) (mk:=wL) (c:=fun _=>1) a k aS (fun i k x hx _ _=>by unfold wF;simp only[hx,wL,eq_self,decide_true,beq_self_eq_true,cond_true]) h0 h1
theorem yP(a:List vA)(k:Int)(h0:0≤k)(h1:k+(((1:Nat)*a.length:Nat):Int)≤4611686018427387904):dF (lD a k).2 k=(lD a k).1∧(lD a k).1=k+(((1:Nat)*a.length:Nat):Int)∧(lD a k).2.length=a.length:=by
  rw[←EN]at h1 ⊢
  refine⟨kU a k h0 h1,?_,?_⟩
  · rw[NN];exact iR aS a k h0 h1
  · rw[NN];exact AM _ _ _
theorem jL(a:List vA)(k:Int)(h:k≤9223372036854775807):(lD a k).1≤9223372036854775807:=by
  unfold lD
  refine yD (fun _ (s:Int×List vA)=>s.1≤9223372036854775807) (fun(v:Int×List vA)=>v.1≤9223372036854775807) h (fun s hs=>hs) ?_
  rintro j ⟨k,x⟩ _ _ hk
  exact VP _
theorem AO(a:List vA)(k:Int)(h:k≤9223372036854775807):dF a k≤9223372036854775807:=by
  unfold dF
  refine yD (fun _ (s:Int)=>s≤9223372036854775807) (fun v=>v≤9223372036854775807) h (fun s hs=>hs) ?_
  intro j k' _ _ hk
  unfold wF
  dsimp only
  cases ((a.getD j wA)==BC k')<;>first | exact VP _ | exact oY
def BM(_:pA)(k:Int):Int×pA:=(IntKind.wrap .i64 ((IntKind.wrap .i64 ((IntKind.wrap .i64 (k+1))+1))+1),⟨BC k,BC (IntKind.wrap .i64 (k+1)),decide (Int.tmod (IntKind.wrap .i64 ((IntKind.wrap .i64 (k+1))+1)) 3=0)⟩)
theorem DT(x:pA)(k:Int)(h0:0≤k)(h1:k+((3:Nat):Int)≤4611686018427387904):(BM x k).1=k+((3:Nat):Int):=by
  unfold BM
  simp only[IntKind.wrap_i64];omega
theorem xO(a:List pA)(k:Int):CC a k=ZR BM a k:=by
  unfold CC
  exact Qa (d:=zA) (mk:=BM) (fun i k xs hi=>by unfold XH;simp only[List.set_set,dH hi,BM]) a k
theorem XV(a:List pA)(k:Int)(h0:0≤k)(h1:k+(nQ (fun _=>3) a:Int)≤4611686018427387904):nE (CC a k).2 k=(CC a k).1:=by
  rw[xO]
  unfold nE
  exact Ca (d:=zA) (mk:=BM) (c:=fun _=>3) a k DT (fun i k x hx _ _=>by unfold jE;simp only[hx,BM,eq_self,decide_true,beq_self_eq_true,cond_true]) h0 h1
theorem CT(a:List pA)(k:Int)(h0:0≤k)(h1:k+(((3:Nat)*a.length:Nat):Int)≤4611686018427387904):nE (CC a k).2 k=(CC a k).1∧(CC a k).1=k+(((3:Nat)*a.length:Nat):Int)∧(CC a k).2.length=a.length:=by
  rw[←EN]at h1 ⊢
  refine⟨XV a k h0 h1,?_,?_⟩
  · rw[xO];exact iR DT a k h0 h1
  · rw[xO];exact AM _ _ _
theorem eP(a:List pA)(k:Int)(h:k≤9223372036854775807):(CC a k).1≤9223372036854775807:=by
  unfold CC
  refine yD (fun _ (s:Int×List pA)=>s.1≤9223372036854775807) (fun(v:Int×List pA)=>v.1≤9223372036854775807) h (fun s hs=>hs) ?_
  rintro j ⟨k,x⟩ _ _ hk
  exact VP _
theorem dP(a:List pA)(k:Int)(h:k≤9223372036854775807):nE a k≤9223372036854775807:=by
  unfold nE
  refine yD (fun _ (s:Int)=>s≤9223372036854775807) (fun v=>v≤9223372036854775807) h (fun s hs=>hs) ?_
  intro j k' _ _ hk
  unfold jE
  dsimp only
  cases (((a.getD j zA).Key)==BC k')<;>cases (((a.getD j zA).Val)==BC (IntKind.wrap .i64 (k'+1)))<;>cases (((a.getD j zA).Gone)==decide (Int.tmod (IntKind.wrap .i64 ((IntKind.wrap .i64 (k'+1))+1)) 3=0))<;>first | exact VP _ | exact oY
theorem xS(xs:List yF)(f:yF→Bool):VF xs f=YV f MA xs:=rfl
theorem WO(xs:List nB)(f:nB→Bool):TD xs f=YV f XC xs:=rfl
theorem pM(xs:List pA)(f:pA→Bool):CF xs f=xs.any f:=LP f zA xs
theorem TO(xs:List vA)(f:vA→Bool):ZF xs f=xs.any f:=LP f wA xs
theorem YQ(xs:List vA)(y:vA):eG xs y=xs.any (fun x=>y==x):=LP _ wA xs
def zP(_:yF)(k:Int):Int×yF:=(IntKind.wrap .i64 ((IntKind.wrap .i64 ((IntKind.wrap .i64 (k+1))+1))+1),⟨BC k,IntKind.wrap .i64 (k+1),IntKind.wrap .i64 ((IntKind.wrap .i64 (k+1))+1)⟩)
theorem nY(x:yF)(k:Int)(h0:0≤k)(h1:k+((3:Nat):Int)≤4611686018427387904):(zP x k).1=k+((3:Nat):Int):=by
  unfold zP
  simp only[IntKind.wrap_i64];omega
theorem qQ(a:List yF)(k:Int):OG a k=ZR zP a k:=by
  unfold OG
  exact Qa (d:=MA) (mk:=zP) (fun i k xs hi=>by unfold UI;simp only[List.set_set,dH hi,zP]) a k
theorem UY(a:List yF)(k:Int)(h0:0≤k)(h1:k+(nQ (fun _=>3) a:Int)≤4611686018427387904):zM (OG a k).2 k=(OG a k).1:=by
  rw[qQ]
  unfold zM
  exact Ca (d:=MA) (mk:=zP) (c:=fun _=>3) a k nY (fun i k x hx _ _=>by unfold VN;simp only[hx,zP,eq_self,decide_true,beq_self_eq_true,cond_true]) h0 h1
theorem Rc(a:List yF)(k:Int)(h0:0≤k)(h1:k+(((3:Nat)*a.length:Nat):Int)≤4611686018427387904):zM (OG a k).2 k=(OG a k).1∧(OG a k).1=k+(((3:Nat)*a.length:Nat):Int)∧(OG a k).2.length=a.length:=by
  rw[←EN]at h1 ⊢
  refine⟨UY a k h0 h1,?_,?_⟩
  · rw[qQ];exact iR nY a k h0 h1
  · rw[qQ];exact AM _ _ _
theorem TQ(a:List yF)(k:Int)(h:k≤9223372036854775807):(OG a k).1≤9223372036854775807:=by
  unfold OG
  refine yD (fun _ (s:Int×List yF)=>s.1≤9223372036854775807) (fun(v:Int×List yF)=>v.1≤9223372036854775807) h (fun s hs=>hs) ?_
  rintro j ⟨k,x⟩ _ _ hk
  exact VP _
theorem Ra(a:VA)(k:Int)(h0:0≤k)(h1:k+((1*a.Cols.length+3*a.Idxs.length:Nat):Int)≤4611686018427387904):vO (YE a k).2 k=(YE a k).1∧(YE a k).1=k+((1*a.Cols.length+3*a.Idxs.length:Nat):Int):=by
  obtain⟨e0,n0,_⟩:=yP a.Cols k oM oM
  obtain⟨e1,n1,_⟩:=Rc a.Idxs (k+((1*a.Cols.length:Nat):Int)) oM oM
  have q1:vO (YE a k).2 k=(k+((1*a.Cols.length:Nat):Int))+((3*a.Idxs.length:Nat):Int):=by unfold vO YE;simp only[e0,n0,e1,n1,decide_eq_false (show ¬k+((1*a.Cols.length:Nat):Int)<0 by omega),decide_eq_false (show ¬(k+((1*a.Cols.length:Nat):Int))+((3*a.Idxs.length:Nat):Int)<0 by omega),cond_false]
  have q2:(YE a k).1=(k+((1*a.Cols.length:Nat):Int))+((3*a.Idxs.length:Nat):Int):=by unfold YE;simp only[n0,n1]
  exact⟨q1.trans q2.symm,q2.trans oM⟩
theorem CU(a:VA)(k:Int)(h:k≤9223372036854775807):(YE a k).1≤9223372036854775807:=by
  unfold YE
  exact(TQ _ _ (jL _ _ h))
theorem QO:aE=wE:=rfl
theorem vM{n lo hi:Int}(h:wE n lo hi=true):lo≤n∧n≤hi:=by
  unfold wE at h
  obtain⟨h1,h2⟩:=rD h
  exact⟨of_decide_eq_true h1,of_decide_eq_true h2⟩
theorem nN{n lo hi:Int}(h:aE n lo hi=true):lo≤n∧n≤hi:=vM h
theorem OS(l:List UInt8)(c:UInt8):decide (Lib.indexByte l c<0)=!(l.contains c):=by
  induction l with
  | nil=>rfl
  | cons b l ih=>
    have hge:=Lib.indexByte_ge l c
    rw[Bool.eq_iff_iff]at ih ⊢
    simp only[decide_eq_true_eq,Bool.not_eq_true',List.contains_cons]at ih ⊢
    unfold Lib.indexByte
    by_cases hb:b=c
    · subst hb;simp
    · have hb1:(b==c)=false:=by simpa using hb
      have hb2:(c==b)=false:=by simpa using fun h=>hb h.symm
      rw[hb1,hb2]
      simp only[Bool.false_or,Bool.false_eq_true,if_false]
      split
      · rename_i h
        have:Lib.indexByte l c=-1:=by simpa using h
        rw[←ih];omega
      · rename_i h
        have:Lib.indexByte l c≠-1:=by simpa using h
        constructor
        · intro h;omega
        · intro h;have:=ih.2 h;omega
theorem byte_back(b:UInt8):((b.toNat:Int)).toNat.toUInt8=b:=by simp
theorem Ea(s:vA)(b:UInt8):decide (VY s (b.toNat:Int)<0)=!(s.contains b):=by
  unfold VY
  rw[byte_back,OS]
def dL(more:vA)(b:UInt8):Bool:=kE (b.toNat:Int)||more.contains b
theorem rO(s more:vA):yJ s more=s.all (dL more):=by
  unfold yJ
  rw[LW (0:UInt8) (dL more) (r:=false) fun k=>by
    unfold YF dL KH vE
    rw[Ea]
    cases kE ((s.getD k 0).toNat:Int)<;>cases more.contains (s.getD k 0)<;>rfl]
  cases s.all (dL more)<;>rfl
theorem GW(a b:UInt8):decide ((a.toNat:Int)=(b.toNat:Int))=(a==b):=by
  rw[Bool.eq_iff_iff,decide_eq_true_iff,beq_iff_eq]
  constructor
  · intro h;exact UInt8.toNat.inj oM
  · intro h;rw[h]
theorem Vf{T:Type}(s more:vA)(k:Nat)(x0:Bool)(fr:Bool→T)(fd:Bool→T):ED (UA (AC s more k) (more.length-0) 0 x0) fr fd=fd (x0||more.contains (s.getD k 0)):=by
  rw[Mg (0:UInt8) (fun b=>(s.getD k 0)==b) fun j x=>by
    unfold AC
    rw[GW]
    cases x<;>rfl]
  rw[List.contains_eq_any_beq]
theorem RK(s more:vA):YG s more=s.all (dL more):=by
  unfold YG
  rw[LW (0:UInt8) (dL more) (r:=false) fun k=>by
    unfold pD dL kE
    simp only[Vf]
    cases decide (97≤((s.getD k 0).toNat:Int))<;>cases decide (((s.getD k 0).toNat:Int)≤122)<;>cases decide (48≤((s.getD k 0).toNat:Int))<;>cases decide (((s.getD k 0).toNat:Int)≤57)<;>cases more.contains (s.getD k 0)<;>rfl]
  cases s.all (dL more)<;>rfl
theorem IW(s:vA):wK s=GF s:=by
  unfold wK GF
  rw[rO,RK,QO]
theorem KW(s:vA):xK s=iG s:=by
  unfold xK iG
  rw[rO,RK]

theorem LU(l:List pA):pI l=l.map (·.Key):=by
  unfold pI
  rw[Wf (body:=vI l) (xs:=l) zA (fun w=>w.Key) fun k x _=>rfl]
  rfl
def SK(ks:List vA)(k:Nat):Bool:=bif decide (0<(k:Int))then cJ (ks.getD ((IntKind.wrap .i64 ((k:Int)-1)).toNat) wA) (ks.getD k wA)else true
theorem TT(ks:List vA):mI ks=(List.range ks.length).all fun k=>GF (ks.getD k wA)&&SK ks k:=by
  unfold mI
  rw[AT (fun k=>GF (ks.getD k wA)&&SK ks k) (r:=false) fun k _=>by
    unfold TE SK
    rw[IW,mR]
    cases GF (ks.getD k wA)<;>cases decide (0<(k:Int))<;>cases cJ (ks.getD ((IntKind.wrap .i64 ((k:Int)-1)).toNat) wA) (ks.getD k wA)<;>rfl]
  cases (List.range ks.length).all fun k=>GF (ks.getD k wA)&&SK ks k<;>rfl
theorem oK(l:List pA):yG l=(((List.range l.length).all fun k=>GE ((l.getD k zA).Key) ((l.getD k zA).Val) ((l.getD k zA).Gone)&&SK (l.map (·.Key)) k)&&decide ((l.length:Int)≤24)):=by
  have hg:∀k,(l.map (·.Key)).getD k wA=(l.getD k zA).Key:=by
    intro k
    simp only[List.getD_eq_getElem?_getD,List.getElem?_map]
    cases l[k]? <;> rfl
  unfold yG
  rw[AT (fun k=>GE ((l.getD k zA).Key) ((l.getD k zA).Val) ((l.getD k zA).Gone)&&SK (l.map (·.Key)) k) (r:=false) fun k _=>by
    unfold jF SK
    rw[hg,hg]
    cases GE ((l.getD k zA).Key) ((l.getD k zA).Val) ((l.getD k zA).Gone)<;>cases decide (0<(k:Int))<;>cases cJ (l.getD ((IntKind.wrap .i64 ((k:Int)-1)).toNat) zA).Key (l.getD k zA).Key<;>rfl]
  cases ((List.range l.length).all fun k=>GE ((l.getD k zA).Key) ((l.getD k zA).Val) ((l.getD k zA).Gone)&&SK (l.map (·.Key)) k)<;>rfl
theorem Dc{α:Type}(l:List α)(p q:α→Bool):(l.all p&&l.all q)=l.all fun x=>p x&&q x:=by
  induction l with
  | nil=>rfl
  | cons x l ih=>
    simp only[List.all_cons,←ih]
    cases p x<;>cases q x<;>cases l.all p<;>rfl
theorem NQ(v:vA)(g:Bool):oH v g=(iG v&&(!g||v==([]:vA))):=by
  unfold oH
  rw[KW]
  cases iG v<;>cases g<;>cases (v==([]:vA))<;>rfl
theorem UR(k v:vA)(g:Bool):GE k v g=(GF k&&oH v g):=by
  rw[NQ]
  unfold GE
  cases GF k<;>cases iG v<;>cases g<;>cases (v==([]:vA))<;>rfl
theorem wS(l:List pA):FH l=yG l:=by
  have hg:∀k,(l.map (·.Key)).getD k wA=(l.getD k zA).Key:=by
    intro k
    simp only[List.getD_eq_getElem?_getD,List.getElem?_map]
    cases l[k]? <;> rfl
  unfold FH
  rw[LU,TT,oK,pM,List.length_map]
  have h1:(!(l.any fun y=>DI y))=(List.range l.length).all fun k=>oH (l.getD k zA).Val (l.getD k zA).Gone:=by
    rw[List.not_any_eq_all_not,←HT zA]
    unfold DI
    simp only[Bool.not_not]
  rw[h1]
  have h2:((List.range l.length).all fun k=>GE ((l.getD k zA).Key) ((l.getD k zA).Val) ((l.getD k zA).Gone)&&SK (l.map (·.Key)) k)=(((List.range l.length).all fun k=>GF ((l.map (·.Key)).getD k wA)&&SK (l.map (·.Key)) k)&&(List.range l.length).all fun k=>oH (l.getD k zA).Val (l.getD k zA).Gone):=by
    rw[Dc]
    congr 1;funext k
    rw[UR,hg]
    cases GF (l.getD k zA).Key<;>cases oH (l.getD k zA).Val (l.getD k zA).Gone<;>cases SK (l.map (·.Key)) k<;>rfl
  rw[h2]
  cases decide ((l.length:Int)≤24)<;>cases ((List.range l.length).all fun k=>GF ((l.map (·.Key)).getD k wA)&&SK (l.map (·.Key)) k)<;>cases ((List.range l.length).all fun k=>oH (l.getD k zA).Val (l.getD k zA).Gone)<;>rfl
theorem KO(l:List pA):IF l=(yG l&&l.all fun w=>!w.Gone):=by
  unfold IF
  rw[wS,pM,List.not_any_eq_all_not]
  cases yG l<;>rfl
theorem xP:FD=rC:=by
  funext s m
  unfold FD rC
  rfl
theorem vL(s:vA):sH s=UD s:=by
  unfold sH UD
  rw[rO,RK,QO]
theorem xM(t:VA)(r:nB):sD t r=(r.Vals.all UD&&decide ((r.Vals.length:Int)=(t.Cols.length:Int))):=by
  unfold sD
  rw[LW wA UD (r:=false) fun k=>rfl]
  cases r.Vals.all UD<;>rfl
theorem tO(t:VA)(r:nB):wC t r=sD t r:=by
  rw[xM]
  unfold wC
  rw[TO,List.not_any_eq_all_not]
  unfold QI
  simp only[Bool.not_not,vL]
  cases decide ((r.Vals.length:Int)=(t.Cols.length:Int))<;>cases (r.Vals.all fun x=>UD x)<;>rfl
theorem ZY(l:List vA)(s:vA):decide (0≤gM l s)=l.any fun x=>x==s:=by
  have:gM l s=YV (fun x=>x==s) wA l:=rfl
  rw[this,LP]
def GR(l:List vA)(k:Nat):Bool:=rC (l.getD k wA) 3&&!((l.take k).any fun x=>x==l.getD k wA)
theorem RR(l:List vA):RI l=((List.range l.length).all (GR l)&&wE (l.length:Int) 2 4):=by
  unfold RI
  rw[AT (GR l) (r:=false) fun k _=>by
    unfold dG GR
    rw[ZY]
    cases rC (l.getD k wA) 3<;>cases ((l.take k).any fun x=>x==l.getD k wA)<;>rfl]
  cases (List.range l.length).all (GR l)<;>rfl
theorem mF(t:VA):AD t=FB t:=by
  unfold AD FB
  rw[RR,xP,QO]
  rw[AT (GR t.Cols) (r:=false) fun k _=>by
    unfold sF GR
    rw[YQ,xP]
    rw[show((t.Cols.take k).any fun x=>t.Cols.getD k wA==x)=((t.Cols.take k).any fun x=>x==t.Cols.getD k wA)by congr 1;funext x;rw[Bool.beq_comm]]
    cases rC (t.Cols.getD k wA) 3<;>cases ((t.Cols.take k).any fun x=>x==t.Cols.getD k wA)<;>rfl]
  have hb:ID t=DD t:=by
    funext k u
    unfold ID DD FG
    rw[xP,QO,mR]
    cases rC ((t.Idxs.getD k MA).Name) 1<;>cases wE ((t.Idxs.getD k MA).Col) 1 (IntKind.wrap .i64 ((t.Cols.length:Int)-1))<;>cases wE ((t.Idxs.getD k MA).Stage) 0 3<;>cases decide (0<(k:Int))<;>cases cJ ((t.Idxs.getD ((IntKind.wrap .i64 ((k:Int)-1)).toNat) MA).Name) ((t.Idxs.getD k MA).Name)<;>rfl
  rw[hb]
  cases rC t.Name 1<;>cases wE (t.Cols.length:Int) 2 4<;>cases decide (3<(t.Idxs.length:Int))<;>cases (List.range t.Cols.length).all (GR t.Cols)<;>rfl
theorem JW(t:VA)(r:nB):WG t r=NO t r:=by
  unfold WG NO
  rw[mF,tO]
theorem jI{t:VA}(h:FB t=true):2≤(t.Cols.length:Int)∧(t.Cols.length:Int)≤4∧(t.Idxs.length:Int)≤3:=by
  unfold FB at h
  obtain⟨_,h⟩:=rD h
  obtain⟨h1,h⟩:=rD h
  rw[RR,Bool.and_eq_true]at h1
  have h2:=vM h1.2
  refine⟨h2.1,h2.2,?_⟩
  cases h3:decide (3<(t.Idxs.length:Int))
  · have:=of_decide_eq_false h3;omega
  · rw[h3]at h;cases h
theorem cP{t:VA}(h:AD t=true):2≤(t.Cols.length:Int)∧(t.Cols.length:Int)≤4∧(t.Idxs.length:Int)≤3:=jI (mF t▸h)
theorem hU{t:VA}{r:nB}(h:sD t r=true):r.Vals.length=t.Cols.length:=by
  rw[xM,Bool.and_eq_true]at h
  have:=of_decide_eq_true h.2
  omega
theorem MQ(t:VA)(a:MB):HC t a=EF t a:=by
  unfold HC EF
  simp only[tO]
  cases decide (a.Kind=1)<;>cases decide (a.Kind=2)<;>cases decide (a.Kind=3)<;>cases sD t a.Old<;>cases decide ((a.New.Vals.length:Int)=0)<;>rfl
theorem MK(t:VA)(a:MB):hJ t a=zL t a:=by
  unfold hJ zL
  rw[mF,MQ]
theorem xJ(t:VA)(s:vA):xC t s=IE t s:=by
  unfold xC
  rw[xS]
  rfl
theorem XY(a:MB):JJ a=bI a:=by
  unfold JJ bI
  cases decide (a.Kind=0)<;>cases decide ((a.Old.Vals.length:Int)=0)<;>cases decide ((a.New.Vals.length:Int)=0)<;>rfl
theorem tT(t:VA)(s:iD):UB t s=nD t s:=by
  unfold UB nD
  simp only[MQ,XY,vL,xJ]
theorem lJ(t:VA)(s:iD):CI t s=QG t s:=by
  unfold CI QG
  rw[mF,tT]
theorem cW(t:VA)(n:vA):IE t n=YV (fun y=>BF y n) MA t.Idxs:=rfl
theorem UM(t:VA)(n:vA):(IE t n=-1∧∀x∈t.Idxs,x.Name≠n)∨∃(k:Nat) (_:k<t.Idxs.length),IE t n=(k:Int)∧(t.Idxs.getD k MA).Name=n∧∀j,j<k→(t.Idxs.getD j MA).Name≠n:=by
  rw[cW]
  rcases jM (fun y=>BF y n) MA t.Idxs with⟨h1,h2⟩ | ⟨k,hk,h1,h2,h3⟩
  · exact .inl ⟨h1,fun x hx e=>by have:=h2 x hx;unfold BF at this;rw[e,beq_self_eq_true]at this;cases this⟩
  · refine .inr ⟨k,hk,h1,?_,fun j hj e=>?_⟩
    · rw[xE hk];unfold BF at h2;exact eq_of_beq h2
    · have:=h3 j hj;rw[xE oM]at e;unfold BF at this;rw[e,beq_self_eq_true]at this;cases this
theorem pK(t:VA)(n:vA):-1≤IE t n∧IE t n<(t.Idxs.length:Int):=by
  rcases UM t n with⟨h,_⟩ | ⟨k,hk,h,_⟩<;>omega
theorem fM(t:VA)(n:vA):-1≤xC t n∧xC t n<(t.Idxs.length:Int):=by rw[xJ];exact pK t n
def PR(t:VA)(k:Nat):Bool:=rC (t.Idxs.getD k MA).Name 1&&wE (t.Idxs.getD k MA).Col 1 (IntKind.wrap .i64 ((t.Cols.length:Int)-1))&&wE (t.Idxs.getD k MA).Stage 0 3&&bif decide (0<(k:Int))then cJ (t.Idxs.getD ((IntKind.wrap .i64 ((k:Int)-1)).toNat) MA).Name (t.Idxs.getD k MA).Name else true
theorem kL(t:VA):FB t=(rC t.Name 1&&RI t.Cols&&decide (t.Idxs.length≤3)&&(List.range t.Idxs.length).all (PR t)):=by
  unfold FB
  rw[AT (PR t) (r:=false) fun k _=>by
    unfold DD PR
    cases rC (t.Idxs.getD k MA).Name 1<;>cases wE (t.Idxs.getD k MA).Col 1 (IntKind.wrap .i64 ((t.Cols.length:Int)-1))<;>cases wE (t.Idxs.getD k MA).Stage 0 3<;>cases decide (0<(k:Int))<;>cases cJ (t.Idxs.getD ((IntKind.wrap .i64 ((k:Int)-1)).toNat) MA).Name (t.Idxs.getD k MA).Name<;>rfl]
  have e:decide (t.Idxs.length≤3)=!decide (3<(t.Idxs.length:Int)):=by
    by_cases h:t.Idxs.length≤3
    · rw[decide_eq_true h,decide_eq_false oM];rfl
    · rw[decide_eq_false h,decide_eq_true oM];rfl
  rw[e]
  cases rC t.Name 1<;>cases RI t.Cols<;>cases decide (3<(t.Idxs.length:Int))<;>cases (List.range t.Idxs.length).all (PR t)<;>rfl
def YR(b:UInt8):Bool:=!decide ((b.toNat:Int)<97)&&!decide (122<(b.toNat:Int))
theorem bN(s:vA)(m:Int):rC s m=(s.all YR&&decide (1≤(s.length:Int))&&decide ((s.length:Int)≤m)):=by
  unfold rC
  rw[LW (0:UInt8) YR (r:=false) fun k=>by
    unfold fF YR
    cases decide (((s.getD k 0).toNat:Int)<97)<;>cases decide (122<((s.getD k 0).toNat:Int))<;>rfl]
  cases s.all YR<;>cases decide (1≤(s.length:Int))<;>rfl
theorem NL{s:vA}{m:Int}(h:rC s m=true):1≤(s.length:Int)∧(s.length:Int)≤m:=by
  rw[bN]at h
  simp only[Bool.and_eq_true,decide_eq_true_eq]at h
  exact⟨h.1.2,h.2⟩
structure kK (t:VA):Prop where
  name:t.Name.length=1
  cols:2≤t.Cols.length∧t.Cols.length≤4
  idxs:t.Idxs.length≤3
  idx:∀k,k<t.Idxs.length→(t.Idxs.getD k MA).Name.length=1∧1≤(t.Idxs.getD k MA).Col∧(t.Idxs.getD k MA).Col<(t.Cols.length:Int)∧0≤(t.Idxs.getD k MA).Stage∧(t.Idxs.getD k MA).Stage≤3
  rise:∀k,k+1<t.Idxs.length→(t.Idxs.getD k MA).Name<(t.Idxs.getD (k+1) MA).Name
theorem kK.of{t:VA}(h:FB t=true):kK t:=by
  have hf:=jI h
  rw[kL]at h
  simp only[Bool.and_eq_true,decide_eq_true_eq,List.all_eq_true,List.mem_range]at h
  obtain⟨⟨⟨h1,h2⟩,h3⟩,h4⟩:=h
  have h5:∀k,k<t.Idxs.length→_:=fun k hk=>h4 k hk
  unfold PR at h5
  simp only[Bool.and_eq_true]at h5
  refine⟨by have:=NL h1;omega,oM,h3,fun k hk=>?_,fun k hk=>?_⟩
  · obtain⟨⟨⟨a,b⟩,c⟩,d⟩:=h5 k hk
    have a:=NL a
    have b:=vM b
    have c:=vM c
    rw[HH oM]at b
    omega
  · have d:=(h5 (k+1) hk).2
    rw[HH oM,decide_eq_true (show 0<((k+1:Nat):Int)by omega)]at d
    have e:(((k+1:Nat):Int)-1).toNat=k:=by omega
    rw[e]at d
    exact(vY _ _).1 d
theorem PV{t:VA}{n:vA}(h:nI t n=true):(2≤(t.Cols.length:Int)∧(t.Cols.length:Int)≤4∧(t.Idxs.length:Int)≤3)∧(0≤xC t n∧xC t n<(t.Idxs.length:Int))∧1≤(vC t n).Col∧(vC t n).Col<(t.Cols.length:Int):=by
  unfold nI at h
  obtain⟨h1,h2⟩:=rD h
  have h2:=of_decide_eq_true h2
  have h3:=fM t n
  rw[mF]at h1
  have hg:=kK.of h1
  refine⟨jI h1,⟨h2,h3.2⟩,?_⟩
  unfold vC
  have:=hg.idx (xC t n).toNat oM
  omega
theorem hX{t:VA}{n:vA}(h:(CL t n).2=true):(2≤(t.Cols.length:Int)∧(t.Cols.length:Int)≤4∧(t.Idxs.length:Int)≤3)∧(0≤IE t n∧IE t n<(t.Idxs.length:Int))∧1≤(CL t n).1.Col∧(CL t n).1.Col<(t.Cols.length:Int):=by
  unfold CL at h ⊢
  cases h1:FB t
  · rw[h1]at h;cases h
  · rw[h1]at h
    simp only[cond_true]at h ⊢
    cases h2:decide (IE t n<0)
    · simp only[cond_false]
      have h2:=of_decide_eq_false h2
      have h3:=pK t n
      have:=(kK.of h1).idx (IE t n).toNat oM
      exact⟨jI h1,⟨by omega,h3.2⟩,by omega⟩
    · rw[h2]at h;cases h
theorem rT(t:VA)(n:vA):nI t n=(CL t n).2:=by
  unfold nI CL
  rw[mF,xJ]
  cases FB t
  · rfl
  · simp only[cond_true]
    by_cases h:IE t n<0
    · rw[decide_eq_true h,decide_eq_false (show ¬0≤IE t n by omega)];rfl
    · rw[decide_eq_false h,decide_eq_true (show 0≤IE t n by omega)];rfl
theorem dQ{t:VA}{n:vA}(h:(CL t n).2=true):(CL t n).1=vC t n∧(vC t n).Name=n:=by
  have hf:=hX h
  unfold CL at h ⊢
  unfold vC
  cases h1:FB t
  · rw[h1]at h;cases h
  · simp only[cond_true]
    rw[decide_eq_false (show ¬IE t n<0 by omega),xJ]
    refine⟨rfl,?_⟩
    rcases UM t n with⟨h,_⟩ | ⟨k,hk,h,h',_⟩
    · omega
    · rw[h];exact h'
theorem ON(t:VA)(n:vA):(VC t n).length=t.Name.length+n.length+2:=by
  unfold VC
  simp only[lN];omega
def KF(r:nB):Prop:=∀v∈r.Vals,v.length≤3
theorem KF.getD{r:nB}(h:KF r)(k:Nat):(r.Vals.getD k wA).length≤3:=by
  rcases Nat.lt_or_ge k r.Vals.length with hk | hk
  · exact h _ (HG hk)
  · rw[List.getD_eq_getElem?_getD,List.getElem?_eq_none hk];exact Nat.zero_le _
theorem tX{t:VA}{n:vA}{r:nB}(h:t.Name.length≤1∧n.length≤1)(hr:KF r){a b:Nat}:PE ((((VC t n)++(r.Vals.getD a wA))++([47]:vA))++(r.Vals.getD b wA)):=by
  have h1:=ON t n
  have h2:=hr.getD a
  have h3:=hr.getD b
  unfold PE
  simp only[lN];omega
theorem wU{t:VA}{x:yF}{r:nB}(h:t.Name.length≤1∧x.Name.length≤1)(hr:KF r){a b:Nat}:PE ((((((t.Name++([46]:vA))++x.Name)++([47]:vA))++(r.Vals.getD a wA))++([47]:vA))++(r.Vals.getD b wA)):=by
  have h2:=hr.getD a
  have h3:=hr.getD b
  unfold PE
  simp only[lN];omega
theorem sL{s:vA}(h:UD s=true):1≤(s.length:Int)∧(s.length:Int)≤3:=by
  unfold UD at h
  exact vM (rD h).1
theorem qJ{t:VA}{r:nB}(h:sD t r=true):r.Vals.length=t.Cols.length∧KF r:=by
  refine⟨hU h,fun v hv=>?_⟩
  rw[xM,Bool.and_eq_true]at h
  have:=sL (List.all_eq_true.1 h.1 v hv)
  omega
theorem uK{t:VA}{r:nB}(h:wC t r=true):r.Vals.length=t.Cols.length∧KF r:=qJ (tO t r▸h)
theorem RV{t:VA}{r:nB}(h:NO t r=true):(r.Vals.length=t.Cols.length∧2≤(t.Cols.length:Int)∧(t.Cols.length:Int)≤4∧(t.Idxs.length:Int)≤3)∧t.Name.length=1∧KF r:=by
  unfold NO at h
  obtain⟨h1,h2⟩:=rD h
  exact⟨⟨(qJ h2).1,jI h1⟩,(kK.of h1).name,(qJ h2).2⟩
theorem KQ{t:VA}{r:nB}(h:WG t r=true):(r.Vals.length=t.Cols.length∧2≤(t.Cols.length:Int)∧(t.Cols.length:Int)≤4∧(t.Idxs.length:Int)≤3)∧t.Name.length=1∧KF r:=RV (JW t r▸h)
theorem KR{t:VA}{n:vA}(h:nI t n=true):(2≤(t.Cols.length:Int)∧(t.Cols.length:Int)≤4∧(t.Idxs.length:Int)≤3)∧(0≤xC t n∧xC t n<(t.Idxs.length:Int))∧1≤(vC t n).Col∧(vC t n).Col<(t.Cols.length:Int)∧0≤(vC t n).Stage∧(vC t n).Stage≤3∧t.Name.length=1∧n.length=1:=by
  have h0:=PV h
  unfold nI at h
  obtain⟨h1,h2⟩:=rD h
  rw[mF]at h1
  have hg:=kK.of h1
  have h3:=dQ (t:=t) (n:=n) (by unfold CL;rw[h1,cond_true,decide_eq_false (by have:=of_decide_eq_true h2;rw[xJ]at this;omega)];rfl)
  refine⟨h0.1,h0.2.1,h0.2.2.1,h0.2.2.2,?_⟩
  have h4:=hg.idx (xC t n).toNat oM
  have h5:(t.Idxs.getD (xC t n).toNat MA).Name=n:=h3.2
  rw[h5]at h4
  unfold vC
  exact⟨h4.2.2.2.1,h4.2.2.2.2,hg.name,h4.1⟩
theorem tY{t:VA}(h:kK t):∀(j i:Nat),i<j→j<t.Idxs.length→(t.Idxs.getD i MA).Name<(t.Idxs.getD j MA).Name
  | 0,i,hi,_=>by omega
  | j+1,i,hi,hj=>by
    have h1:=h.rise j hj
    rcases Nat.lt_or_ge i j with h2 | h2
    · exact OT (tY h j i h2 oM) h1
    · obtain rfl:i=j:=by omega
      exact h1
theorem xX{t:VA}(h:kK t){k:Nat}(hk:k<t.Idxs.length):IE t (t.Idxs.getD k MA).Name=(k:Int):=by
  rcases UM t (t.Idxs.getD k MA).Name with⟨_,h2⟩ | ⟨j,hj,h1,h2,h3⟩
  · exact absurd rfl (h2 _ (HG hk))
  · rcases Nat.lt_or_ge j k with h4 | h4
    · have:=tY h k j h4 hk
      rw[h2]at this;exact absurd this (IU _)
    · rcases Nat.lt_or_ge k j with h5 | h5
      · exact absurd rfl (h3 k h5)
      · rw[h1];omega
theorem SQ{t:VA}{k:Nat}(hk:k<t.Idxs.length):0≤xC t (t.Idxs.getD k MA).Name∧xC t (t.Idxs.getD k MA).Name<(t.Idxs.length:Int):=by
  refine⟨?_,(fM _ _).2⟩
  rw[xJ]
  rcases UM t (t.Idxs.getD k MA).Name with⟨_,h2⟩ | ⟨j,hj,h1,_⟩
  · exact absurd rfl (h2 _ (HG hk))
  · omega
theorem lU(t:VA)(n:vA):vC t n=t.Idxs.getD (IE t n).toNat MA:=by unfold vC;rw[xJ]
theorem tI(l:List pA):fD l=IF l:=by
  rw[KO]
  unfold fD
  rw[LW zA (fun w=>!w.Gone) (r:=false) fun k=>by
    unfold iI
    cases (l.getD k zA).Gone<;>rfl]
  cases yG l<;>cases (l.all fun w=>!w.Gone)<;>rfl
theorem IN(t:VA)(n:vA):nI t n=true↔FB t=true∧0≤IE t n:=by
  unfold nI
  rw[mF,xJ]
  constructor
  · intro h
    obtain⟨h1,h2⟩:=rD h
    exact⟨h1,of_decide_eq_true h2⟩
  · rintro⟨h1,h2⟩
    rw[h1,decide_eq_true h2];rfl
theorem BW{t:VA}(hw:FO t)(h:¬vF t 1048576<0):t.Cols.length≤2147483648∧t.Idxs.length≤2147483648:=by
  have:=(lF hw (by decide) h).1
  exact⟨this.2.1.1,this.2.2.1⟩
theorem vT{s:vA}(h:GF s=true):s.length≤12:=by
  unfold GF at h
  have:=vM (rD h).1
  omega
theorem pQ{s:vA}(h:iG s=true):s.length≤24:=by
  unfold iG at h
  have:=of_decide_eq_true (rD h).1
  omega
theorem eW{k v:vA}{g:Bool}(h:GE k v g=true):k.length≤12∧v.length≤24:=by
  rw[UR,NQ]at h
  simp only[Bool.and_eq_true]at h
  exact⟨vT h.1,pQ h.2.1⟩
theorem GN{l:List pA}(h:yG l=true):l.length≤24∧∀k,k<l.length→(l.getD k zA).Key.length≤12∧(l.getD k zA).Val.length≤24:=by
  rw[oK,Bool.and_eq_true,decide_eq_true_eq]at h
  refine⟨by omega,fun k hk=>?_⟩
  have:=List.all_eq_true.1 h.1 k (List.mem_range.2 hk)
  rw[Bool.and_eq_true]at this
  exact eW this.1
theorem eQ(s:vA)(c:UInt8):BB s [c]=Lib.indexByte s c:=by
  unfold BB vE VY
  have h:((([c]:vA).getD 0 0).toNat:Int).toNat.toUInt8=c:=by simp
  rw[h]
  cases hc:([c]:vA)==s
  · rfl
  · have:s=[c]:=(eq_of_beq hc).symm
    subst this
    simp[Lib.indexByte]
theorem vW{s sub:vA}(h:sub.length=1):-1≤BB s sub∧BB s sub≤(s.length:Int)-1:=by
  match sub,h with
  | [c],_=>
    rw[eQ]
    rcases iJ c s with⟨_,h2⟩ | ⟨a,r,h1,_,h3⟩
    · rw[h2];omega
    · rw[h3,h1];simp only[List.length_append,List.length_cons];omega
theorem Gf{s sub:vA}(o:PE s)(h:sub.length=1)(hd:decide (0≤BB s sub)=true):0≤IntKind.wrap .i64 ((BB s sub)+(sub.length:Int))∧IntKind.wrap .i64 ((BB s sub)+(sub.length:Int))≤(s.length:Int):=by
  have h1:=of_decide_eq_true hd
  have h2:=vW (s:=s) h
  unfold PE at o
  rw[h,HH oM]
  omega
theorem OV{s p:vA}(h:kD s p=true):p.length≤s.length:=by
  unfold kD at h
  have:=of_decide_eq_true (rD h).1
  omega
theorem pW{t:VA}{n:vA}(h:t.Name.length≤1∧n.length≤1):PE (VC t n):=by
  have:=ON t n
  unfold PE;omega
theorem VM{s:vA}(h:PE s)(b:Int)(i:Nat):PE ((PA s b).getD i wA):=by
  have hh:∀x∈PA s b,PE x:=by
    unfold PA
    refine yD (fun _ (p:List vA×Int)=>∀x∈p.1,PE x) (fun(v:List vA)=>∀x∈v,PE x) (fun _ h=>by cases h) ?_ ?_
    · rintro⟨x,a⟩ hx y hy
      rcases List.mem_append.1 hy with hy | hy
      · exact hx y hy
      · rw[List.mem_singleton.1 hy];exact h.drop _
    · rintro j ⟨x,a⟩ _ _ hx
      unfold BG
      dsimp only
      cases decide (((s.getD j 0).toNat:Int)=b)
      · exact hx
      · intro y hy
        rcases List.mem_append.1 hy with hy | hy
        · exact hx y hy
        · rw[List.mem_singleton.1 hy];exact(h.take _).drop _
  rw[List.getD_eq_getElem?_getD]
  cases h1:(PA s b)[i]? with
  | none=>exact gC
  | some x=>exact hh x (List.mem_of_getElem? h1)

theorem KN(s:vA)(b:UInt8):PA s (b.toNat:Int)=sp b s:=by
  unfold PA
  refine yD (fun k (p:List vA×Int)=>0≤p.2∧p.2.toNat≤k∧b∉(s.take k).drop p.2.toNat∧p.1++sp b (s.drop p.2.toNat)=sp b s) (fun(v:List vA)=>v=sp b s) ⟨by omega,by simp,by simp,by simp⟩ ?_ ?_
  · rintro⟨x,a⟩ ⟨h1,h2,h3,h4⟩
    dsimp only at h1 h2 h3 h4 ⊢
    rw[show s.take (0+(s.length-0))=s from by rw[List.take_of_length_le oM]]at h3
    rw[OO h3]at h4
    exact h4
  · rintro j ⟨x,a⟩ _ hj ⟨h1,h2,h3,h4⟩
    have hj':j<s.length:=by omega
    unfold BG
    dsimp only at h1 h2 h3 h4 ⊢
    have ht:(s.take (j+1)).drop a.toNat=(s.take j).drop a.toNat++[s.getD j 0]:=by
      rw[xE hj',List.take_succ_eq_append_getElem hj',List.drop_append_of_le_length (by rw[List.length_take];omega)]
    have hd:s.drop a.toNat=(s.take j).drop a.toNat++s.getD j 0::s.drop (j+1):=by
      conv=>lhs;rw[←List.take_append_drop j s]
      rw[List.drop_append_of_le_length (by rw[List.length_take];omega),xE hj',List.drop_eq_getElem_cons hj']
    rw[GW]
    cases hc:s.getD j 0==b
    · refine⟨h1,oM,?_,h4⟩
      rw[ht]
      intro hm
      rcases List.mem_append.1 hm with hm | hm
      · exact h3 hm
      · rw[←List.mem_singleton.1 hm]at hc;simp at hc
    · have hb:s.getD j 0=b:=eq_of_beq hc
      refine⟨by omega,by simp,by simp,?_⟩
      rw[hd,hb,lL h3]at h4
      rw[←h4,List.append_assoc]
      show x++([_]++sp b (s.drop _))=_
      rw[show(((j+1:Nat):Int)).toNat=j+1 from by simp]
      rfl
theorem IZ{s:vA}{c:UInt8}(h:c∉s):(sE s [c]).2.2=false:=by
  have h1:BB s [c]=-1:=by
    rw[eQ]
    rcases iJ c s with⟨_,h2⟩ | ⟨a,r,h2,_,_⟩
    · exact h2
    · rw[h2]at h;simp at h
  unfold sE jD
  rw[h1];rfl
theorem TU{a r:vA}{c:UInt8}(h:c∉a)(hl:a.length≤1073741824):sE (a++c::r) [c]=(a,r,true):=by
  have h1:BB (a++c::r) [c]=(a.length:Int):=by
    rw[eQ]
    rcases iJ c (a++c::r)with⟨h2,_⟩ | ⟨a',r',h2,h3,h4⟩
    · simp at h2
    · have:a'::sp c r'=a::sp c r:=by rw[←lL h3,←lL h,h2]
      rw[h4,(List.cons.inj this).1]
  unfold sE jD
  rw[h1,decide_eq_true oM]
  simp only[cond_true]
  rw[HH (by simp only[List.length_cons,List.length_nil];omega)]
  have h2:((a.length:Int)).toNat=a.length:=by simp
  have h3:((a.length:Int)+(([c]:vA).length:Int)).toNat=a.length+1:=by simp only[List.length_cons,List.length_nil];omega
  rw[h2,h3]
  simp
theorem VQ{s:vA}(h:UD s=true):(47:UInt8)∉s:=by
  unfold UD at h
  obtain⟨_,h2⟩:=rD h
  rw[RK,List.all_eq_true]at h2
  intro hm
  exact absurd (h2 _ hm) (by decide)
theorem WM(k p:vA):(qB k p).2=p.isPrefixOf k∧((qB k p).2=true→(qB k p).1=k.drop p.length):=by
  have h:kD k p=p.isPrefixOf k:=by
    unfold kD
    by_cases hp:p <+: k
    · obtain⟨r,rfl⟩:=hp
      rw[decide_eq_true (by rw[List.length_append];omega),cond_true,List.take_left]
      simp
    · rw[show p.isPrefixOf k=false from by rw[Bool.eq_false_iff];intro e;exact hp (List.isPrefixOf_iff_prefix.1 e)]
      cases hd:decide ((p.length:Int)≤(k.length:Int))
      · rfl
      · rw[cond_true,beq_eq_false_iff_ne]
        intro e
        exact hp (e▸List.take_prefix ..)
  unfold qB uD
  rw[h]
  cases p.isPrefixOf k<;>simp
theorem Md{α:Type}(x d:α)(xs:List α):(x::xs).getD 0 d=x:=rfl
theorem Hf{α:Type}(x y d:α)(xs:List α):(x::y::xs).getD 1 d=y:=rfl
theorem If{α:Type}(x y z d:α)(xs:List α):(x::y::z::xs).getD 2 d=z:=rfl
theorem He{α:Type}{x y z:α}{xs:List α}(h:0<xs.length):decide (((x::y::z::xs).length:Int)=3)=false:=decide_eq_false (by simp only[List.length_cons];omega)
theorem sY{t:VA}{n k:vA}(hh:(47:UInt8)∉(t.Name++([46]:vA))++n)(hk:k.length≤1073741824):uB t n k=tC t n k:=by
  have hsp:PA k 47=sp 47 k:=KN k 47
  have hd:VC t n=((t.Name++([46]:vA))++n)++([47]:vA):=rfl
  unfold uB tC
  rw[hsp,hd]
  generalize (t.Name++([46]:vA))++n=hd at hh
  obtain⟨hc1,hc2⟩:=WM k (hd++([47]:vA))
  rcases eU 47 k with h47 | ⟨a,r,rfl,ha⟩
  · have hp:(qB k (hd++([47]:vA))).2=false:=by
      rw[hc1,Bool.eq_false_iff];intro e
      obtain⟨r,rfl⟩:=List.isPrefixOf_iff_prefix.1 e
      simp at h47
    rw[hp,OO h47];rfl
  · rw[lL ha]
    by_cases e:a=hd
    · subst e
      have hp:(a++([47]:vA)).isPrefixOf (a++47::r)=true:=List.isPrefixOf_iff_prefix.2 ⟨r,by simp⟩
      have hr:(qB (a++47::r) (a++([47]:vA))).1=r:=by
        rw[hc2 (hc1.trans hp)]
        rw[show a++47::r=(a++([47]:vA))++r from by simp,List.drop_left]
      rw[hc1.trans hp,hr,cond_true,Md,beq_self_eq_true,cond_true]
      rcases eU 47 r with h47 | ⟨b,u,rfl,hb⟩
      · rw[IZ h47,OO h47];rfl
      · rw[TU hb (by simp only[List.length_append,List.length_cons]at hk;omega),lL hb]
        rw[Hf]
        dsimp only
        rw[vL,vL,cond_true]
        rcases eU 47 u with h47 | ⟨d,v,rfl,hdd⟩
        · rw[OO h47,If];rfl
        · have hf:UD (d++47::v)=false:=by
            rw[Bool.eq_false_iff];intro e;exact VQ e (by simp)
          rw[lL hdd,He (yW 47 v),hf]
          cases UD b<;>rfl
    · have hp:(qB (a++47::r) (hd++([47]:vA))).2=false:=by
        rw[hc1,Bool.eq_false_iff];intro h
        obtain⟨r',h'⟩:=List.isPrefixOf_iff_prefix.1 h
        rw[List.append_assoc]at h'
        have:hd::sp 47 r'=a::sp 47 r:=by rw[←lL hh,←lL ha,←h'];rfl
        exact e (List.cons.inj this).1.symm
      have hg:((a::sp 47 r).getD 0 wA==hd)=false:=by rw[Md,beq_eq_false_iff_ne];exact e
      rw[hp,hg]
      cases decide (((a::sp 47 r).length:Int)=3)<;>rfl
theorem fP{s:vA}{m:Int}(h:rC s m=true):(47:UInt8)∉s:=by
  rw[bN,Bool.and_eq_true,Bool.and_eq_true,List.all_eq_true]at h
  intro hm
  exact absurd (h.1.1 _ hm) (by decide)
theorem nS{t:VA}{n:vA}(h:nI t n=true):(47:UInt8)∉(t.Name++([46]:vA))++n:=by
  have h2:=dQ (rT t n▸h)
  obtain⟨h3,h4⟩:=(IN t n).1 h
  have h5:=pK t n
  rw[lU]at h2
  rw[kL]at h3
  simp only[Bool.and_eq_true,List.all_eq_true,List.mem_range]at h3
  have h6:=h3.2 (IE t n).toNat oM
  unfold PR at h6
  simp only[Bool.and_eq_true]at h6
  have h7:=fP h6.1.1.1
  rw[h2.2]at h7
  have h8:=fP h3.1.1.1
  intro hm
  rcases List.mem_append.1 hm with hm | hm
  · rcases List.mem_append.1 hm with hm | hm
    · exact h8 hm
    · exact absurd (List.mem_singleton.1 hm) (by decide)
  · exact h7 hm
theorem wO{ρ σ:Type}{b b':Nat→σ→YH ρ σ}:∀(n k:Nat) (s:σ),(∀j s,k≤j→j<k+n→b j s=b' j s)→UA b n k s=UA b' n k s
  | 0,_,_,_=>rfl
  | n+1,k,s,h=>by
    have h1:=h k s (Nat.le_refl _) oM
    have ih:=fun s=>wO n (k+1) s fun j s h2 h3=>h j s oM oM
    simp only[UA]
    rw[h1]
    cases b' k s with
    | ret r=>rfl
    | brk s=>rfl
    | cont s=>exact ih s
theorem fX{t:VA}{n:vA}{l:List pA}(h:nI t n=true)(hl:yG l=true):lB t n l=tB t n l:=by
  have hk:=(GN hl).2
  unfold lB tB
  rw[wO (b:=pE t n l) (b':=OF t n l) _ _ _ fun j x _ hj=>by
    unfold pE OF
    have:=(hk j oM).1
    rw[sY (nS h) oM]]
theorem NV(t:VA)(n:vA)(l:List pA):(lB t n l).length≤l.length:=by
  unfold lB
  refine yD (fun k (x:List vA)=>x.length≤k) (fun(v:List vA)=>v.length≤l.length) (Nat.le_refl _) (fun s h=>by omega) ?_
  intro j x _ _ hx
  unfold pE
  cases (uB t n ((l.getD j zA).Key)).2.2
  · show x.length≤j+1;omega
  · show(x++_).length≤j+1
    rw[List.length_append];simp only[List.length_cons,List.length_nil];omega
theorem wM{l:List pA}(h:IF l=true):yG l=true:=by
  rw[KO,Bool.and_eq_true]at h
  exact h.1
theorem nK(sep x y:vA)(zs:List vA):sep.intercalate (x::y::zs)=x++(sep++sep.intercalate (y::zs)):=by
  simp[List.intercalate,List.intersperse]
theorem kM(sep x:vA):sep.intercalate [x]=x:=by simp[List.intercalate]
theorem MP(sep x:vA):∀xs:List vA,0<xs.length→sep.intercalate (xs++[x])=(sep.intercalate xs++sep)++x
  | [],h=>by simp at h
  | [y],_=>by show sep.intercalate (y::x::[])=_;rw[nK,kM,kM,List.append_assoc]
  | y::z::zs,_=>by
    show sep.intercalate (y::z::(zs++[x]))=_
    rw[nK,show z::(zs++[x])=(z::zs)++[x]from rfl,MP sep x (z::zs) (Nat.succ_pos _),nK]
    simp only[List.append_assoc]
theorem uL:∀xs:List vA,(∀x∈xs,x.length≤3)→(([44]:vA).intercalate xs).length≤4*xs.length
  | [],_=>Nat.zero_le _
  | [x],h=>by have:=h x (by simp);rw[kM,List.length_singleton];omega
  | x::y::zs,h=>by
    have h1:=h x (by simp)
    have h2:=uL (y::zs) fun z hz=>h z (List.mem_cons_of_mem _ hz)
    rw[nK,List.length_append,List.length_append,List.length_cons (as:=y::zs)]
    simp only[List.length_cons,List.length_nil]at h2 ⊢
    omega
theorem Ja{r:nB}(h:r.Vals.length≤4)(hr:KF r):(xD r.Vals ([44]:vA)).length≤1073741824:=by
  have:=uL r.Vals hr
  unfold xD;omega
theorem YY{r:nB}(h:r.Vals.length≤4)(hr:KF r):(xD (r.Vals.drop 1) ([44]:vA)).length≤1073741824:=by
  have:=uL (r.Vals.drop 1) fun x hx=>hr x (List.mem_of_mem_drop hx)
  rw[List.length_drop]at this
  unfold xD;omega
theorem yN(xs:List vA)(sep:vA):SI xs sep=xD xs sep:=by
  unfold SI xD
  refine yD (fun k (s:vA)=>s=sep.intercalate (xs.take k)) (fun(v:vA)=>v=sep.intercalate xs) rfl (fun s h=>by rw[h,List.take_of_length_le oM]) ?_
  intro j s _ hj hs
  have hj':j<xs.length:=by omega
  unfold dI
  dsimp only
  rw[List.take_succ_eq_append_getElem hj',xE hj']
  by_cases h0:0<j
  · rw[decide_eq_true oM,hs,MP _ _ _ (by rw[List.length_take];omega)];rfl
  · have:j=0:=by omega
    subst this
    rw[decide_eq_false oM,hs]
    show[]++_=_
    simp[List.intercalate]
def gV(a:MB):Prop:=(a.Kind≠2→0<a.New.Vals.length∧a.New.Vals.length≤4∧KF a.New)∧(a.Kind≠1→0<a.Old.Vals.length∧a.Old.Vals.length≤4∧KF a.Old)
def PO(s:iD):Prop:=s.Kind≠2→s.Kind≠3→gV s.Act
theorem jV{t:VA}{a:MB}(ht:2≤(t.Cols.length:Int)∧(t.Cols.length:Int)≤4)(h:HC t a=true):gV a:=by
  have row:∀r,wC t r=true→0<r.Vals.length∧r.Vals.length≤4∧KF r:=fun r hr=>by
    obtain⟨h1,h2⟩:=uK hr
    exact⟨by omega,oM,h2⟩
  unfold HC at h
  by_cases h1:a.Kind=1
  · rw[decide_eq_true h1,cond_true]at h
    exact⟨fun _=>row _ (rD h).2,fun h2=>absurd h1 h2⟩
  · rw[decide_eq_false h1,cond_false]at h
    by_cases h2:a.Kind=2
    · rw[decide_eq_true h2,cond_true]at h
      exact⟨fun h3=>absurd h2 h3,fun _=>row _ (rD h).1⟩
    · rw[decide_eq_false h2,cond_false]at h
      by_cases h3:a.Kind=3
      · rw[decide_eq_true h3,cond_true]at h
        obtain⟨h4,h5⟩:=rD h
        exact⟨fun _=>row _ (rD h5).1,fun _=>row _ h4⟩
      · rw[decide_eq_false h3]at h;cases h
theorem fU{t:VA}{s:iD}(h:CI t s=true):PO s:=by
  unfold CI at h
  obtain⟨h1,h2⟩:=rD h
  have h3:=cP h1
  intro k2 k3
  unfold UB at h2
  rw[decide_eq_false k2,decide_eq_false k3]at h2
  by_cases k1:s.Kind=1
  · rw[decide_eq_true k1,cond_true]at h2
    exact jV ⟨h3.1,h3.2.1⟩ (rD h2).1
  · rw[decide_eq_false k1]at h2;cases h2
theorem PL{r:nB}(h:r.Vals.length≤4)(hr:KF r):(eE r).length≤16∧(BD r).length≤16:=by
  have:=uL r.Vals hr
  unfold eE BD
  rw[yN]
  unfold xD
  omega
theorem xZ{s:iD}(h:PO s):s.Kind≠2→s.Kind≠3→(s.Act.Kind≠2→(eE s.Act.New).length≤16∧(BD s.Act.New).length≤16)∧(s.Act.Kind≠1→(eE s.Act.Old).length≤16∧(BD s.Act.Old).length≤16):=fun k2 k3=>by
  obtain⟨h1,h2⟩:=h k2 k3
  exact⟨fun k=>PL (h1 k).2.1 (h1 k).2.2,fun k=>PL (h2 k).2.1 (h2 k).2.2⟩

theorem AP(r:nB):BD r=eE r:=(yN _ _).symm
theorem QL(t:VA)(r:nB):LA t r=DB t r:=by
  unfold LA DB
  rw[yN]
theorem HV{α:Type}{b:Bool}{x y:List α}{n:Nat}(h:x.length≤n)(k:y.length≤n):(bif b then x else y).length≤n:=by cases b<;>assumption
theorem JT(t:VA)(x:yF)(a:MB):(tD t x a).length≤2:=by
  unfold tD
  repeat' first | exact nb rfl | apply HV
theorem kS(t:VA)(a:MB):(GG t a).length≤2:=by
  unfold GG
  repeat' first | exact nb rfl | apply HV
def ZO(t:VA)(a:MB):Prop:=(a.Kind≠2→a.New.Vals.length=t.Cols.length∧KF a.New)∧(a.Kind≠1→a.Old.Vals.length=t.Cols.length∧KF a.Old)
theorem OZ{t:VA}{a:MB}(h:HC t a=true):ZO t a:=by
  unfold HC at h
  by_cases h1:a.Kind=1
  · rw[decide_eq_true h1,cond_true]at h
    exact⟨fun _=>uK (rD h).2,fun h2=>absurd h1 h2⟩
  · rw[decide_eq_false h1,cond_false]at h
    by_cases h2:a.Kind=2
    · rw[decide_eq_true h2,cond_true]at h
      exact⟨fun h3=>absurd h2 h3,fun _=>uK (rD h).1⟩
    · rw[decide_eq_false h2,cond_false]at h
      by_cases h3:a.Kind=3
      · rw[decide_eq_true h3,cond_true]at h
        obtain⟨h4,h5⟩:=rD h
        exact⟨fun _=>uK (rD h5).1,fun _=>uK h4⟩
      · rw[decide_eq_false h3]at h;cases h
theorem bT{t:VA}{a:MB}(h:ZO t a):(a.Kind≠2→a.New.Vals.length=t.Cols.length)∧(a.Kind≠1→a.Old.Vals.length=t.Cols.length):=⟨fun k=>(h.1 k).1,fun k=>(h.2 k).1⟩
theorem gQ{t:VA}{a:MB}(ht:FB t=true)(h:ZO t a):(2≤(t.Cols.length:Int)∧(t.Cols.length:Int)≤4∧(t.Idxs.length:Int)≤3)∧t.Name.length≤1∧(a.Kind≠2→a.New.Vals.length=t.Cols.length)∧(a.Kind≠1→a.Old.Vals.length=t.Cols.length):=
  ⟨jI ht,by have:=(kK.of ht).name;omega,bT h⟩
theorem iY{t:VA}(h:kK t){k:Nat}(hk:k<t.Idxs.length):vC t (t.Idxs.getD k MA).Name=t.Idxs.getD k MA:=by
  rw[lU,xX h hk];rfl
theorem LM{t:VA}{a:MB}(ht:FB t=true)(_:ZO t a){k:Nat}(hk:k<t.Idxs.length):(0≤xC t (t.Idxs.getD k MA).Name∧xC t (t.Idxs.getD k MA).Name<(t.Idxs.length:Int))∧(0≤(vC t (t.Idxs.getD k MA).Name).Col∧(vC t (t.Idxs.getD k MA).Name).Col<(t.Cols.length:Int))∧(t.Idxs.getD k MA).Name.length≤1∧(0≤(t.Idxs.getD k MA).Col∧(t.Idxs.getD k MA).Col<(t.Cols.length:Int)):=by
  have hg:=kK.of ht
  have h1:=hg.idx k hk
  have h2:=SQ (t:=t) hk
  rw[iY hg hk]
  exact⟨h2,⟨by omega,h1.2.2.1⟩,oM,by omega,h1.2.2.1⟩
theorem SM{t:VA}{a:MB}(h:hJ t a=true):FB t=true∧ZO t a:=by
  unfold hJ at h
  obtain⟨h1,h2⟩:=rD h
  exact⟨mF t▸h1,OZ h2⟩
theorem LQ{t:VA}{a:MB}(h:zL t a=true):FB t=true∧ZO t a:=SM (MK t a▸h)
theorem La{t:VA}{a:MB}(h:HC t a=true):1≤a.Kind∧a.Kind≤3:=by
  unfold HC at h
  by_cases h1:a.Kind=1
  · omega
  · by_cases h2:a.Kind=2
    · omega
    · by_cases h3:a.Kind=3
      · omega
      · rw[decide_eq_false h1,decide_eq_false h2,decide_eq_false h3]at h;cases h
theorem qU{t:VA}{a:MB}(h:hJ t a=true):1≤a.Kind∧a.Kind≤3:=by
  unfold hJ at h
  exact La (rD h).2
theorem nU{t:VA}(h:kK t){k:Nat}(hk:k<t.Idxs.length)(r:nB):cB t (t.Idxs.getD k MA).Name r=LB t (t.Idxs.getD k MA) r:=by
  unfold cB LB VC
  rw[iY h hk]
theorem round_eq{t:VA}(h:kK t)(a:MB){k:Nat}(hk:k<t.Idxs.length)(x:List qE):pB t a k x=.cont (x++tD t (t.Idxs.getD k MA) a):=by
  unfold pB tD ZK sI
  dsimp only
  rw[nU h hk,nU h hk]
  generalize LB t (t.Idxs.getD k MA) a.New=eN
  generalize LB t (t.Idxs.getD k MA) a.Old=eO
  generalize (t.Idxs.getD k MA).Stage=st
  try rw[show(([]:vA)==([]:vA))=true from rfl]
  cases h1:decide (a.Kind=1)
  · simp only[cond_false,cond_true]
    cases decide (a.Kind=2)<;>simp only[cond_true,cond_false]
    · cases eO==[]<;>cases eN==[]<;>cases eO==eN<;>cases decide (1≤st)<;>cases decide (2≤st)<;>simp
    · cases eO==[]<;>cases decide (1≤st)<;>simp
  · rw[decide_eq_false (show ¬a.Kind=2 by have:=of_decide_eq_true h1;omega)]
    simp only[cond_false,cond_true]
    cases eN==[]<;>cases decide (2≤st)<;>simp
theorem MO{t:VA}{a:MB}(hg:FB t=true)(h:HC t a=true):ZD t a=bG t a:=by
  have hb:∀x,UA (pB t a) (t.Idxs.length-0) 0 x=UA (PJ t a) (t.Idxs.length-0) 0 x:=fun x=>
    wO _ _ _ fun j s _ hj=>round_eq (kK.of hg) a oM s
  unfold ZD bG GG
  simp only[hb,QL]
  unfold HC at h
  by_cases h1:a.Kind=1
  · rw[decide_eq_true h1];rfl
  · rw[decide_eq_false h1,cond_false]at h
    by_cases h2:a.Kind=2
    · rw[decide_eq_false h1,decide_eq_true h2];rfl
    · rw[decide_eq_false h2,cond_false]at h
      by_cases h3:a.Kind=3
      · rw[decide_eq_true h3,cond_true]at h
        have h6:a.Old.Vals.getD 0 wA=a.New.Vals.getD 0 wA:=eq_of_beq (rD (rD h).2).2
        have h7:(DB t a.New).Key=(DB t a.Old).Key:=by unfold DB;dsimp only;rw[h6]
        rw[decide_eq_false h1,decide_eq_false h2,h7];rfl
      · rw[decide_eq_false h3]at h;cases h
theorem nX(t:VA)(a:MB):(bG t a).length≤2+2*t.Idxs.length:=by
  unfold bG
  refine yD (fun k (x:List qE)=>x.length≤2+2*k) (fun(v:List qE)=>v.length≤2+2*t.Idxs.length) (kS t a) (fun s hs=>by omega) ?_
  intro j x _ _ hx
  have:=JT t (t.Idxs.getD j MA) a
  show(x++tD t (t.Idxs.getD j MA) a).length≤2+2*(j+1)
  rw[List.length_append];omega
theorem QV{s:Int}(h:FG s=true):0≤s∧s≤3:=nN h
theorem mW{s:vA}(h:PE s){b:Int}:gG PE (PA s b):=by
  have h':s.length≤1073741824:=h
  unfold PA
  refine yD (fun k (p:List vA×Int)=>p.1.length≤k∧∀y∈p.1,PE y) (fun(v:List vA)=>gG PE v) ⟨Nat.zero_le _,fun _ h=>by cases h⟩ ?_ ?_
  · rintro⟨x,a⟩ ⟨h1,h2⟩
    dsimp only at h1 h2 ⊢
    refine⟨by rw[List.length_append,List.length_singleton];omega,fun y hy=>?_⟩
    rcases List.mem_append.1 hy with hy | hy
    · exact h2 y hy
    · rw[List.mem_singleton.1 hy];exact AI h _
  · rintro j ⟨x,a⟩ _ hj ⟨h1,h2⟩
    dsimp only at h1 h2
    unfold BG
    dsimp only
    cases decide (((s.getD j 0).toNat:Int)=b)
    · exact⟨Nat.le_succ_of_le h1,h2⟩
    · refine⟨by rw[List.length_append,List.length_singleton];omega,fun y hy=>?_⟩
      rcases List.mem_append.1 hy with hy | hy
      · exact h2 y hy
      · rw[List.mem_singleton.1 hy];exact AI (PE.take h _) _
theorem EM(s:vA)(b:Int):1≤(PA s b).length∧(PA s b).length≤s.length+1:=by
  unfold PA
  refine yD (fun k (p:List vA×Int)=>p.1.length≤k) (fun(v:List vA)=>1≤v.length∧v.length≤s.length+1) (Nat.zero_le _) ?_ ?_
  · rintro⟨x,a⟩ h1
    dsimp only at h1 ⊢
    rw[List.length_append,List.length_singleton];omega
  · rintro j ⟨x,a⟩ _ hj h1
    dsimp only at h1
    unfold BG
    dsimp only
    cases decide (((s.getD j 0).toNat:Int)=b)
    · exact Nat.le_succ_of_le h1
    · show(x++_).length≤_
      rw[List.length_append,List.length_singleton];omega
theorem iS(s sep:vA):1≤(xA s sep).length∧(xA s sep).length≤s.length+1:=⟨yW _ _,yQ _ _⟩
theorem bW(c:UInt8):∀s:vA,([c]:vA).intercalate (sp c s)=s
  | []=>rfl
  | b::s=>by
    have ih:=bW c s
    unfold sp
    split
    · rename_i h
      subst h
      have h0:=yW b s
      cases hs:sp b s with
      | nil=>rw[hs]at h0;exact absurd h0 (Nat.lt_irrefl _)
      | cons x xs=>rw[nK,←hs,ih];rfl
    · have h0:=yW c s
      cases hs:sp c s with
      | nil=>rw[hs]at h0;exact absurd h0 (Nat.lt_irrefl _)
      | cons x xs=>
        rw[hs]at ih
        rw[List.headD_cons,List.tail_cons]
        cases xs with
        | nil=>rw[kM]at ih ⊢;rw[ih]
        | cons y ys=>rw[nK]at ih ⊢;rw[List.cons_append,ih]
theorem JQ(s:vA):PA s 44=sp 44 s:=KN s 44
theorem KT(s:vA):eE (QC s)=s:=by
  unfold eE QC
  rw[yN,JQ]
  exact bW 44 s
def oR(s:iD):Prop:=s.Kind≠2→s.Kind≠3→(s.Act.Kind≠2→(eE s.Act.New).length≤1073741824)∧(s.Act.Kind≠1→(eE s.Act.Old).length≤1073741824)
theorem KL{t:VA}(hg:FB t=true){s:iD}(h:UB t s=true):PO s:=fU (t:=t) (by unfold CI;rw[mF,hg,cond_true,h])
theorem nW{xs:List vA}(h:∀y∈xs,PE y)(i:Nat):PE (xs.getD i wA):=by
  rw[List.getD_eq_getElem?_getD]
  cases h1:xs[i]? with
  | none=>exact gC
  | some x=>exact h x (List.mem_of_getElem? h1)
theorem Le{w:List vA}(h:∀y∈w,PE y):oR (aB w)∧((aB w).Kind=1→(aB w).Act.Kind=3→0<(aB w).Act.Old.Vals.length):=by
  have h2:(eE (QC (w.getD 2 wA))).length≤1073741824:=by rw[KT];exact nW h 2
  have h4:(eE (QC (w.getD 4 wA))).length≤1073741824:=by rw[KT];exact nW h 4
  have h0:(eE (⟨[]⟩:nB)).length≤1073741824:=by decide
  have hv:0<(QC (w.getD 2 wA)).Vals.length:=(EM _ _).1
  unfold oR aB
  cases decide ((w.length:Int)=3)<;>cases decide ((w.length:Int)=5)<;>cases (w.getD 0 wA)==([103,101,116]:vA)<;>cases (w.getD 0 wA)==([114,97,110,103,101]:vA)<;>cases (w.getD 0 wA)==([105,110,115,101,114,116]:vA)<;>cases (w.getD 0 wA)==([100,101,108,101,116,101]:vA)<;>cases (w.getD 0 wA)==([117,112,100,97,116,101]:vA) <;>
    simp only[cond_true,cond_false]<;>exact⟨fun _ _=>⟨fun _=>by assumption,fun _=>by assumption⟩,fun k1 k2=>by first | exact hv | exact absurd k1 (by decide) | exact absurd k2 (by decide)⟩
theorem Kb{s:vA}(h:PE s):oR (aB (PA s 32))∧((aB (PA s 32)).Kind=1→(aB (PA s 32)).Act.Kind=3→0<(aB (PA s 32)).Act.Old.Vals.length):=Le (mW h).2
theorem Kc{t:VA}(h:FB t=true):t.Name.length≤1:=Nat.le_of_eq (kK.of h).name
theorem Je{t:VA}(h:t.Name.length≤1):PE (t.Name++([47]:vA)):=by unfold PE;rw[List.length_append];show t.Name.length+1≤_;omega

theorem YZ{t:VA}{r:nB}(h:sD t r=true){v:vA}(hv:v∈r.Vals):1≤v.length∧v.length≤3:=by
  rw[xM,Bool.and_eq_true]at h
  have:=sL (List.all_eq_true.1 h.1 v hv)
  omega
def UQ(w:pA):nB:=⟨[w.Key.drop 2]++PA w.Val 44⟩
theorem EQ(s:vA):xA s ([44]:vA)=PA s 44:=(JQ s).symm
theorem LV{p s k:vA}(h:s=p++k):p.isPrefixOf s=true:=by subst h;simp
theorem SR(t:VA)(w:pA):NE t w=bif decide ((w.Key.length:Int)<3)then(⟨[]⟩,false)else(UQ w,sD t (UQ w)&&(((t.Name++([47]:vA))++w.Key.drop 2==w.Key)&&(((DB t (UQ w)).Val==w.Val)&&(false==w.Gone)))):=by
  unfold NE
  cases decide ((w.Key.length:Int)<3)
  · show(bif sD t (UQ w)then _ else _)=_
    cases sD t (UQ w)<;>rfl
  · rfl
theorem Ya{t:VA}(hg:FB t=true)(w:pA):bC t w=bif(NE t w).2 then((NE t w).1,true)else(⟨[]⟩,false):=by
  have hn:=(kK.of hg).name
  have hpl:(t.Name++([47]:vA)).length=2:=by rw[List.length_append,hn];rfl
  obtain⟨c1,c2⟩:=WM w.Key (t.Name++([47]:vA))
  rw[hpl]at c2
  rw[SR]
  unfold bC
  rw[c1]
  cases hp:(t.Name++([47]:vA)).isPrefixOf w.Key
  · rw[cond_false]
    have hne:((t.Name++([47]:vA))++w.Key.drop 2==w.Key)=false:=by
      cases hh:((t.Name++([47]:vA))++w.Key.drop 2==w.Key)
      · rfl
      · rw[LV (eq_of_beq hh).symm]at hp;cases hp
    cases decide ((w.Key.length:Int)<3)
    · rw[cond_false,hne,Bool.false_and,Bool.and_false];rfl
    · rfl
  · rw[c1]at c2
    rw[cond_true,c2 hp,EQ]
    show(bif wC t (UQ w)then _ else _)=_
    rw[tO]
    cases hgd:sD t (UQ w)
    · cases decide ((w.Key.length:Int)<3)<;>rfl
    · have h1:=YZ hgd (v:=w.Key.drop 2) (List.mem_cons_self ..)
      rw[List.length_drop]at h1
      rw[decide_eq_false oM,cond_false,cond_true,Bool.true_and,QL]
      show(bif(w.Key==(t.Name++([47]:vA))++w.Key.drop 2)&&((w.Val==(DB t (UQ w)).Val)&&(w.Gone==false))then _ else _)=_
      rw[BEq.comm (a:=w.Key),BEq.comm (a:=w.Val),BEq.comm (a:=w.Gone)]
      rfl
theorem lZ{t:VA}{w:pA}(h:(NE t w).2=true):sD t (NE t w).1=true:=by
  rw[SR]at h ⊢
  cases hd:decide ((w.Key.length:Int)<3)<;>rw[hd]at h
  · exact(Bool.and_eq_true _ _▸h).1
  · cases h
theorem wQ{t:VA}(hg:FB t=true)(l:List pA):OD t l=PC t l:=by
  unfold OD PC
  have:iF t l=aH t l:=by
    funext k x
    unfold iF aH
    rw[Ya hg]
    cases (NE t (l.getD k zA)).2<;>rfl
  rw[this]
theorem tN(t:VA)(l:List pA):(PC t l).length≤l.length∧∀y∈PC t l,sD t y=true:=by
  unfold PC
  refine yD (fun k (p:List nB)=>p.length≤k∧∀y∈p,sD t y=true) (fun(v:List nB)=>v.length≤l.length∧∀y∈v,sD t y=true) ⟨Nat.le_refl _,fun _ h=>by cases h⟩ (fun s hs=>⟨by have:=hs.1;omega,hs.2⟩) ?_
  intro j x _ _ ⟨h1,h2⟩
  unfold aH
  dsimp only
  cases h:(NE t (l.getD j zA)).2
  · exact⟨Nat.le_succ_of_le h1,h2⟩
  · refine⟨by rw[List.length_append,List.length_singleton];omega,fun y hy=>?_⟩
    rcases List.mem_append.1 hy with hy | hy
    · exact h2 y hy
    · rw[List.mem_singleton.1 hy];exact lZ h
theorem Xc(t:VA)(l:List pA){k:Nat}(hk:k<(PC t l).length):sD t ((PC t l).getD k XC)=true:=(tN t l).2 _ (by rw[xE hk];exact List.getElem_mem hk)
theorem EX{t:VA}(hg:FB t=true){l:List pA}{y:nB}(h:y∈OD t l):sD t y=true:=(tN t l).2 y (wQ hg l▸h)
theorem ZU(s:vA):xA s ([32]:vA)=PA s 32:=(KN s 32).symm
theorem Za(s:vA):mD s=QC s:=by unfold mD QC;rw[EQ]
theorem AW(t:VA)(s:iD):kC t s=FF t s:=by
  unfold kC FF
  rw[AP,AP]
def yO:iD:=⟨0,⟨0,⟨[]⟩,⟨[]⟩⟩,[],[],[]⟩
theorem zY(t:VA)(s:vA):XB t s=(aB (PA s 32),nD t (aB (PA s 32))&&(FF t (aB (PA s 32))==s)):=by
  unfold XB
  cases nD t (aB (PA s 32))<;>rfl
theorem jX{s a r:vA}(h:(32:UInt8)∉a)(e:s=a++32::r):(PA s 32).getD 0 wA=a:=by
  subst e
  have:PA (a++32::r) 32=sp 32 (a++32::r):=KN _ 32
  rw[this,lL h];rfl
theorem EW(A B:Bool)(x:iD):(bif A then(bif B then(x,true)else(yO,false))else(yO,false))=bif A&&B then(x,true)else(yO,false):=by cases A<;>cases B<;>rfl
theorem IT(t:VA)(s:vA):FA t s=bif(XB t s).2 then((XB t s).1,true)else(yO,false):=by
  have hf:=@jX s
  rw[zY]
  unfold FA
  simp only[ZU,tT,AW,Za]
  generalize hw:PA s 32=w at hf ⊢
  generalize hx:w.getD 0 wA=x at hf ⊢
  have hno:nD t yO=false:=rfl
  have hget:∀low,(x==([103,101,116]:vA))=false→(FF t ⟨2,⟨0,⟨[]⟩,⟨[]⟩⟩,[],low,[]⟩==s)=false:=fun low h=>by
    cases hh:(FF t ⟨2,⟨0,⟨[]⟩,⟨[]⟩⟩,[],low,[]⟩==s)
    · rfl
    · have e:=(eq_of_beq hh).symm
      have:=hf (a:=[103,101,116]) (r:=(t.Name++[32])++low) (by decide) (e.trans (by show((([103,101,116,32]:vA)++t.Name)++[32])++low=_;simp))
      rw[this]at h;cases h
  have hrange:∀a b c,(x==([114,97,110,103,101]:vA))=false→(FF t ⟨3,⟨0,⟨[]⟩,⟨[]⟩⟩,a,b,c⟩==s)=false:=fun a b c h=>by
    cases hh:(FF t ⟨3,⟨0,⟨[]⟩,⟨[]⟩⟩,a,b,c⟩==s)
    · rfl
    · have e:=(eq_of_beq hh).symm
      have:=hf (a:=[114,97,110,103,101]) (r:=t.Name++([32]++(a++([32]++(b++([32]++c)))))) (by decide) (e.trans (by show(((((([114,97,110,103,101,32]:vA)++t.Name)++[32])++a)++[32])++b)++[32]++c=_;simp))
      rw[this]at h;cases h
  unfold aB
  rw[hx]
  cases h3:decide ((w.length:Int)=3)
  · cases h5:decide ((w.length:Int)=5)
    · simp only[cond_false]
      rfl
    · simp only[cond_true,cond_false]
      cases hu:x==([117,112,100,97,116,101]:vA)
      · simp only[cond_false]
        cases hr:x==([114,97,110,103,101]:vA)
        · simp only[cond_false]
          rw[hrange _ _ _ hr]
          show _=bif nD t yO&&_ then _ else _
          rw[hno,Bool.false_and]
          cases nD t _<;>rfl
        · simp only[cond_true];exact EW _ _ _
      · have e:=eq_of_beq hu
        subst e
        simp only[cond_true,show((([117,112,100,97,116,101]:vA)==([114,97,110,103,101]:vA))=false)from rfl,cond_false];exact EW _ _ _
  · have h5:decide ((w.length:Int)=5)=false:=decide_eq_false (by have:=of_decide_eq_true h3;omega)
    rw[h5]
    simp only[cond_true,cond_false]
    cases hi:x==([105,110,115,101,114,116]:vA)
    · cases hd:x==([100,101,108,101,116,101]:vA)
      · simp only[cond_false]
        cases hg:x==([103,101,116]:vA)
        · simp only[cond_false]
          rw[hget _ hg]
          show _=bif nD t yO&&_ then _ else _
          rw[hno,Bool.false_and]
          cases nD t _<;>rfl
        · simp only[cond_true];exact EW _ _ _
      · have e:=eq_of_beq hd
        subst e
        simp only[cond_true,show((([100,101,108,101,116,101]:vA)==([103,101,116]:vA))=false)from rfl,cond_false];exact EW _ _ _
    · have e:=eq_of_beq hi
      subst e
      simp only[cond_true,show((([105,110,115,101,114,116]:vA)==([103,101,116]:vA))=false)from rfl,cond_false];exact EW _ _ _
theorem Fe{t:VA}(h:FB t=true){k:Nat}(hk:k<t.Idxs.length):0≤(t.Idxs.getD k MA).Col∧(t.Idxs.getD k MA).Col<(t.Cols.length:Int)∧0≤(t.Idxs.getD k MA).Stage∧(t.Idxs.getD k MA).Stage≤3∧(t.Idxs.getD k MA).Name.length=1:=by
  obtain⟨a,b,c,d,e⟩:=(kK.of h).idx k hk
  exact⟨by omega,c,d,e,a⟩
theorem jS(n:Int):(DL n).length=1:=rfl
theorem Ab(t:VA)(l:List pA){k:Nat}(hk:k<(PC t l).length):((PC t l).getD k XC).Vals.length=t.Cols.length∧KF ((PC t l).getD k XC):=qJ (Xc t l hk)
theorem wW(t:VA)(r:nB)(h:t.Name.length≤1)(hl:r.Vals.length≤4)(hr:KF r):(DB t r).Key.length≤5∧(DB t r).Val.length≤16:=by
  unfold DB
  dsimp only
  rw[yN]
  have h1:=uL (r.Vals.drop 1) fun x hx=>hr x (List.mem_of_mem_drop hx)
  rw[List.length_drop]at h1
  have h2:=hr.getD 0
  simp only[lN]
  unfold xD;omega
theorem OI{t:VA}{r:nB}(h:t.Name.length≤1)(hl:r.Vals.length≤4)(hr:KF r):nC (DB t r):=by
  have:=wW t r h hl hr
  exact⟨by unfold PE;omega,by unfold PE;omega⟩
theorem LL{t:VA}{r:nB}(h:WG t r=true):FB t=true∧wC t r=true∧(∀v∈r.Vals,UD v=true)∧2≤r.Vals.length∧r.Vals.length=t.Cols.length:=by
  have h1:=KQ h
  unfold WG at h
  obtain⟨h2,h3⟩:=rD h
  have h4:=h3
  rw[tO,xM,Bool.and_eq_true]at h4
  exact⟨mF t▸h2,h3,List.all_eq_true.1 h4.1,oM,h1.1.1⟩
theorem RS{t:VA}{w:pA}(h:(oN t w).2=true):vP t (oN t w).1=(w,true):=by
  unfold oN at h ⊢
  cases hg:AD t
  · rw[hg]at h;cases h
  · rw[hg]at h
    dsimp only[cond_true]at h ⊢
    unfold bC at h ⊢
    revert h
    generalize (⟨(([(qB w.Key (t.Name++([47]:vA))).1]:List vA)++(xA w.Val ([44]:vA)))⟩:nB)=r
    intro h
    cases hc:(qB w.Key (t.Name++([47]:vA))).2
    · rw[hc]at h;cases h
    · rw[hc]at h
      dsimp only[cond_true]at h ⊢
      cases hr:wC t r
      · rw[hr]at h;cases h
      · rw[hr]at h
        dsimp only[cond_true]at h ⊢
        cases he:(w.Key==(LA t r).Key&&(w.Val==(LA t r).Val&&w.Gone==(LA t r).Gone))
        · rw[he]at h;cases h
        · dsimp only[cond_true]
          simp only[Bool.and_eq_true,beq_iff_eq]at he
          unfold vP WG
          rw[hg,cond_true,hr,cond_true]
          have:LA t r=w:=by
            cases w;cases hq:LA t r
            rw[hq]at he
            simp only[pA.mk.injEq]
            exact⟨he.1.symm,he.2.1.symm,he.2.2.symm⟩
          rw[this]
theorem Ka{t:VA}{n:vA}{r:nB}(h:WG t r=true)(hi:nI t n=true):(0≤(vC t n).Col∧(vC t n).Col<(r.Vals.length:Int))∧KP t n (cB t n r)=(r.Vals.getD ((vC t n).Col).toNat wA,r.Vals.getD 0 wA,true):=by
  obtain⟨hg,hr,hf,hl,hc⟩:=LL h
  have hcol:0≤(vC t n).Col∧(vC t n).Col<(r.Vals.length:Int):=by
    have:=KR hi
    omega
  refine⟨hcol,?_⟩
  have f1:=hf _ (HG (d:=wA) (i:=((vC t n).Col).toNat) oM)
  have f0:=hf _ (HG (d:=wA) (i:=0) oM)
  obtain⟨c1,c2⟩:=WM (cB t n r) (VC t n)
  have hk:cB t n r=VC t n++(r.Vals.getD (((vC t n).Col).toNat) wA++47::r.Vals.getD 0 wA):=by
    unfold cB
    simp only[List.append_assoc];rfl
  rw[LV hk]at c1
  have c3:=c2 c1
  rw[hk,List.drop_left' rfl]at c3
  have hs:=(KQ h).2.2.getD ((vC t n).Col).toNat
  have hcut:=TU (r:=r.Vals.getD 0 wA) (VQ f1) oM
  unfold KP
  rw[hi,cond_true]
  have:uB t n (cB t n r)=(r.Vals.getD ((vC t n).Col).toNat wA,r.Vals.getD 0 wA,true):=by
    unfold uB
    rw[c1,hk,c3,hcut,vL,vL]
    dsimp only[cond_true]
    rw[f1,f0];rfl
  rw[this]
theorem MS(t:VA)(n:vA)(l:List pA):lB t n l=(l.filter fun w=>(uB t n w.Key).2.2).map (·.Key):=by
  unfold lB
  refine yD (fun k (p:List vA)=>p=((l.take k).filter fun w=>(uB t n w.Key).2.2).map (·.Key)) (fun(v:List vA)=>v=(l.filter fun w=>(uB t n w.Key).2.2).map (·.Key)) rfl (fun s h=>by rw[h,List.take_of_length_le oM]) ?_
  intro j s _ hj hs
  have hj':j<l.length:=by omega
  unfold pE
  dsimp only
  rw[List.take_succ_eq_append_getElem hj',List.filter_append,List.map_append,←hs,←xE (d:=zA) hj',List.filter_cons]
  cases (uB t n ((l.getD j zA).Key)).2.2<;>simp
theorem DX(t:VA)(l:List pA):OD t l=(l.filter fun w=>(bC t w).2).map fun w=>(bC t w).1:=by
  unfold OD
  refine yD (fun k (p:List nB)=>p=((l.take k).filter fun w=>(bC t w).2).map fun w=>(bC t w).1) (fun(v:List nB)=>v=(l.filter fun w=>(bC t w).2).map fun w=>(bC t w).1) rfl (fun s h=>by rw[h,List.take_of_length_le oM]) ?_
  intro j s _ hj hs
  have hj':j<l.length:=by omega
  unfold iF
  dsimp only
  rw[List.take_succ_eq_append_getElem hj',List.filter_append,List.map_append,←hs,←xE (d:=zA) hj',List.filter_cons]
  cases (bC t (l.getD j zA)).2<;>simp
theorem mM{a b c:vA}(h1:cJ a b=true)(h2:cJ b c=true):cJ a c=true:=by
  unfold cJ at *
  rw[YL,decide_eq_true_eq]at *
  exact List.lt_trans h1 h2
theorem TK(a:vA):¬cJ a a=true:=by
  unfold cJ
  rw[YL,decide_eq_true_eq]
  exact List.lt_irrefl a
theorem mX{l:List pA}(h:IF l=true):l.Pairwise fun a b=>a.Key≠b.Key:=by
  have h1:=wM h
  rw[oK,Bool.and_eq_true,List.all_eq_true]at h1
  have h2:∀d i:Nat,i+d+1<l.length→cJ ((l.map (·.Key)).getD i wA) ((l.map (·.Key)).getD (i+d+1) wA)=true:=by
    have step:∀i:Nat,i+1<l.length→cJ ((l.map (·.Key)).getD i wA) ((l.map (·.Key)).getD (i+1) wA)=true:=fun i hi=>by
      have h3:=h1.1 (i+1) (List.mem_range.2 hi)
      rw[Bool.and_eq_true]at h3
      have h4:=h3.2
      have h24:l.length≤24:=by have:=of_decide_eq_true h1.2;omega
      unfold SK at h4
      rw[decide_eq_true oM,cond_true,HH oM,show(((i+1:Nat):Int)-1).toNat=i by omega]at h4
      exact h4
    intro d
    induction d with
    | zero=>exact step
    | succ d ih=>exact fun i hi=>mM (ih i oM) (step (i+d+1) oM)
  rw[List.pairwise_iff_getElem]
  intro i j hi hj hij e
  obtain⟨d,rfl⟩:∃d,j=i+d+1:=⟨j-i-1,by omega⟩
  have h3:=h2 d i hj
  rw[xE (by rw[List.length_map];exact hi),xE (by rw[List.length_map];exact hj),List.getElem_map,List.getElem_map,e]at h3
  exact TK _ h3
theorem fS{t:VA}{w:pA}(hg:AD t=true)(h:(bC t w).2=true):WG t (bC t w).1=true∧LA t (bC t w).1=w:=by
  have e:oN t w=bC t w:=by unfold oN;rw[hg,cond_true]
  have h1:=RS (t:=t) (w:=w) (by rw[e];exact h)
  rw[e]at h1
  unfold vP at h1
  cases hr:WG t (bC t w).1
  · rw[hr]at h1;cases h1
  · rw[hr]at h1
    exact⟨rfl,(Prod.mk.inj h1).1⟩
theorem lR(t:VA)(r:nB):(LA t r).Key=(t.Name++([47]:vA))++r.Vals.getD 0 wA:=rfl
theorem vQ(n:Int):(KG n).length≤2:=by
  unfold KG
  cases decide (n<0)
  · exact Nat.le_succ 1
  · show(([45]:vA)++DL _).length≤2
    rw[List.length_append,jS];exact Nat.le_refl 2
theorem FT(n:Int):PE (KG n):=by
  have:=vQ n
  unfold PE;omega
theorem Gb(rows:List pA)(k:vA):(cG rows k).Key=k:=by
  unfold cG
  refine yD (fun _ _=>True) (fun(v:ZE)=>v.Key=k) trivial (fun _ _=>rfl) (fun j s _ _ _=>?_)
  unfold DH
  dsimp only
  cases ((rows.getD j zA).Key==k)
  · trivial
  · rfl
theorem NX{buf:List pA}{got:List ZE}{k:vA}(h:(lC buf got k).2.2=false):(got.any fun g=>g.Key==k)=false:=by
  revert h
  unfold lC
  refine yD (fun _ _=>True) (fun(v:vA×Bool×Bool)=>v.2.2=false→(got.any fun g=>g.Key==k)=false) trivial (fun _ _=>?_) (fun j s _ _ _=>?_)
  · refine yD (fun j _=>((got.take j).any fun g=>g.Key==k)=false) (fun(v:vA×Bool×Bool)=>v.2.2=false→(got.any fun g=>g.Key==k)=false) rfl (fun s hs _=>?_) (fun j s _ hj hs=>?_)
    · rw[List.take_of_length_le oM]at hs;exact hs
    · have hj':j<got.length:=by omega
      unfold cH
      dsimp only
      cases h1:((got.getD j EH).Key==k)
      · show((got.take (j+1)).any fun g=>g.Key==k)=false
        have hs:((got.take j).any fun g=>g.Key==k)=false:=hs
        rw[List.take_succ_eq_append_getElem hj',List.any_append,hs,←xE (d:=EH) hj',List.any_cons,h1];rfl
      · exact fun h=>by cases h
  · unfold sG
    cases ((buf.getD j zA).Key==k)
    · trivial
    · exact fun h=>by cases h
theorem wZ{l:List qE}{got:List ZE}(h:(MD l got).1=1):∃o∈l,(MD l got).2.1=o.Key∧(got.any fun g=>g.Key==o.Key)=false:=by
  revert h
  unfold MD
  refine yD (fun _ _=>True) (fun(v:Int×vA×List pA)=>v.1=1→∃o∈l,v.2.1=o.Key∧(got.any fun g=>g.Key==o.Key)=false) trivial (fun _ _ h=>?_) (fun j s _ hj _=>?_)
  · cases h
  · have hm:l.getD j EC∈l:=HG (d:=EC) oM
    unfold gD
    dsimp only
    cases hk:(lC s got (l.getD j EC).Key).2.2
    · have hn:=NX hk
      cases decide ((l.getD j EC).Kind=2)
      · cases decide ((l.getD j EC).Kind=3)
        · exact fun _=>⟨_,hm,rfl,hn⟩
        · cases lE (l.getD j EC) ((lC s got (l.getD j EC).Key).1) ((lC s got (l.getD j EC).Key).2.1)
          · trivial
          · exact fun h=>by cases h
      · cases lE (l.getD j EC) ((lC s got (l.getD j EC).Key).1) ((lC s got (l.getD j EC).Key).2.1)
        · trivial
        · exact fun h=>by cases h
    · cases lE (l.getD j EC) ((lC s got (l.getD j EC).Key).1) ((lC s got (l.getD j EC).Key).2.1)
      · cases decide ((l.getD j EC).Kind=2)
        · cases decide ((l.getD j EC).Kind=3)
          · cases decide ((l.getD j EC).Kind=4)
            · trivial
            · cases (lC s got (l.getD j EC).Key).2.1<;>trivial
          · trivial
        · trivial
      · exact fun h=>by cases h
theorem pO{α:Type}{p q:α→Bool}(hpq:∀x,q x=true→p x=true):∀{l:List α},(∃x∈l,p x=true∧q x=false)→(l.filter q).length<(l.filter p).length
  | [],h=>by obtain⟨x,hx,_⟩:=h;cases hx
  | y::l,h=>by
    have hle:∀l:List α,(l.filter q).length≤(l.filter p).length:=fun l=>by
      induction l with
      | nil=>exact Nat.le_refl _
      | cons y l ih=>cases hq:q y<;>cases hp:p y<;>simp[hq,hp]<;>first | omega | (have:=hpq y hq;rw[hp]at this;cases this)
    obtain⟨x,hx,h1,h2⟩:=h
    rcases List.mem_cons.1 hx with rfl | hx
    · have:=hle l;simp[h1,h2];omega
    · have ih:=pO hpq ⟨x,hx,h1,h2⟩
      cases hq:q y<;>cases hp:p y<;>simp[hq,hp]<;>first | omega | (have:=hpq y hq;rw[hp]at this;cases this)
theorem xR{rows:List pA}{l:List qE}{got:List ZE}(h:(MD l got).1=1):(l.filter fun o=>!((got++([(cG rows ((MD l got).2.1))]:List ZE)).any fun g=>g.Key==o.Key)).length<(l.filter fun o=>!(got.any fun g=>g.Key==o.Key)).length:=by
  obtain⟨o,ho,hk,hn⟩:=wZ h
  refine pO (fun x hx=>?_) ⟨o,ho,by rw[hn];rfl,?_⟩
  · rw[List.any_append,Bool.not_or,Bool.and_eq_true]at hx;exact hx.1
  · rw[List.any_append,hk]
    simp[Gb]
theorem SZ(l:List qE):([]:List ZE).length+(l.filter fun o=>!(([]:List ZE).any fun g=>g.Key==o.Key)).length≤l.length:=by
  rw[List.length_nil,Nat.zero_add];exact List.length_filter_le _ _
theorem LN{l:List pA}(h:fD l=true):l.length≤24:=by
  rw[tI]at h
  exact(GN (wM h)).1
theorem Zc{rows:List pA}{f:List qE}{got:List ZE}{x:List pA}{d:Bool}(hr:fD rows=true)(hf:qI f=true)(ha:bD rows f=(got,x,d)):UC rows [f]=bif d&&fD (SC rows x)then(SC rows x,[true],true)else(rows,[false],true):=by
  unfold UC
  rw[hr,cond_true]
  have b0:gF rows [f] 0 ()=.cont ():=by
    unfold gF
    show(bif qI f then _ else _)=_
    rw[hf];rfl
  have e0:UA (gF rows [f]) (([f]:List (List qE)).length-0) 0 ()=.done ():=by
    show UA (gF rows [f]) 1 0 ()=_
    simp only[UA,b0]
  have b1:UE rows [f] 0 (rows,[])=.cont (bif d&&fD (SC rows x)then(SC rows x,[true])else(rows,[false])):=by
    unfold UE
    show(bif(bD rows f).2.2 then bif fD (SC rows (bD rows f).2.1)then _ else _ else _)=_
    rw[ha]
    cases d
    · rfl
    · cases h:fD (SC rows x)
      · simp only[cond_true,cond_false,Bool.true_and,h]
        show YH.cont (rows,[]++[fD (SC rows (bD rows f).2.1)])=_
        rw[ha];simp only[h];rfl
      · simp only[cond_true,cond_false,Bool.true_and,h]
        show YH.cont (SC rows (bD rows f).2.1,[]++[fD (SC rows (bD rows f).2.1)])=_
        rw[ha];simp only[h];rfl
  have e1:UA (UE rows [f]) (([f]:List (List qE)).length-0) 0 ((([]:List pA)++rows),([]:List Bool))=.done (bif d&&fD (SC rows x)then(SC rows x,[true])else(rows,[false])):=by
    show UA (UE rows [f]) 1 0 (rows,[])=_
    simp only[UA,b1]
  rw[e0,e1]
  cases d&&fD (SC rows x)<;>rfl

theorem qN{s:vA}(h:UD s=true):∀b∈s,∀more:vA,dL more b=true:=by
  unfold UD at h
  obtain⟨_,h2⟩:=rD h
  rw[RK,List.all_eq_true]at h2
  intro b hb more
  have:=h2 b hb
  unfold dL at this ⊢
  rw[Bool.or_eq_true]at this ⊢
  rcases this with h | h
  · exact Or.inl h
  · cases h
theorem JN{s:vA}{m:Int}(h:rC s m=true):∀b∈s,dL ([46,47]:vA) b=true:=by
  rw[bN,Bool.and_eq_true,Bool.and_eq_true,List.all_eq_true]at h
  intro b hb
  have h1:=h.1.1 b hb
  unfold YR at h1
  rw[Bool.and_eq_true,Bool.not_eq_true',Bool.not_eq_true',decide_eq_false_iff_not,decide_eq_false_iff_not]at h1
  unfold dL kE
  rw[decide_eq_true (show(97:Int)≤(b.toNat:Int)by omega),decide_eq_true (show(b.toNat:Int)≤122 by omega)];rfl
theorem ZV{t:VA}{n:vA}(h:nI t n=true):rC t.Name 1=true∧rC n 1=true:=by
  have h2:=dQ (rT t n▸h)
  obtain⟨h3,h4⟩:=(IN t n).1 h
  have h5:=pK t n
  rw[lU]at h2
  rw[kL]at h3
  simp only[Bool.and_eq_true,List.all_eq_true,List.mem_range]at h3
  have h6:=h3.2 (IE t n).toNat oM
  unfold PR at h6
  simp only[Bool.and_eq_true]at h6
  have h7:=h6.1.1.1
  rw[h2.2]at h7
  exact⟨h3.1.1.1,h7⟩
theorem TR{s:vA}(h1:1≤s.length)(h2:s.length≤12)(h:∀b∈s,dL ([46,47]:vA) b=true):GF s=true:=by
  unfold GF wE
  rw[decide_eq_true oM,cond_true,decide_eq_true oM,cond_true,RK,List.all_eq_true];exact h
theorem dW{s:vA}(h2:s.length≤24)(h:∀b∈s,dL ([46,45,44,95]:vA) b=true):iG s=true:=by
  unfold iG
  rw[decide_eq_true oM,cond_true,RK,List.all_eq_true];exact h
theorem sO:∀(xs:List vA),∀b∈([44]:vA).intercalate xs,b=44∨∃x∈xs,b∈x
  | [],b,h=>by simp[List.intercalate]at h
  | [x],b,h=>by rw[kM]at h;exact Or.inr ⟨x,by simp,h⟩
  | x::y::zs,b,h=>by
    rw[nK]at h
    rcases List.mem_append.1 h with h | h
    · exact Or.inr ⟨x,by simp,h⟩
    · rcases List.mem_append.1 h with h | h
      · exact Or.inl (List.mem_singleton.1 h)
      · rcases sO (y::zs) b h with h | ⟨z,hz,h⟩
        · exact Or.inl h
        · exact Or.inr ⟨z,List.mem_cons_of_mem _ hz,h⟩
theorem iX{t:VA}{r:nB}(h:WG t r=true){k:Nat}(hk:k<r.Vals.length):UD (r.Vals.getD k wA)=true:=(LL h).2.2.1 _ (HG hk)
theorem nZ{t:VA}{r:nB}{n:vA}(h:WG t r=true)(hi:nI t n=true):GF (LA t r).Key=true∧iG (LA t r).Val=true∧GF (cB t n r)=true:=by
  obtain⟨hg,hr,hf,hl,hc⟩:=LL h
  obtain⟨hn1,hn2⟩:=ZV hi
  have ln1:=NL hn1
  have ln2:=NL hn2
  have hcol:=(Ka h hi).1
  have f0:=iX h (k:=0) oM
  have f1:=iX h (k:=((vC t n).Col).toNat) oM
  have l0:=sL f0
  have l1:=sL f1
  have hc4:=(kK.of hg).cols
  refine⟨?_,?_,?_⟩
  · rw[lR]
    refine TR (by simp only[lN];omega) (by simp only[lN];omega) fun b hb=>?_
    simp only[List.mem_append,List.mem_singleton]at hb
    rcases hb with(hb | hb) | hb
    · exact JN hn1 b hb
    · rw[hb];decide
    · exact qN f0 b hb _
  · show iG (xD (r.Vals.drop 1) ([44]:vA))=true
    unfold xD
    have hs:∀x∈r.Vals.drop 1,UD x=true:=fun x hx=>hf x (List.mem_of_mem_drop hx)
    have h1:=uL (r.Vals.drop 1) fun x hx=>by have:=sL (hs x hx);omega
    rw[List.length_drop]at h1
    refine dW oM fun b hb=>?_
    rcases sO _ b hb with hb | ⟨x,hx,hb⟩
    · rw[hb];decide
    · exact qN (hs x hx) b hb _
  · unfold cB VC
    refine TR (by simp only[lN];omega) (by simp only[lN];omega) fun b hb=>?_
    simp only[List.mem_append,List.mem_singleton]at hb
    rcases hb with(((((hb | hb) | hb) | hb) | hb) | hb) | hb
    · exact JN hn1 b hb
    · rw[hb];decide
    · exact JN hn2 b hb
    · rw[hb];decide
    · exact qN f1 b hb _
    · rw[hb];decide
    · exact qN f0 b hb _
theorem ZZ(l:List qE)(h:l.all WE=true)(hl:l.length≤8):qI l=true:=by
  unfold qI
  rw[LW EC WE (r:=false) fun k=>rfl,h,cond_true,decide_eq_true oM]
theorem Qd{k v:vA}(hk:GF k=true)(hv:iG v=true):WE ⟨7,k,v,0⟩=true:=by
  unfold WE
  show(bif GF k then bif iG v then true else false else _)=true
  rw[hk,hv];rfl
theorem vX{k v:vA}(hk:GF k=true)(hv:iG v=true):WE ⟨2,k,v,0⟩=true:=by
  unfold WE
  show(bif GF k then bif iG v then true else false else _)=true
  rw[hk,hv];rfl
theorem qY{k:vA}(hk:GF k=true):WE ⟨3,k,[],0⟩=true:=by
  unfold WE
  dsimp only
  rw[hk];rfl
theorem Cd:iG ([]:vA)=true:=rfl
def jJ(l:List nB):Prop:=∀y∈l,y.Vals.length=2
theorem jJ.nil:jJ []:=fun _ h=>by cases h
theorem jJ.app{l:List nB}{r:nB}(h:jJ l)(hr:r.Vals.length=2):jJ (l++[r]):=fun y hy=>by
  rcases List.mem_append.1 hy with hy | hy
  · exact h y hy
  · rw[List.mem_singleton.1 hy];exact hr
theorem jJ.set{l:List nB}{r:nB}(h:jJ l)(hr:r.Vals.length=2)(i:Nat):jJ (l.set i r):=fun y hy=>by
  rcases List.mem_or_eq_of_mem_set hy with hy | hy
  · exact h y hy
  · rw[hy];exact hr
theorem jJ.at{l:List nB}(h:jJ l){i:Nat}(hi:i<l.length):(l.getD i XC).Vals.length=2:=h _ (by rw[xE hi];exact List.getElem_mem hi)
theorem Oa{l:List nB}{a:nB}{i:Nat}(ha:a.Vals.length=2)(h:jJ l)(hi:i<l.length):0≤(1:Int)∧(1:Int)<(a.Vals.length:Int)∧(1:Int)<((l.getD i XC).Vals.length:Int):=by
  have:=h.at hi
  omega
theorem uQ(xs:List nB)(f:nB→Bool):TD xs f<(xs.length:Int):=by
  rw[WO]
  rcases jM f XC xs with⟨h,_⟩ | ⟨k,hk,h,_⟩<;>rw[h]<;>omega
theorem dZ{l:List QE}(h:gG rN l):gG rN (TB l):=by
  unfold TB
  exact⟨by rw[List.length_mergeSort];exact h.1,fun x hx=>h.2 x (List.mem_mergeSort.1 hx)⟩
theorem yT(l:List QE):(TB l).length=l.length:=List.length_mergeSort _
theorem fR{t:VA}{s:iD}(h:QG t s=true):s.Kind=3→0≤IE t s.Idx∧IE t s.Idx<(t.Idxs.length:Int):=fun hk=>by
  unfold QG at h
  obtain⟨_,h2⟩:=rD h
  unfold nD at h2
  rw[decide_eq_false oM,cond_false,decide_eq_false oM,cond_false,decide_eq_true hk,cond_true]at h2
  obtain⟨_,h2⟩:=rD h2
  obtain⟨h3,_⟩:=rD h2
  exact⟨of_decide_eq_true h3,(pK t s.Idx).2⟩
theorem eY{t:VA}{s:iD}(h:QG t s=true)(hk:s.Kind=3):nI t s.Idx=true:=by
  rw[IN]
  refine⟨?_,(fR h hk).1⟩
  unfold QG at h
  exact(rD h).1
theorem QZ{t:VA}{s:iD}(h:CI t s=true):s.Kind=3→(0≤xC t s.Idx∧xC t s.Idx<(t.Idxs.length:Int))∧t.Name.length≤1∧s.Idx.length≤1:=fun hk=>by
  have h1:=KR (eY (lJ t s▸h) hk)
  have h2:=fR (lJ t s▸h) hk
  rw[xJ]
  omega
theorem CO{l:List pA}(h:fD l=true):l.length≤24:=by
  have h1:=wM (tI l▸h)
  rw[oK,Bool.and_eq_true]at h1
  have:=of_decide_eq_true h1.2;omega
theorem sP(t:VA)(n:vA)(l:List pA):(tB t n l).length≤l.length:=by
  unfold tB
  refine yD (fun k (p:List vA)=>p.length≤k) (fun(v:List vA)=>v.length≤l.length) (Nat.le_refl _) (fun s hs=>by omega) ?_
  intro j x _ _ h1
  unfold OF
  dsimp only
  cases (tC t n (l.getD j zA).Key).2.2
  · exact Nat.le_succ_of_le h1
  · show List.length (_++_)≤_
    rw[List.length_append,List.length_singleton];omega
theorem QR(t:VA)(l:List pA)(k:vA):(dE t l k).length≤l.length:=by
  refine Nat.le_trans ?_ (tN t l).1
  unfold dE
  refine yD (fun k (p:List nB)=>p.length≤k) (fun(v:List nB)=>v.length≤(PC t l).length) (Nat.le_refl _) (fun s hs=>by omega) ?_
  intro j x _ _ h1
  unfold rG
  dsimp only
  cases (((PC t l).getD j XC).Vals.getD 0 wA)==k
  · exact Nat.le_succ_of_le h1
  · show List.length (_++_)≤_
    rw[List.length_append,List.length_singleton];omega
theorem uT{t:VA}{l:List pA}{k:vA}{y:nB}(h:y∈dE t l k):y∈PC t l:=by
  revert h
  suffices h:∀y∈dE t l k,y∈PC t l from h y
  unfold dE
  refine yD (fun k (p:List nB)=>∀y∈p,y∈PC t l) (fun(v:List nB)=>∀y∈v,y∈PC t l) (fun _ h=>by cases h) (fun s hs=>hs) ?_
  intro j x _ hj h1
  unfold rG
  dsimp only
  cases (((PC t l).getD j XC).Vals.getD 0 wA)==k
  · exact h1
  · intro y hy
    rcases List.mem_append.1 hy with hy | hy
    · exact h1 y hy
    · rw[List.mem_singleton.1 hy,xE oM];exact List.getElem_mem _
theorem Bb{t:VA}(hg:FB t=true){l:List pA}{k:Nat}(hk:k<(PC t l).length):2≤((PC t l).getD k XC).Vals.length:=by
  have h1:=Ab t l hk
  have h2:=(kK.of hg).cols
  omega
theorem FX{t:VA}(hg:FB t=true){l:List pA}{y:nB}(h:y∈OD t l):0<y.Vals.length:=by
  have h1:=(qJ (EX hg h)).1
  have h2:=(kK.of hg).cols
  omega
theorem tL{t:VA}{s:iD}(h:QG t s=true):FB t=true:=by
  unfold QG at h
  exact(rD h).1
theorem OR{t:VA}{s:iD}(h:CI t s=true):FB t=true:=tL (lJ t s▸h)

def eR(y:nB):QE:=⟨y.Vals.getD 1 wA,y.Vals.getD 0 wA⟩
def JM(t:VA)(n:vA)(e:vA):nB:=⟨([(tC t n e).2.1,(tC t n e).1]:List vA)⟩
theorem nR{α:Type}(l m:List α)(q r:α){k:Nat}(hk:k=l.length):(l++q::m).set k r=l++r::m:=by
  subst hk
  rw[List.set_append_right _ _ (Nat.le_refl _),Nat.sub_self];rfl
theorem uW(t:VA)(n:vA)(st:List pA)(k:Nat)(l:List nB)(hl:l.length≤1000000):∃i,i≤l.length∧bH t n st k l=.cont (l.take i++JM t n ((tB t n st).getD k wA)::l.drop i)∧(∀y∈l.drop i,QF (JM t n ((tB t n st).getD k wA)) y 1=true)∧(0<i→QF (JM t n ((tB t n st).getD k wA)) (l.getD (i-1) XC) 1=false):=by
  unfold bH
  refine lM (body:=PF t n st k l) (fd:=fun p=>YH.cont (p.2.set p.1.toNat (JM t n ((tB t n st).getD k wA)))) (fun(p:Int×List nB)=>0≤p.1∧p.1≤(l.length:Int)∧(∃q,p.2=l.take p.1.toNat++q::l.drop p.1.toNat)∧∀y∈l.drop p.1.toNat,QF (JM t n ((tB t n st).getD k wA)) y 1=true) (fun p=>p.1.toNat) (fun v=>∃i,i≤l.length∧v=.cont (l.take i++(JM t n ((tB t n st).getD k wA))::l.drop i)∧(∀y∈l.drop i,QF (JM t n ((tB t n st).getD k wA)) y 1=true)∧(0<i→QF (JM t n ((tB t n st).getD k wA)) (l.getD (i-1) XC) 1=false)) ?_ ((l.length:Int).toNat+1) ((l.length:Int),l++[(JM t n ((tB t n st).getD k wA))]) ⟨(by show 0≤(l.length:Int);omega),(by show(l.length:Int)≤(l.length:Int);omega),⟨(JM t n ((tB t n st).getD k wA)),?_⟩,?_⟩ (by show(l.length:Int).toNat<(l.length:Int).toNat+1;omega)
  · rintro⟨a,x⟩ ⟨h0,h1,⟨q,hq⟩,h3⟩
    dsimp only at h0 h1 hq h3
    have stop:QF (JM t n ((tB t n st).getD k wA)) (l.getD (a.toNat-1) XC) 1=false∨a=0→∃i,i≤l.length∧(YH.cont (x.set a.toNat (JM t n ((tB t n st).getD k wA))):YH (List nB) (List nB))=.cont (l.take i++(JM t n ((tB t n st).getD k wA))::l.drop i)∧(∀y∈l.drop i,QF (JM t n ((tB t n st).getD k wA)) y 1=true)∧(0<i→QF (JM t n ((tB t n st).getD k wA)) (l.getD (i-1) XC) 1=false):=fun h=>by
      refine⟨a.toNat,oM,?_,h3,fun hp=>h.resolve_right oM⟩
      rw[hq,nR _ _ _ _ (by rw[List.length_take];omega)]
    unfold PF
    dsimp only
    cases hp:decide (0<a)
    · exact stop (.inr (by have:=of_decide_eq_false hp;omega))
    · have hp:=of_decide_eq_true hp
      have hlt:a.toNat-1<l.length:=by omega
      have hg:x.getD (IntKind.wrap .i64 (a-1)).toNat XC=l.getD (a.toNat-1) XC:=by
        rw[HH oM,show(a-1).toNat=a.toNat-1 by omega,hq,List.getD_eq_getElem?_getD,List.getElem?_append_left (by rw[List.length_take];omega),List.getElem?_take_of_lt oM,←List.getD_eq_getElem?_getD]
      rw[hg]
      simp only[cond_true]
      show YH.sat _ _ _ (bif QF (JM t n ((tB t n st).getD k wA)) (l.getD (a.toNat-1) XC) 1 then _ else _)
      cases hs:QF (JM t n ((tB t n st).getD k wA)) (l.getD (a.toNat-1) XC) 1
      · exact stop (.inl hs)
      · have e1:(IntKind.wrap .i64 (a-1)).toNat=a.toNat-1:=by rw[HH oM];omega
        have e2:IntKind.wrap .i64 (a-1)=a-1:=HH oM
        have e3:l.drop (a.toNat-1)=l.getD (a.toNat-1) XC::l.drop a.toNat:=by
          rw[xE hlt,List.drop_eq_getElem_cons hlt,show a.toNat-1+1=a.toNat by omega]
        refine⟨⟨?_,?_,⟨l.getD (a.toNat-1) XC,?_⟩,?_⟩,?_⟩
        · dsimp only;rw[e2];omega
        · dsimp only;rw[e2];omega
        · dsimp only
          rw[e1,e3,hq,nR _ _ _ _ (by rw[List.length_take];omega)]
          have e4:l.take a.toNat=l.take (a.toNat-1)++[l.getD (a.toNat-1) XC]:=by
            rw[xE hlt,←List.take_succ_eq_append_getElem hlt,show a.toNat-1+1=a.toNat by omega]
          rw[e4,List.append_assoc];rfl
        · dsimp only
          rw[e1,e3]
          intro y hy
          rcases List.mem_cons.1 hy with rfl | hy
          · exact hs
          · exact h3 y hy
        · dsimp only;rw[e1];omega
  · dsimp only
    rw[show(l.length:Int).toNat=l.length by omega,List.take_length,List.drop_length]
  · intro y hy
    dsimp only at hy
    rw[show(l.length:Int).toNat=l.length by omega,List.drop_length]at hy
    cases hy
theorem tQ(t:VA)(n:vA)(st:List pA)(P:Nat→List nB→Prop)(h0:P 0 [])(hs:∀k l i,k<(tB t n st).length→l.length=k→P k l→i≤l.length→(∀y∈l.drop i,QF (JM t n ((tB t n st).getD k wA)) y 1=true)→(0<i→QF (JM t n ((tB t n st).getD k wA)) (l.getD (i-1) XC) 1=false)→P (k+1) (l.take i++JM t n ((tB t n st).getD k wA)::l.drop i))(hl:(tB t n st).length≤1000000):P (tB t n st).length (SB t n st)∧(SB t n st).length=(tB t n st).length:=by
  unfold SB
  refine yD (fun k (p:List nB)=>P k p∧p.length=k) (fun(v:List nB)=>P (tB t n st).length v∧v.length=(tB t n st).length) ⟨h0,rfl⟩ (fun s hs=>by
    have e:0+((tB t n st).length-0)=(tB t n st).length:=by omega
    rw[e]at hs;exact hs) ?_
  intro j x _ hj ⟨h1,h2⟩
  obtain⟨i,hi,he,hd,hg⟩:=uW t n st j x oM
  rw[he]
  exact⟨hs j x i oM h2 h1 hi hd hg,by rw[List.length_append,List.length_cons,List.length_take,List.length_drop];omega⟩
theorem gX(t:VA)(n:vA){l:List pA}(h:l.length≤24):(tB t n l).length≤1000000:=by
  have:=sP t n l;omega
theorem jZ(t:VA)(n:vA){l:List pA}(h:l.length≤24):jJ (SB t n l):=by
  refine(tQ t n l (fun _ x=>jJ x) jJ.nil (fun k x i _ _ hx _ _ _ y hy=>?_) (gX t n h)).1
  rcases List.mem_append.1 hy with hy | hy
  · exact hx y (List.mem_of_mem_take hy)
  · rcases List.mem_cons.1 hy with rfl | hy
    · rfl
    · exact hx y (List.mem_of_mem_drop hy)
theorem tW(t:VA)(n:vA)(l:List pA)(h:l.length≤24):(SB t n l).length≤l.length:=by
  have h1:=(tQ t n l (fun _ _=>True) trivial (fun _ _ _ _ _ _ _ _ _=>trivial) (gX t n h)).2
  have:=sP t n l;omega

def RQ(a b:QE):Bool:=if a.val=b.val then cJ a.primary b.primary else cJ a.val b.val
theorem EU{a b:vA}(h1:cJ a b=false)(h2:cJ b a=false):a=b:=by
  have h3:dN a b=true:=by rw[mR,h2];rfl
  unfold dN at h3
  rw[h1,Bool.false_or]at h3
  exact eq_of_beq h3
theorem OW(x y:vA):decide (cS x y<0)=cJ x y:=by
  unfold cS
  cases cJ x y
  · cases dN x y<;>rfl
  · rfl
theorem gY(x y:vA):decide (cS x y=0)=decide (x=y):=by
  by_cases h:x=y
  · subst h
    rw[decide_eq_true rfl]
    unfold cS
    have h1:cJ x x=false:=by cases h:cJ x x;rfl;exact absurd h (TK x)
    have h2:dN x x=true:=by unfold dN;rw[beq_self_eq_true,Bool.or_true]
    rw[h1,h2];rfl
  · rw[decide_eq_false h]
    unfold cS
    cases h1:cJ x y
    · cases h2:dN x y
      · rfl
      · unfold dN at h2
        rw[h1,Bool.false_or]at h2
        exact absurd (eq_of_beq h2) h
    · rfl
theorem oL(x y:QE):decide (cE x y<0)=RQ x y:=by
  unfold cE RQ
  rw[gY]
  by_cases h:x.val=y.val
  · rw[decide_eq_true h,cond_true,if_pos h,OW]
  · rw[decide_eq_false h,cond_false,if_neg h,OW]
theorem wY(a:vA):cJ a a=false:=by cases h:cJ a a;rfl;exact absurd h (TK a)
theorem xW{a b:vA}(h:cJ a b=true):cJ b a=false:=by
  cases h2:cJ b a
  · rfl
  · exact absurd (mM h h2) (TK _)
theorem mY(a:QE):RQ a a=false:=by unfold RQ;rw[if_pos rfl];exact wY _
theorem rX{a b c:QE}(h1:RQ a b=true)(h2:RQ b c=true):RQ a c=true:=by
  unfold RQ at *
  by_cases e1:a.val=b.val
  · by_cases e2:b.val=c.val
    · rw[if_pos e1]at h1;rw[if_pos e2]at h2;rw[if_pos (e1.trans e2)];exact mM h1 h2
    · rw[if_neg e2]at h2;rw[if_neg (fun e=>e2 (e1.symm.trans e)),e1];exact h2
  · by_cases e2:b.val=c.val
    · rw[if_neg e1]at h1;rw[if_neg (fun e=>e1 (e.trans e2.symm)),←e2];exact h1
    · rw[if_neg e1]at h1;rw[if_neg e2]at h2
      have h3:=mM h1 h2
      rw[if_neg (fun e=>by rw[e]at h3;exact TK _ h3)];exact h3
theorem uU{a b:QE}(h1:RQ a b=false)(h2:RQ b a=false):a=b:=by
  unfold RQ at *
  have hv:a.val=b.val:=by
    by_cases e:a.val=b.val
    · exact e
    · rw[if_neg e]at h1;rw[if_neg (Ne.symm e)]at h2;exact EU h1 h2
  rw[if_pos hv]at h1
  rw[if_pos hv.symm]at h2
  have hp:=EU h1 h2
  cases a;cases b
  simp only at hv hp
  subst hv;subst hp;rfl
theorem kW{a b:QE}(h:RQ a b=true):RQ b a=false:=by
  cases h2:RQ b a
  · rfl
  · have:=rX h h2;rw[mY]at this;cases this
theorem tU{a b c:QE}(h1:RQ a b=false)(h2:RQ b c=false):RQ a c=false:=by
  cases h3:RQ a c
  · rfl
  · cases h4:RQ b a
    · have:=uU h1 h4;subst this;rw[h3]at h2;cases h2
    · have:=rX h4 h3;rw[h2]at this;cases this
theorem jW(a b:nB):QF a b 1=RQ (eR a) (eR b):=by
  unfold QF RQ eR
  show(bif a.Vals.getD 1 wA==b.Vals.getD 1 wA then cJ (a.Vals.getD 0 wA) (b.Vals.getD 0 wA)else cJ (a.Vals.getD 1 wA) (b.Vals.getD 1 wA))=_
  dsimp only
  by_cases h:a.Vals.getD 1 wA=b.Vals.getD 1 wA
  · rw[if_pos h,h,beq_self_eq_true,cond_true]
  · rw[if_neg h,show(a.Vals.getD 1 wA==b.Vals.getD 1 wA)=false from beq_eq_false_iff_ne.2 h,cond_false]
def Ac(l:List QE):Prop:=l.Pairwise fun a b=>RQ b a=false
theorem LX{l:List QE}{r:QE}{i:Nat}(h:Ac l)(hi:i≤l.length)(hd:∀y∈l.drop i,RQ r y=true)(hg:0<i→∀y,l[i-1]? = some y→RQ r y=false):Ac (l.take i++r::l.drop i):=by
  have h0:=h
  unfold Ac at h ⊢
  rw[←List.take_append_drop i l,List.pairwise_append]at h
  obtain⟨h1,h2,h3⟩:=h
  rw[List.pairwise_append,List.pairwise_cons]
  refine⟨h1,⟨fun y hy=>kW (hd y hy),h2⟩,fun a ha b hb=>?_⟩
  rcases List.mem_cons.1 hb with rfl | hb
  · obtain⟨j,hj,rfl⟩:=List.mem_iff_getElem.1 ha
    rw[List.length_take]at hj
    rw[List.getElem_take]
    have hl:i-1<l.length:=by omega
    have hlast:=hg oM l[i-1] (List.getElem?_eq_getElem hl)
    rcases Nat.lt_or_ge j (i-1)with hlt | hge
    · exact tU hlast (List.pairwise_iff_getElem.1 h0 j (i-1) oM hl hlt)
    · obtain rfl:j=i-1:=by omega
      exact hlast
  · exact h3 a ha b hb
def Hb(t:VA)(n:vA)(e:vA):QE:=⟨(tC t n e).1,(tC t n e).2.1⟩
theorem yU(t:VA)(n:vA){l:List pA}(h:l.length≤24):((SB t n l).map eR).Perm ((tB t n l).map (Hb t n))∧Ac ((SB t n l).map eR):=by
  have h1:=(tQ t n l (fun k x=>(x.map eR).Perm (((tB t n l).take k).map (Hb t n))∧Ac (x.map eR)) ⟨List.Perm.refl _,List.Pairwise.nil⟩ (fun k x i hk hxl ⟨hp,hs⟩ hi hd hg=>?_) (gX t n h)).1
  · rw[List.take_length]at h1;exact h1
  have er:eR (JM t n ((tB t n l).getD k wA))=Hb t n ((tB t n l).getD k wA):=rfl
  have e:(x.take i++JM t n ((tB t n l).getD k wA)::x.drop i).map eR=(x.map eR).take i++Hb t n ((tB t n l).getD k wA)::(x.map eR).drop i:=by
    rw[List.map_append,List.map_cons,er,List.map_take,List.map_drop]
  rw[e]
  refine⟨?_,LX hs (by rw[List.length_map];exact hi) (fun y hy=>?_) (fun h0 y hy=>?_)⟩
  · rw[List.take_succ_eq_append_getElem hk,List.map_append,←xE (d:=wA) hk]
    refine List.perm_middle.trans ?_
    rw[List.take_append_drop]
    exact(List.perm_append_singleton _ _).symm.trans (List.Perm.append_right _ hp) |> fun q=>q
  · rw[←List.map_drop]at hy
    obtain⟨z,hz,rfl⟩:=List.mem_map.1 hy
    have:=hd z hz
    rw[jW,er]at this
    exact this
  · have hl:i-1<x.length:=by omega
    rw[List.getElem?_map,List.getElem?_eq_getElem hl,Option.map_some,Option.some.injEq]at hy
    subst hy
    have:=hg h0
    rw[jW,er,xE hl]at this
    exact this
theorem MX{a b:List QE}(hp:a.Perm b)(ha:Ac a)(hb:Ac b):a=b:=
  hp.eq_of_pairwise (le:=fun x y=>RQ y x=false) (fun x y _ _ h1 h2=>(uU h1 h2).symm) ha hb
theorem rZ(l:List QE):Ac (TB l):=by
  unfold Ac TB
  have h:=List.pairwise_mergeSort (le:=fun x y=>!decide (cE y x<0)) (fun a b c h1 h2=>by
    rw[oL,Bool.not_eq_true']at *
    exact tU h2 h1) (fun a b=>by
    rw[oL,oL]
    cases h1:RQ b a
    · rfl
    · rw[kW h1];rfl) l
  refine h.imp fun{a b} h=>?_
  rw[oL,Bool.not_eq_true']at h
  exact h
theorem IX(l:List QE):(TB l).Perm l:=List.mergeSort_perm _ _
def Fa(s:iD)(e:QE):Bool:=!(cJ e.val s.Low)&&dN e.val s.High
theorem SS(t:VA)(n:vA)(s:iD){l:List pA}(h:l.length≤24):TB (((tB t n l).map (Hb t n)).filter (Fa s))=((SB t n l).map eR).filter (Fa s):=by
  obtain⟨h1,h2⟩:=yU t n h
  exact MX ((IX _).trans (h1.symm.filter _)) (rZ _) (List.Pairwise.filter _ h2)
theorem LR{α:Type}{q:α→Bool}:∀{xs:List α}{i:Nat}(hi:i<xs.length),q xs[i]=true→(∀j (hj:j<xs.length),j≠i→q xs[j]=false)→xs.filter q=[xs[i]]
  | x::xs,0,hi,h,ho=>by
    have h2:xs.filter q=[]:=List.filter_eq_nil_iff.2 fun y hy=>by
      obtain⟨j,hj,rfl⟩:=List.mem_iff_getElem.1 hy
      have:=ho (j+1) (by rw[List.length_cons];omega) oM
      rw[List.getElem_cons_succ]at this
      rw[this];exact Bool.false_ne_true
    rw[List.getElem_cons_zero]at h ⊢
    rw[List.filter_cons,if_pos h,h2]
  | x::xs,i+1,hi,h,ho=>by
    have h1:=ho 0 (by rw[List.length_cons];omega) oM
    rw[List.getElem_cons_zero]at h1
    rw[List.filter_cons,h1,if_neg Bool.false_ne_true]
    rw[List.getElem_cons_succ]at h ⊢
    exact LR (by rw[List.length_cons]at hi;omega) h fun j hj hne=>by
      have:=ho (j+1) (by rw[List.length_cons];omega) oM
      rw[List.getElem_cons_succ]at this;exact this
theorem pU(t:VA)(l:List pA)(k:vA):dE t l k=(PC t l).filter fun r=>r.Vals.getD 0 wA==k:=by
  unfold dE
  refine yD (fun j (p:List nB)=>p=((PC t l).take j).filter fun r=>r.Vals.getD 0 wA==k) (fun(v:List nB)=>v=(PC t l).filter fun r=>r.Vals.getD 0 wA==k) rfl (fun s h=>by rw[h,List.take_of_length_le oM]) ?_
  intro j s _ hj hs
  have hj':j<(PC t l).length:=by omega
  unfold rG
  dsimp only
  rw[List.take_succ_eq_append_getElem hj',List.filter_append,←hs,←xE (d:=XC) hj',List.filter_cons]
  cases (((PC t l).getD j XC).Vals.getD 0 wA==k)<;>simp
theorem GX{t:VA}{l:List pA}(hg:FB t=true)(hr:IF l=true):(PC t l).Pairwise fun a b=>a.Vals.getD 0 wA≠b.Vals.getD 0 wA:=by
  have hg':AD t=true:=by rw[mF];exact hg
  rw[←wQ hg,DX,List.pairwise_map,List.pairwise_filter]
  refine(mX hr).imp fun{a b} hab ha hb e=>hab ?_
  obtain⟨a1,a2⟩:=fS hg' ha
  obtain⟨b1,b2⟩:=fS hg' hb
  rw[←a2,←b2,lR,lR,e]
theorem BO{t:VA}{l:List pA}(hg:FB t=true)(hr:IF l=true)(k:vA):dE t l k=bif(dD t l k).2 then[(dD t l k).1]else[]:=by
  rw[pU]
  unfold dD
  rw[wQ hg,WO]
  have hq:(fun y0=>uF y0 k)=fun r:nB=>r.Vals.getD 0 wA==k:=rfl
  rw[hq]
  have hp:=GX hg hr
  generalize PC t l=xs at *
  rcases jM (fun r:nB=>r.Vals.getD 0 wA==k) XC xs with⟨h,h2⟩ | ⟨i,hi,h,h2,_⟩
  · rw[h]
    show _=[]
    exact List.filter_eq_nil_iff.2 fun y hy=>by rw[h2 y hy];exact Bool.false_ne_true
  · rw[h,decide_eq_false oM]
    show _=[xs.getD ((i:Int).toNat) XC]
    rw[show((i:Int).toNat)=i from rfl,xE hi]
    refine LR hi h2 fun j hj hne=>?_
    rw[List.pairwise_iff_getElem]at hp
    have hi2:=eq_of_beq h2
    refine beq_eq_false_iff_ne.2 fun e=>?_
    rcases Nat.lt_or_ge j i with hlt | hge
    · exact hp j i hj hi hlt (e.trans hi2.symm)
    · exact hp i j hi hj oM (hi2.trans e.symm)
theorem FY{t:VA}{l:List pA}{s:iD}(h:nI t s.Idx=true)(hr:IF l=true){T:Type}(fr:List nB×Bool→T)(fd:List QE→T):ED (UA (AE t l s) ((lB t s.Idx l).length-0) 0 ([]:List QE)) fr fd=fd (((tB t s.Idx l).map (Hb t s.Idx)).filter (Fa s)):=by
  have he:=fX h (wM hr)
  have hw:=(GN (wM hr)).2
  have hk:∀e∈lB t s.Idx l,uB t s.Idx e=tC t s.Idx e:=fun e hm=>by
    rw[MS]at hm
    obtain⟨w,hw1,rfl⟩:=List.mem_map.1 hm
    obtain⟨j,hj,rfl⟩:=List.mem_iff_getElem.1 (List.mem_filter.1 hw1).1
    have:=(hw j hj).1
    rw[xE hj]at this
    exact sY (nS h) oM
  rw[←he]
  refine yD (fun k (p:List QE)=>p=(((lB t s.Idx l).take k).map (Hb t s.Idx)).filter (Fa s)) (fun(v:T)=>v=fd (((lB t s.Idx l).map (Hb t s.Idx)).filter (Fa s))) rfl (fun x hx=>by rw[hx,List.take_of_length_le oM]) ?_
  intro j x _ hj hx
  have hj':j<(lB t s.Idx l).length:=by omega
  unfold AE
  dsimp only
  rw[hk _ (HG hj'),List.take_succ_eq_append_getElem hj',List.map_append,List.filter_append,←hx,←xE (d:=wA) hj',List.map_cons,List.map_nil,List.filter_cons]
  unfold Fa
  have e3:(⟨(tC t s.Idx ((lB t s.Idx l).getD j wA)).1,(tC t s.Idx ((lB t s.Idx l).getD j wA)).2.1⟩:QE)=Hb t s.Idx ((lB t s.Idx l).getD j wA):=rfl
  have e1:(tC t s.Idx ((lB t s.Idx l).getD j wA)).1=(Hb t s.Idx ((lB t s.Idx l).getD j wA)).val:=rfl
  rw[e3,e1]
  generalize Hb t s.Idx ((lB t s.Idx l).getD j wA)=e
  cases cJ e.val s.Low<;>cases dN e.val s.High<;>simp
theorem GY{t:VA}{l:List pA}(hg:FB t=true)(hr:IF l=true)(s:iD)(x:List QE){T:Type}(fr:List nB×Bool→T)(fd:List nB→T):ED (UA (bF t l s x) (x.length-0) 0 ([]:List nB)) fr fd=fd ((TB x).flatMap fun e=>dE t l e.primary):=by
  have hl:=yT x
  refine yD (fun k (p:List nB)=>p=((TB x).take k).flatMap fun e=>dE t l e.primary) (fun(v:T)=>v=fd ((TB x).flatMap fun e=>dE t l e.primary)) rfl (fun p hp=>by rw[hp,List.take_of_length_le oM]) ?_
  intro j p _ hj hp
  have hj':j<(TB x).length:=by omega
  unfold bF
  dsimp only
  rw[List.take_succ_eq_append_getElem hj',List.flatMap_append,←hp,←xE (d:=CJ) hj',List.flatMap_cons,List.flatMap_nil,List.append_nil,BO hg hr]
  cases (dD t l ((TB x).getD j CJ).primary).2
  · exact(List.append_nil _).symm
  · rfl
theorem dT(t:VA)(l:List pA)(s:iD){T:Type}(fr:List nB×Bool→T)(fd:List nB→T):ED (UA (iH t l s) ((SB t s.Idx l).length-0) 0 ([]:List nB)) fr fd=fd ((((SB t s.Idx l).map eR).filter (Fa s)).flatMap fun e=>dE t l e.primary):=by
  refine yD (fun k (p:List nB)=>p=((((SB t s.Idx l).take k).map eR).filter (Fa s)).flatMap fun e=>dE t l e.primary) (fun(v:T)=>v=fd ((((SB t s.Idx l).map eR).filter (Fa s)).flatMap fun e=>dE t l e.primary)) rfl (fun p hp=>by rw[hp,List.take_of_length_le oM]) ?_
  intro j p _ hj hp
  have hj':j<(SB t s.Idx l).length:=by omega
  unfold iH
  dsimp only
  rw[List.take_succ_eq_append_getElem hj',List.map_append,List.filter_append,List.flatMap_append,←hp,←xE (d:=XC) hj',List.map_cons,List.map_nil,List.filter_cons]
  unfold Fa
  have e1:((SB t s.Idx l).getD j XC).Vals.getD 1 wA=(eR ((SB t s.Idx l).getD j XC)).val:=rfl
  have e2:((SB t s.Idx l).getD j XC).Vals.getD 0 wA=(eR ((SB t s.Idx l).getD j XC)).primary:=rfl
  rw[e1,e2]
  generalize eR ((SB t s.Idx l).getD j XC)=e
  cases cJ e.val s.Low<;>cases dN e.val s.High<;>simp
theorem ZN{t:VA}{s:iD}{l:List pA}(h:QG t s=true)(hr:IF l=true):IB t l s=HD t l s:=by
  have hg:=tL h
  unfold IB HD
  rw[BO hg hr]
  cases h1:decide (s.Kind=2)
  · cases h2:decide (s.Kind=3)
    · rfl
    · have hk:=of_decide_eq_true h2
      have hi:=eY h hk
      have h24:=CO (l:=l) (by rw[tI];exact hr)
      have hst:=Fe hg (k:=(IE t s.Idx).toNat) (by have:=fR h hk;omega)
      simp only[cond_true,cond_false]
      rw[lU,FY hi hr,GY hg hr,dT,SS t s.Idx s h24]
      by_cases h3:(t.Idxs.getD (IE t s.Idx).toNat MA).Stage=3
      · rw[decide_eq_true h3,decide_eq_false oM];rfl
      · rw[decide_eq_false h3,decide_eq_true oM];rfl
  · simp only[cond_true]
    cases (dD t l s.Low).2<;>rfl
theorem kX{t:VA}{l:List pA}(hg:FB t=true)(hr:IF l=true)(x:List QE):(x.flatMap fun e=>dE t l e.primary).length≤x.length∧∀y∈x.flatMap fun e=>dE t l e.primary,y∈PC t l:=by
  refine⟨?_,fun y hy=>?_⟩
  · induction x with
    | nil=>exact Nat.le_refl _
    | cons e x ih=>
      rw[List.flatMap_cons,List.length_append,List.length_cons,BO hg hr]
      cases (dD t l e.primary).2
      · show 0+_≤_;omega
      · show 1+_≤_;omega
  · obtain⟨e,_,he⟩:=List.mem_flatMap.1 hy
    exact uT he
theorem kV{t:VA}{s:iD}{l:List pA}(h:QG t s=true)(hr:IF l=true):(HD t l s).1.length≤l.length∧∀y∈(HD t l s).1,y∈PC t l:=by
  have hg:=tL h
  have h24:=CO (l:=l) (by rw[tI];exact hr)
  unfold HD
  rw[dT]
  cases decide (s.Kind=2)
  · cases decide (s.Kind=3)
    · exact⟨Nat.zero_le _,fun _ h=>by cases h⟩
    · cases decide ((t.Idxs.getD (IE t s.Idx).toNat MA).Stage<3)
      · obtain⟨h1,h2⟩:=kX hg hr (((SB t s.Idx l).map eR).filter (Fa s))
        refine⟨Nat.le_trans h1 (Nat.le_trans (List.length_filter_le _ _) ?_),h2⟩
        rw[List.length_map]
        exact tW t s.Idx l h24
      · exact⟨Nat.zero_le _,fun _ h=>by cases h⟩
  · exact⟨QR t l s.Low,fun y hy=>uT hy⟩
theorem NW{i j:Int}(h0:0≤i)(h1:i<j)(h2:j≤2147483648):IntKind.wrap .i64 (Int.fdiv (IntKind.wrap .u64 (IntKind.wrap .i64 (i+j))) 2)=(i+j) / 2:=by
  rw[show IntKind.wrap .i64 (i+j)=i+j from HH oM,show IntKind.wrap .u64 (i+j)=i+j by simp[IntKind.wrap,IntKind.bits,IntKind.signed];omega,Int.fdiv_eq_ediv_of_nonneg _ oM]
  exact HH oM
theorem Vd(l:List pA)(k:vA)(f:pA→vA→Int)(hl:l.length≤2147483648):(0≤(zC l k f).1∧(zC l k f).1≤(l.length:Int))∧((zC l k f).2=true→(zC l k f).1<(l.length:Int)):=by
  unfold zC
  refine lM (body:=pC l k f) (fun(p:Int×Int)=>0≤p.1∧p.1≤p.2∧p.2≤(l.length:Int)) (fun p=>(p.2-p.1).toNat) (fun(v:Int×Bool)=>(0≤v.1∧v.1≤(l.length:Int))∧(v.2=true→v.1<(l.length:Int))) ?_ _ (0,(l.length:Int)) ⟨oM,(by show(0:Int)≤(l.length:Int);omega),Int.le_refl _⟩ (by show((l.length:Int)-0).toNat<_;omega)
  rintro⟨a,b⟩ ⟨h0,h1,h2⟩
  dsimp only at h0 h1 h2
  unfold pC
  dsimp only
  cases hd:decide (a<b)
  · dsimp only[cond_false]
    show(0≤(bif decide (a<(l.length:Int))then _ else _:Int×Bool).1∧_)∧_
    cases hd2:decide (a<(l.length:Int))
    · exact⟨⟨h0,by show a≤_;omega⟩,fun h=>by cases h⟩
    · have:=of_decide_eq_true hd2
      exact⟨⟨h0,by show a≤_;omega⟩,fun _=>this⟩
  · have hlt:=of_decide_eq_true hd
    have hm:=NW h0 hlt oM
    rw[hm]
    have hw:IntKind.wrap .i64 ((a+b) / 2+1)=(a+b) / 2+1:=HH oM
    dsimp only[cond_true]
    show YH.sat _ _ _ (bif _ then _ else _)
    cases decide (f (l.getD ((a+b) / 2).toNat zA) k<0)
    · exact⟨⟨h0,by show a≤(a+b) / 2;omega,by show(a+b) / 2≤_;omega⟩,by show((a+b) / 2-a).toNat<(b-a).toNat;omega⟩
    · rw[hw]
      exact⟨⟨by show 0≤(a+b) / 2+1;omega,by show(a+b) / 2+1≤b;omega,h2⟩,by show(b-((a+b) / 2+1)).toNat<(b-a).toNat;omega⟩
theorem BL(l:List pA)(k:vA)(hl:l.length≤2147483648):(0≤(RC l k).1∧(RC l k).1≤(l.length:Int))∧((RC l k).2=true→(RC l k).1<(l.length:Int)):=Vd l k _ hl
theorem oO{l:List pA}{k:vA}(h:(RC l k).2=true)(hl:l.length≤2147483648):(RC l k).1<(l.length:Int):=(BL l k hl).2 h
theorem iT(l:List pA):(YC l).length=l.length:=rfl
theorem wP{l:List pA}(h:IF l=true):l.length≤24:=(GN (wM h)).1
theorem cZ{l:List qE}(hl:l.length≤100)(h:∀y∈l,y.Kind≠4):∀x∈([l]:List (List qE)),x.length≤100∧∀y∈x,y.Kind≠4:=fun x hx=>by rw[List.mem_singleton.1 hx];exact⟨hl,h⟩
theorem eM(l:List pA)(w:pA):(aF l w).length≤l.length+1:=by
  unfold aF
  cases (RC l w.Key).2
  · show(l.take _++w::l.drop _).length≤_
    rw[List.length_append,List.length_cons,List.length_take,List.length_drop];omega
  · show(l.set _ _).length≤_
    rw[List.length_set];omega
theorem IV{buf:List pA}{got:List ZE}{k:vA}(h:(ME k buf got).2.2=false):(got.any fun g=>g.Key==k)=false:=by
  revert h
  unfold ME
  cases (RC buf k).2
  · rw[cond_false]
    refine yD (fun j _=>((got.take j).any fun g=>g.Key==k)=false) (fun(v:vA×Bool×Bool)=>v.2.2=false→(got.any fun g=>g.Key==k)=false) rfl (fun s hs _=>?_) (fun j s _ hj hs=>?_)
    · rw[List.take_of_length_le oM]at hs;exact hs
    · have hj':j<got.length:=by omega
      unfold zH
      dsimp only
      cases h1:((got.getD j EH).Key==k)
      · show((got.take (j+1)).any fun g=>g.Key==k)=false
        have hs:((got.take j).any fun g=>g.Key==k)=false:=hs
        rw[List.take_succ_eq_append_getElem hj',List.any_append,hs,←xE (d:=EH) hj',List.any_cons,h1];rfl
      · exact fun h=>by cases h
  · exact fun h=>by cases h
theorem OX{l:List qE}{got:List ZE}(h:(GD l got).1=1):∃o∈l,(GD l got).2.1=o.Key∧(got.any fun g=>g.Key==o.Key)=false:=by
  revert h
  unfold GD
  refine yD (fun _ _=>True) (fun(v:Int×vA×List pA)=>v.1=1→∃o∈l,v.2.1=o.Key∧(got.any fun g=>g.Key==o.Key)=false) trivial (fun _ _ h=>?_) (fun j s _ hj _=>?_)
  · cases h
  · have hm:l.getD j EC∈l:=HG (d:=EC) oM
    unfold KD
    dsimp only
    cases decide ((l.getD j EC).Kind=2)
    · cases decide ((l.getD j EC).Kind=3)
      · cases hk:(ME (l.getD j EC).Key s got).2.2
        · exact fun _=>⟨_,hm,rfl,IV hk⟩
        · cases BE (l.getD j EC) ((ME (l.getD j EC).Key s got).1) ((ME (l.getD j EC).Key s got).2.1)
          · exact fun h=>by cases h
          · trivial
      · trivial
    · trivial
theorem TY(rows:List pA)(k:vA):(lH rows k).Key=k:=by
  unfold lH
  cases (RC rows k).2<;>rfl
theorem cT{rows:List pA}{l:List qE}{got:List ZE}(_:∀y∈l,y.Kind≠4)(h:(GD l got).1=1):(l.filter fun o=>!((got++([(lH rows ((GD l got).2.1))]:List ZE)).any fun g=>g.Key==o.Key)).length<(l.filter fun o=>!(got.any fun g=>g.Key==o.Key)).length:=by
  obtain⟨o,ho,hk,hn⟩:=OX h
  refine pO (fun x hx=>?_) ⟨o,ho,by rw[hn];rfl,?_⟩
  · rw[List.any_append,Bool.not_or,Bool.and_eq_true]at hx;exact hx.1
  · rw[List.any_append,hk]
    simp[TY]
theorem zX(r w:List pA):(tH r w).1.length≤24:=by
  unfold tH
  refine yD (fun _ _=>True) (fun(v:List pA×Bool)=>v.1.length≤24) trivial (fun s _=>?_) (fun j s _ _ _=>?_)
  · cases hd:decide (24<((JD s fun y0=>LI y0).length:Int))
    · have:=of_decide_eq_false hd
      show(JD s fun y0=>LI y0).length≤24
      omega
    · exact Nat.zero_le _
  · trivial
theorem HX(s:List pA)(o:List qE):(eH s o).1.length≤s.length∨(eH s o).1.length≤24:=by
  unfold eH
  cases (qF s o).2.2
  · exact .inl (Nat.le_refl _)
  · cases (tH s (qF s o).2.1).2
    · exact .inl (Nat.le_refl _)
    · exact .inr (zX _ _)
def Up(l:List pA):Prop:=l.Pairwise fun a b=>cJ a.Key b.Key=true
structure WU (l:List pA) (k:vA) (i:Nat):Prop where
  le:i≤l.length
  lo:∀j (h:j<l.length),j<i→cJ l[j].Key k=true
  hi:∀j (h:j<l.length),i≤j→cJ l[j].Key k=false
theorem WU.uniq{l:List pA}{k:vA}{i i':Nat}(h:WU l k i)(h':WU l k i'):i=i':=by
  rcases Nat.lt_trichotomy i i' with h1 | h1 | h1
  · have hl:i<l.length:=by have:=h'.le;omega
    have a:=h'.lo i hl h1
    rw[h.hi i hl (Nat.le_refl _)]at a;cases a
  · exact h1
  · have hl:i'<l.length:=by have:=h.le;omega
    have a:=h.lo i' hl h1
    rw[h'.hi i' hl (Nat.le_refl _)]at a;cases a
theorem Up.lt{l:List pA}(h:Up l){i j:Nat}(hi:i<l.length)(hj:j<l.length)(hij:i<j):cJ l[i].Key l[j].Key=true:=List.pairwise_iff_getElem.1 h i j hi hj hij
theorem Up.down{l:List pA}(h:Up l){m:Nat}{k:vA}(hm:m<l.length)(hk:cJ l[m].Key k=true):∀j (h:j<l.length),j≤m→cJ l[j].Key k=true:=fun j hj hjm=>by
  rcases Nat.lt_or_ge j m with hlt | hge
  · exact mM (h.lt hj hm hlt) hk
  · obtain rfl:j=m:=by omega
    exact hk
theorem Up.up{l:List pA}(h:Up l){m:Nat}{k:vA}(hm:m<l.length)(hk:cJ l[m].Key k=false):∀j (h:j<l.length),m≤j→cJ l[j].Key k=false:=fun j hj hjm=>by
  cases hh:cJ l[j].Key k
  · rfl
  · rw[h.down hj hh m hm hjm]at hk;cases hk
def QU(l:List pA)(k:vA)(i:Nat):Bool:=decide (i<l.length)&&((l.getD i zA).Key==k)
theorem HN{l:List pA}{k:vA}{i:Nat}:QU l k i=true↔∃h:i<l.length,l[i].Key=k:=by
  unfold QU
  rw[Bool.and_eq_true,decide_eq_true_eq]
  constructor
  · rintro⟨h,e⟩;refine⟨h,?_⟩;rw[xE h]at e;exact eq_of_beq e
  · rintro⟨h,e⟩;refine⟨h,?_⟩;rw[xE h,e];exact beq_self_eq_true _
theorem WU.fnd_at{l:List pA}(hu:Up l){k:vA}{j:Nat}(hj:j<l.length)(e:l[j].Key=k):WU l k j where
  le:=by omega
  lo i hi hij:=e▸hu.lt hi hj hij
  hi i hi hij:=hu.up hj (by rw[e];exact wY k) i hi hij
theorem Wd(x y:vA):qC x y=cS x y:=by
  unfold qC AF cS
  rw[beq_self_eq_true,beq_self_eq_true];rfl
theorem JO{l:List pA}(hu:Up l)(hl:l.length≤2147483648)(k:vA):∃i,WU l k i∧RC l k=((i:Int),QU l k i):=by
  have hf:(fun y0 y1=>aJ y0 y1)=fun(y0:pA) (y1:vA)=>cS y0.Key y1:=by funext y0 y1;exact Wd _ _
  unfold RC
  rw[hf]
  suffices h:∃i,WU l k i∧zC l k (fun y0 y1=>cS y0.Key y1)=((i:Int),QU l k i)by
    obtain⟨i,h1,h2⟩:=h;exact⟨i,h1,by rw[h2]⟩
  unfold zC
  refine lM (body:=pC l k fun y0 y1=>cS y0.Key y1) (fun(p:Int×Int)=>(0≤p.1∧p.1≤p.2∧p.2≤(l.length:Int))∧(∀j (h:j<l.length),(j:Int)<p.1→cJ l[j].Key k=true)∧∀j (h:j<l.length),p.2≤(j:Int)→cJ l[j].Key k=false) (fun p=>(p.2-p.1).toNat) (fun(v:Int×Bool)=>∃i,WU l k i∧v=((i:Int),QU l k i)) ?_ _ (0,(l.length:Int)) ⟨⟨by omega,(by show(0:Int)≤(l.length:Int);omega),Int.le_refl _⟩,fun j _ h=>by dsimp only at h;omega,fun j h h2=>by dsimp only at h2;omega⟩ (by show((l.length:Int)-0).toNat<_;omega)
  rintro⟨a,b⟩ ⟨⟨h0,h1,h2⟩,h3,h4⟩
  dsimp only at h0 h1 h2 h3 h4
  unfold pC
  dsimp only
  cases hd:decide (a<b)
  · have hge:=of_decide_eq_false hd
    have hp:WU l k a.toNat:=⟨by omega,fun j h hj=>h3 j h oM,fun j h hj=>h4 j h oM⟩
    dsimp only[cond_false]
    show ∃i,WU l k i∧(bif decide (a<(l.length:Int))then(a,decide (cS (l.getD a.toNat zA).Key k=0))else(a,false))=((i:Int),QU l k i)
    refine⟨a.toNat,hp,?_⟩
    rw[show((a.toNat:Nat):Int)=a by omega]
    unfold QU
    by_cases hl2:a<(l.length:Int)
    · rw[decide_eq_true hl2,decide_eq_true (show a.toNat<l.length by omega),gY]
      show(a,_)=(a,_)
      congr 1
      rw[Bool.eq_iff_iff,decide_eq_true_eq,Bool.true_and]
      exact⟨fun e=>by rw[e];exact beq_self_eq_true _,eq_of_beq⟩
    · rw[decide_eq_false hl2,decide_eq_false (show ¬a.toNat<l.length by omega)];rfl
  · have hlt:=of_decide_eq_true hd
    have hm:=NW h0 hlt oM
    rw[hm,OW]
    have hw:IntKind.wrap .i64 ((a+b) / 2+1)=(a+b) / 2+1:=HH oM
    have hml:((a+b) / 2).toNat<l.length:=by omega
    rw[xE hml]
    dsimp only[cond_true]
    show YH.sat _ _ _ (bif _ then _ else _)
    cases hs:cJ l[((a+b) / 2).toNat].Key k
    · exact⟨⟨⟨h0,by show a≤(a+b) / 2;omega,by show(a+b) / 2≤_;omega⟩,h3,fun j h hj=>hu.up hml hs j h (by dsimp only at hj;omega)⟩,by show((a+b) / 2-a).toNat<(b-a).toNat;omega⟩
    · rw[hw]
      exact⟨⟨⟨by show 0≤(a+b) / 2+1;omega,by show(a+b) / 2+1≤b;omega,h2⟩,fun j h hj=>hu.down hml hs j h (by dsimp only at hj;omega),h4⟩,by show(b-((a+b) / 2+1)).toNat<(b-a).toNat;omega⟩
theorem Va{l:List pA}(hu:Up l)(hl:l.length≤2147483648)(k:vA):∃i,WU l k i:=by
  obtain⟨i,h,_⟩:=JO hu hl k;exact⟨i,h⟩
def bR(l:List pA)(w:pA)(i:Nat):List pA:=bif QU l w.Key i then l.set i w else l.take i++w::l.drop i
theorem CX{l:List pA}(hu:Up l)(hl:l.length≤2147483648)(w:pA){i:Nat}(hp:WU l w.Key i):aF l w=bR l w i:=by
  obtain⟨i',h,e⟩:=JO hu hl w.Key
  obtain rfl:=hp.uniq h
  unfold aF bR
  rw[e];rfl
theorem BX{l:List pA}(hu:Up l)(hl:l.length≤1000000)(w:pA){i:Nat}(hp:WU l w.Key i):VD l w=bR l w i:=by
  unfold VD
  refine lM (body:=EG l w) (fun(x:Int)=>(0≤x∧x≤(l.length:Int))∧∀j (h:j<l.length),x≤(j:Int)→cJ w.Key l[j].Key=true) (fun x=>x.toNat) (fun(v:List pA)=>v=bR l w i) ?_ _ _ ⟨⟨by omega,Int.le_refl _⟩,fun j h h2=>by omega⟩ oM
  rintro x ⟨⟨h0,h1⟩,h2⟩
  unfold EG
  dsimp only
  have hi:=hp.le
  have key:(0<x→∀h:x.toNat-1<l.length,dN l[x.toNat-1].Key w.Key=true)→((bif decide (0<x)then(bif(l.getD (IntKind.wrap .i64 (x-1)).toNat zA).Key==w.Key then((([]:List pA)++l).set (IntKind.wrap .i64 (x-1)).toNat w)else(((([]:List pA)++(l.take x.toNat))++([w]:List pA))++(([]:List pA)++(l.drop x.toNat))))else(((([]:List pA)++(l.take x.toNat))++([w]:List pA))++(([]:List pA)++(l.drop x.toNat)))):List pA)=bR l w i:=fun hx=>by
    have hins:∀q:Nat,(((([]:List pA)++(l.take q))++([w]:List pA))++(([]:List pA)++(l.drop q)))=l.take q++w::l.drop q:=fun q=>by simp
    rw[hins]
    by_cases hx0:0<x
    · rw[decide_eq_true hx0,cond_true,HH oM,show(x-1).toNat=x.toNat-1 by omega]
      have hxl:x.toNat-1<l.length:=by omega
      have hle:=hx hx0 hxl
      rw[xE hxl]
      unfold dN at hle
      cases he:(l[x.toNat-1].Key==w.Key)
      · rw[he,Bool.or_false]at hle
        have e:i=x.toNat:=hp.uniq ⟨by omega,fun j h hj=>hu.down hxl hle j h oM,fun j h hj=>xW (h2 j h oM)⟩
        have hnf:QU l w.Key i=false:=by
          rw[←Bool.not_eq_true,HN]
          rintro⟨h,h3⟩
          have:=h2 i h oM
          rw[h3]at this;exact TK _ this
        unfold bR
        rw[hnf,e];rfl
      · have e:i=x.toNat-1:=hp.uniq (WU.fnd_at hu hxl (eq_of_beq he))
        have hf:QU l w.Key i=true:=HN.2 ⟨by omega,by subst e;exact eq_of_beq he⟩
        unfold bR
        rw[hf,e];rfl
    · rw[decide_eq_false hx0,cond_false]
      have e:i=x.toNat:=hp.uniq ⟨by omega,fun j h hj=>by omega,fun j h hj=>xW (h2 j h oM)⟩
      have hnf:QU l w.Key i=false:=by
        rw[←Bool.not_eq_true,HN]
        rintro⟨h,h3⟩
        have:=h2 i h oM
        rw[h3]at this;exact TK _ this
      unfold bR
      rw[hnf,e];rfl
  cases hd:decide (0<x)
  · exact key fun h=>absurd h (of_decide_eq_false hd)
  · have hx0:=of_decide_eq_true hd
    have hxl:x.toNat-1<l.length:=by omega
    rw[cond_true,HH oM,show(x-1).toNat=x.toNat-1 by omega,xE hxl]
    cases hs:dN l[x.toNat-1].Key w.Key
    · rw[cond_false]
      rw[mR]at hs
      have hs:cJ w.Key l[x.toNat-1].Key=true:=by simpa using hs
      refine⟨⟨⟨by omega,by omega⟩,fun j h hj=>?_⟩,by omega⟩
      rcases Nat.lt_or_ge j x.toNat with hlt | hge
      · obtain rfl:j=x.toNat-1:=by omega
        exact hs
      · exact h2 j h oM
    · rw[cond_true]
      exact key fun _ _=>hs
theorem BU{l:List pA}(hu:Up l)(hl:l.length≤1000000)(w:pA):aF l w=VD l w:=by
  obtain⟨i,hp⟩:=Va hu oM w.Key
  rw[CX hu oM w hp,BX hu hl w hp]
theorem Xa{l:List pA}{w y:pA}{i:Nat}(h:y∈bR l w i):y∈l∨y=w:=by
  unfold bR at h
  cases hf:QU l w.Key i
  · rw[hf,cond_false]at h
    rcases List.mem_append.1 h with h | h
    · exact .inl (List.mem_of_mem_take h)
    · rcases List.mem_cons.1 h with h | h
      · exact .inr h
      · exact .inl (List.mem_of_mem_drop h)
  · rw[hf,cond_true]at h
    exact List.mem_or_eq_of_mem_set h
theorem Wc{l:List pA}(hu:Up l){w:pA}{i:Nat}(hp:WU l w.Key i):Up (bR l w i):=by
  unfold bR
  cases hf:QU l w.Key i
  · rw[cond_false]
    have hne:∀h:i<l.length,l[i].Key≠w.Key:=fun h e=>by rw[HN.2 ⟨h,e⟩]at hf;cases hf
    unfold Up
    have h0:=hu
    unfold Up at h0
    rw[←List.take_append_drop i l,List.pairwise_append]at h0
    obtain⟨h1,h2,h3⟩:=h0
    rw[List.pairwise_append,List.pairwise_cons]
    have hd:∀y∈l.drop i,cJ w.Key y.Key=true:=fun y hy=>by
      obtain⟨j,hj,rfl⟩:=List.mem_iff_getElem.1 hy
      rw[List.length_drop]at hj
      rw[List.getElem_drop]
      have hil:i+j<l.length:=by omega
      cases hs:cJ w.Key l[i+j].Key
      · have e:=EU hs (hp.hi (i+j) hil oM)
        rcases Nat.eq_zero_or_pos j with h0 | h0
        · subst h0;exact absurd e.symm (hne oM)
        · have h4:=hu.lt (show i<l.length by omega) hil oM
          rw[←e,hp.hi i oM (Nat.le_refl _)]at h4;cases h4
      · rfl
    have ht:∀x∈l.take i,cJ x.Key w.Key=true:=fun x hx=>by
      obtain⟨j,hj,rfl⟩:=List.mem_iff_getElem.1 hx
      rw[List.length_take]at hj
      rw[List.getElem_take]
      exact hp.lo j oM oM
    refine⟨h1,⟨hd,h2⟩,fun a ha b hb=>?_⟩
    rcases List.mem_cons.1 hb with rfl | hb
    · exact ht a ha
    · exact h3 a ha b hb
  · rw[cond_true]
    obtain⟨h,e⟩:=HN.1 hf
    unfold Up
    have hm:(l.set i w).map (·.Key)=l.map (·.Key):=by
      rw[List.map_set]
      apply List.ext_getElem (by simp)
      intro j h1 h2
      rw[List.getElem_set]
      split
      · rename_i hij;subst hij;rw[List.getElem_map];exact e.symm
      · rfl
    have h1:((l.set i w).map (·.Key)).Pairwise fun a b=>cJ a b=true:=by rw[hm];exact List.pairwise_map.2 hu
    exact List.pairwise_map.1 h1
theorem AU{l:List pA}(hu:Up l)(hl:l.length≤1000000)(w:pA):Up (VD l w)∧(∀y∈VD l w,y∈l∨y=w)∧(VD l w).length≤l.length+1:=by
  obtain⟨i,hp⟩:=Va hu oM w.Key
  refine⟨by rw[BX hu hl w hp];exact Wc hu hp,fun y hy=>by rw[BX hu hl w hp]at hy;exact Xa hy,?_⟩
  rw[←BU hu hl w];exact eM l w
theorem MT{l:List pA}(hu:Up l)(k:vA){ρ:Type}{body:Nat→Unit→YH ρ Unit}(f:pA→ρ)(e:ρ){i:Nat}(hp:WU l k i)(hb:∀j,body j ()=bif(l.getD j zA).Key==k then .ret (f (l.getD j zA))else .cont ()) :
    ED (UA body (l.length-0) 0 ()) (fun r=>r) (fun _=>e)=bif QU l k i then f (l.getD i zA)else e:=by
  refine yD (fun j _=>∀q (h:q<l.length),q<j→l[q].Key≠k) (fun v=>v=bif QU l k i then f (l.getD i zA)else e) (fun q _ h=>absurd h (Nat.not_lt_zero _)) (fun s hs=>?_) (fun j s _ hj hs=>?_)
  · have:QU l k i=false:=by
      rw[←Bool.not_eq_true,HN]
      rintro⟨h,h3⟩
      exact hs i h oM h3
    rw[this];rfl
  · have hj':j<l.length:=by omega
    cases s
    rw[hb]
    cases hk:((l.getD j zA).Key==k)
    · intro q h hq hqk
      rcases Nat.lt_or_ge q j with hlt | hge
      · exact hs q h hlt hqk
      · obtain rfl:q=j:=by omega
        rw[xE hj',hqk,beq_self_eq_true]at hk;cases hk
    · rw[xE hj']at hk
      have e1:=hp.uniq (WU.fnd_at hu hj' (eq_of_beq hk))
      subst e1
      show f (l.getD i zA)=_
      rw[HN.2 ⟨hj',eq_of_beq hk⟩];rfl
theorem dX{buf:List pA}(hu:Up buf)(hl:buf.length≤1000000)(got:List ZE)(k:vA):ME k buf got=lC buf got k:=by
  obtain⟨i,hp,e⟩:=JO hu oM k
  unfold ME lC
  rw[e,MT hu k (body:=sG buf got k) (fun w=>(w.Val,!w.Gone,true)) _ hp fun j=>rfl]
  cases hf:QU buf k i
  · rfl
  · rfl
theorem Aa{rows:List pA}(hu:Up rows)(hl:rows.length≤1000000)(k:vA):lH rows k=cG rows k:=by
  obtain⟨i,hp,e⟩:=JO hu oM k
  unfold lH cG
  rw[e,MT hu k (body:=DH rows k) (fun w=>(⟨k,w.Val,true⟩:ZE)) _ hp fun j=>rfl]
  cases hf:QU rows k i<;>rfl
def DM(l:List qE):Prop:=∀y∈l,y.Kind=2∨y.Kind=3∨y.Kind=6∨y.Kind=7
theorem pT{o:qE}(h:o.Kind=2∨o.Kind=3)(v:vA)(th:Bool):lE o v th=false:=by
  unfold lE
  rw[decide_eq_false (show ¬o.Kind=4 by omega),decide_eq_false (show ¬o.Kind=5 by omega),decide_eq_false (show ¬o.Kind=6 by omega),decide_eq_false (show ¬o.Kind=7 by omega)];rfl
theorem Da{o:qE}(h:o.Kind=6∨o.Kind=7)(v:vA)(th:Bool):BE o v th=!lE o v th:=by
  unfold BE lE
  rw[decide_eq_false (show ¬o.Kind=4 by omega),decide_eq_false (show ¬o.Kind=5 by omega)]
  rcases h with h | h
  · rw[decide_eq_true h];rfl
  · rw[decide_eq_false (show ¬o.Kind=6 by omega),decide_eq_true h]
    cases th
    · rfl
    · cases v==o.Val<;>rfl
theorem MN{ρ σ:Type}{b b':Nat→σ→YH ρ σ}(I:Nat→σ→Prop):∀(n k:Nat) (s:σ),I k s→(∀j s,k≤j→j<k+n→I j s→b j s=b' j s∧∀s',b j s=.cont s'→I (j+1) s')→UA b n k s=UA b' n k s
  | 0,_,_,_,_=>rfl
  | n+1,k,s,h0,h=>by
    obtain⟨h1,h2⟩:=h k s (Nat.le_refl _) oM h0
    simp only[UA]
    rw[←h1]
    cases hb:b k s with
    | ret r=>rfl
    | brk s=>rfl
    | cont s'=>exact MN I n (k+1) s' (h2 s' hb) fun j s h3 h4=>h j s oM oM
theorem NT{l:List qE}(hk:DM l)(hl:l.length≤1000)(got:List ZE){j:Nat}(hj:j<l.length){x:List pA}(hu:Up x)(hx:x.length≤j) :
    KD l got j x=gD l got j x∧∀s',KD l got j x=.cont s'→(Up s'∧s'.length≤j+1)∧∀y∈s',y∈x∨(y.Key=(l.getD j EC).Key∧((y.Val=(l.getD j EC).Val∧y.Gone=false∧(l.getD j EC).Kind=2)∨(y.Val=[]∧y.Gone=true∧(l.getD j EC).Kind=3))):=by
  have hko:=hk _ (HG (d:=EC) hj)
  unfold KD gD
  dsimp only
  generalize l.getD j EC=o at *
  have hc:=dX hu oM got o.Key
  rw[hc]
  rcases hko with h2 | h3 | h67
  · have hg:=pT (.inl h2) (lC x got o.Key).1 (lC x got o.Key).2.1
    have hp:=AU hu oM (⟨o.Key,o.Val,false⟩:pA)
    rw[decide_eq_true h2,hg,cond_true,BU hu oM]
    refine⟨by cases (lC x got o.Key).2.2<;>rfl,fun s' hs=>?_⟩
    cases hs
    refine⟨⟨hp.1,by omega⟩,fun y hy=>?_⟩
    rcases hp.2.1 y hy with h | rfl
    · exact .inl h
    · exact .inr ⟨rfl,.inl ⟨rfl,rfl,h2⟩⟩
  · have hg:=pT (.inr h3) (lC x got o.Key).1 (lC x got o.Key).2.1
    have hp:=AU hu oM (⟨o.Key,[],true⟩:pA)
    rw[decide_eq_false (show ¬o.Kind=2 by omega),decide_eq_true h3,hg,cond_true,cond_false,BU hu oM]
    refine⟨by cases (lC x got o.Key).2.2<;>rfl,fun s' hs=>?_⟩
    cases hs
    refine⟨⟨hp.1,by omega⟩,fun y hy=>?_⟩
    rcases hp.2.1 y hy with h | rfl
    · exact .inl h
    · exact .inr ⟨rfl,.inr ⟨rfl,rfl,h3⟩⟩
  · rw[decide_eq_false (show ¬o.Kind=2 by omega),decide_eq_false (show ¬o.Kind=3 by omega),decide_eq_false (show ¬o.Kind=4 by omega),Da h67]
    cases (lC x got o.Key).2.2
    · exact⟨rfl,fun s' hs=>by cases hs⟩
    · cases lE o (lC x got o.Key).1 (lC x got o.Key).2.1
      · exact⟨rfl,fun s' hs=>by cases hs;exact⟨⟨hu,by omega⟩,fun y hy=>.inl hy⟩⟩
      · exact⟨rfl,fun s' hs=>by cases hs⟩
theorem yY{l:List qE}(hk:DM l)(hl:l.length≤1000)(got:List ZE):GD l got=MD l got:=by
  unfold GD MD
  have h:=MN (b:=KD l got) (b':=gD l got) (fun j (x:List pA)=>Up x∧x.length≤j) (l.length-0) 0 [] ⟨List.Pairwise.nil,Nat.le_refl _⟩ fun j s _ hj hI=>by
    obtain⟨h1,h2⟩:=NT hk hl got (j:=j) oM hI.1 hI.2
    exact⟨h1,fun s' hs=>(h2 s' hs).1⟩
  rw[h]
def Bc(l:List qE)(x:List pA):Prop:=Up x∧x.length≤l.length∧∀y∈x,∃o∈l,y.Key=o.Key∧((y.Val=o.Val∧y.Gone=false∧o.Kind=2)∨(y.Val=[]∧y.Gone=true∧o.Kind=3))
theorem Bc.nil(l:List qE):Bc l []:=⟨List.Pairwise.nil,Nat.zero_le _,fun _ h=>by cases h⟩
theorem Eb{l:List qE}(hk:DM l)(hl:l.length≤1000)(got:List ZE):Bc l (MD l got).2.2:=by
  rw[←yY hk hl got]
  unfold GD
  refine yD (fun j (x:List pA)=>Up x∧x.length≤j∧∀y∈x,∃o∈l,y.Key=o.Key∧((y.Val=o.Val∧y.Gone=false∧o.Kind=2)∨(y.Val=[]∧y.Gone=true∧o.Kind=3))) (fun(v:Int×vA×List pA)=>Bc l v.2.2) ⟨List.Pairwise.nil,Nat.le_refl _,fun _ h=>by cases h⟩ (fun s hs=>⟨hs.1,by have:=hs.2.1;show s.length≤_;omega,hs.2.2⟩) (fun j s _ hj hI=>?_)
  have hj':j<l.length:=by omega
  obtain⟨_,h2⟩:=NT hk hl got hj' hI.1 hI.2.1
  have hr:∀r,KD l got j s=.ret r→r.2.2=[]:=fun r hr=>by
    unfold KD at hr
    dsimp only at hr
    revert hr
    cases decide ((l.getD j EC).Kind=2)
    · cases decide ((l.getD j EC).Kind=3)
      · cases (ME (l.getD j EC).Key s got).2.2
        · intro h;cases h;rfl
        · cases BE (l.getD j EC) ((ME (l.getD j EC).Key s got).1) ((ME (l.getD j EC).Key s got).2.1)
          · intro h;cases h;rfl
          · intro h;cases h
      · intro h;cases h
    · intro h;cases h
  have hbk:∀r,KD l got j s≠.brk r:=fun r hr=>by
    unfold KD at hr
    dsimp only at hr
    revert hr
    cases decide ((l.getD j EC).Kind=2)
    · cases decide ((l.getD j EC).Kind=3)
      · cases (ME (l.getD j EC).Key s got).2.2
        · intro h;cases h
        · cases BE (l.getD j EC) ((ME (l.getD j EC).Key s got).1) ((ME (l.getD j EC).Key s got).2.1)
          · intro h;cases h
          · intro h;cases h
      · intro h;cases h
    · intro h;cases h
  cases hb:KD l got j s with
  | ret r=>show Bc l r.2.2;rw[hr r hb];exact Bc.nil l
  | brk s'=>exact absurd hb (hbk s')
  | cont s'=>
    obtain⟨⟨a,b⟩,c⟩:=h2 s' hb
    refine⟨a,b,fun y hy=>?_⟩
    rcases c y hy with h | h
    · exact hI.2.2 y h
    · exact⟨_,HG (d:=EC) hj',h⟩
theorem PZ{rows:List pA}(hu:Up rows)(hr:rows.length≤1000000){l:List qE}(hk:DM l)(hl:l.length≤1000):qF rows l=bD rows l:=by
  have hb:ZG rows l=CG rows l:=by
    funext x
    unfold ZG CG
    dsimp only
    rw[yY hk hl x,Aa hu hr]
  unfold qF bD
  rw[hb]
theorem EY(rows:List pA){l:List qE}(hk:DM l)(hl:l.length≤1000):Bc l (bD rows l).2.1:=by
  unfold bD
  refine lM (body:=CG rows l) (fun _=>True) (fun(x:List ZE)=>(l.filter fun o=>!(x.any fun g=>g.Key==o.Key)).length) (fun(v:List ZE×List pA×Bool)=>Bc l v.2.1) ?_ _ _ trivial (Nat.lt_succ_self _)
  intro x _
  unfold CG
  dsimp only
  cases hd:decide ((MD l x).1=1)
  · exact Eb hk hl x
  · exact⟨trivial,xR (rows:=rows) (of_decide_eq_true hd)⟩
theorem jU:∀(w rows:List pA),Up rows→rows.length+w.length≤1000000→Up (w.foldl VD rows)∧(∀y∈w.foldl VD rows,y∈rows∨y∈w)∧w.foldl aF rows=w.foldl VD rows
  | [],rows,h,_=>⟨h,fun y hy=>.inl hy,rfl⟩
  | x::w,rows,h,hl=>by
    rw[List.length_cons]at hl
    obtain⟨a,b,c⟩:=AU h oM x
    obtain⟨a2,b2,c2⟩:=jU w (VD rows x) a oM
    refine⟨a2,fun y hy=>?_,?_⟩
    · rcases b2 y hy with h | h
      · rcases b y h with h | h
        · exact .inl h
        · exact .inr (by rw[h];exact List.mem_cons_self ..)
      · exact .inr (List.mem_cons_of_mem _ h)
    · rw[List.foldl_cons,List.foldl_cons,BU h oM,c2]
theorem oT{T:Type}(f:List pA→pA→List pA){body:Nat→List pA→YH T (List pA)}(w rows:List pA)(hb:∀j x,body j x=.cont (f x (w.getD j zA))){U:Type}(fr:T→U)(fd:List pA→U):ED (UA body (w.length-0) 0 rows) fr fd=fd (w.foldl f rows):=by
  refine yD (fun k (p:List pA)=>p=(w.take k).foldl f rows) (fun v=>v=fd (w.foldl f rows)) rfl (fun s hs=>by rw[hs,List.take_of_length_le oM]) (fun j s _ hj hs=>?_)
  have hj':j<w.length:=by omega
  rw[hb]
  show f s (w.getD j zA)=_
  rw[List.take_succ_eq_append_getElem hj',List.foldl_append,←hs,←xE (d:=zA) hj'];rfl
theorem uO(rows w:List pA):SC rows w=(w.foldl VD rows).filter fun y=>!y.Gone:=by
  unfold SC
  rw[oT VD (body:=xI rows w) w _ fun j x=>rfl]
  rw[List.nil_append]
  generalize w.foldl VD rows=l
  refine yD (fun k (p:List pA)=>p=(l.take k).filter fun y=>!y.Gone) (fun(v:List pA)=>v=l.filter fun y=>!y.Gone) rfl (fun s h=>by rw[h,List.take_of_length_le oM]) ?_
  intro j s _ hj hs
  have hj':j<l.length:=by omega
  unfold jH
  dsimp only
  rw[List.take_succ_eq_append_getElem hj',List.filter_append,←hs,←xE (d:=zA) hj',List.filter_cons]
  cases (l.getD j zA).Gone<;>simp
theorem AX{rows w:List pA}(hu:Up rows)(hl:rows.length+w.length≤1000000):tH rows w=bif decide (24<((SC rows w).length:Int))then([],false)else(SC rows w,true):=by
  unfold tH
  rw[oT aF (body:=sJ rows w) w _ fun j x=>rfl]
  have hc:YC rows=rows:=rfl
  rw[hc,(jU w rows hu hl).2.2,uO];rfl
theorem Yc{l:List pA}(h:fD l=true):Up l:=by
  have h1:=wM (tI l▸h)
  rw[oK,Bool.and_eq_true,List.all_eq_true]at h1
  have h24:l.length≤24:=by have:=of_decide_eq_true h1.2;omega
  have step:∀i (hi:i+1<l.length),cJ l[i].Key l[i+1].Key=true:=fun i hi=>by
    have h3:=h1.1 (i+1) (List.mem_range.2 hi)
    rw[Bool.and_eq_true]at h3
    have h4:=h3.2
    unfold SK at h4
    rw[decide_eq_true oM,cond_true,HH oM,show(((i+1:Nat):Int)-1).toNat=i by omega,xE (by rw[List.length_map];omega),xE (by rw[List.length_map];exact hi),List.getElem_map,List.getElem_map]at h4
    exact h4
  have all:∀d i (hj:i+d+1<l.length),cJ l[i].Key l[i+d+1].Key=true:=by
    intro d
    induction d with
    | zero=>exact fun i hj=>step i hj
    | succ d ih=>exact fun i hj=>mM (ih i oM) (step (i+d+1) oM)
  refine List.pairwise_iff_getElem.2 fun i j hi hj hij=>?_
  obtain⟨d,rfl⟩:∃d,j=i+d+1:=⟨j-i-1,by omega⟩
  exact all d i hj
theorem QP(l:List pA):fD l=true↔(∀y∈l,GE y.Key y.Val y.Gone=true)∧(∀y∈l,y.Gone=false)∧Up l∧l.length≤24:=by
  constructor
  · intro h
    have hu:=Yc h
    rw[tI,KO,Bool.and_eq_true,oK,Bool.and_eq_true,List.all_eq_true,List.all_eq_true]at h
    refine⟨fun y hy=>?_,fun y hy=>by simpa using h.2 y hy,hu,by have:=of_decide_eq_true h.1.2;omega⟩
    obtain⟨j,hj,rfl⟩:=List.mem_iff_getElem.1 hy
    have h1:=h.1.1 j (List.mem_range.2 hj)
    rw[Bool.and_eq_true,xE hj]at h1
    exact h1.1
  · rintro⟨h1,h2,hu,h4⟩
    rw[tI,KO,Bool.and_eq_true,oK,Bool.and_eq_true,List.all_eq_true,List.all_eq_true]
    refine⟨⟨fun j hj=>?_,decide_eq_true oM⟩,fun y hy=>by rw[h2 y hy];rfl⟩
    have hj:=List.mem_range.1 hj
    rw[Bool.and_eq_true,xE hj]
    refine⟨h1 _ (List.getElem_mem hj),?_⟩
    unfold SK
    by_cases h0:0<j
    · rw[decide_eq_true oM,cond_true,HH oM,xE (by rw[List.length_map];omega),xE (by rw[List.length_map];exact hj),List.getElem_map,List.getElem_map]
      exact hu.lt _ _ oM
    · rw[decide_eq_false oM];rfl
theorem uP{l:List qE}(h:qI l=true):(∀o∈l,WE o=true)∧l.length≤8:=by
  unfold qI at h
  rw[LW EC WE (r:=false) fun k=>by unfold fI;rfl]at h
  obtain⟨h1,h2⟩:=rD h
  exact⟨List.all_eq_true.1 h1,by have:=of_decide_eq_true h2;omega⟩
theorem DZ{l:List qE}(hg:∀o∈l,WE o=true){x:List pA}(h:Bc l x):∀y∈x,GE y.Key y.Val y.Gone=true:=fun y hy=>by
  obtain⟨o,ho,hk,h2⟩:=h.2.2 y hy
  have hg:=hg o ho
  unfold WE at hg
  obtain⟨g1,g2⟩:=rD hg
  unfold GE
  rw[hk,g1]
  rcases h2 with⟨hv,hn,h2⟩ | ⟨hv,hn,_⟩
  · rw[decide_eq_true h2,cond_true]at g2
    rw[hv,hn,(rD g2).1];rfl
  · rw[hv,hn];rfl
theorem zU{rows w:List pA}(hr:fD rows=true)(hw:∀y∈w,GE y.Key y.Val y.Gone=true)(hl:w.length≤1000):fD (SC rows w)=decide ((SC rows w).length≤24):=by
  obtain⟨h1,h2,h3,h4⟩:=(QP rows).1 hr
  obtain⟨a,b,_⟩:=jU w rows h3 oM
  by_cases hlen:(SC rows w).length≤24
  · rw[decide_eq_true hlen,QP]
    rw[uO]at hlen ⊢
    refine⟨fun y hy=>?_,fun y hy=>?_,List.Pairwise.filter _ a,hlen⟩
    · rcases b y (List.mem_filter.1 hy).1 with h | h
      · exact h1 y h
      · exact hw y h
    · simpa using(List.mem_filter.1 hy).2
  · rw[decide_eq_false hlen,←Bool.not_eq_true,QP]
    exact fun h=>hlen h.2.2.2
theorem oZ{rows:List pA}{l:List qE}(hr:fD rows=true)(hg:qI l=true)(hk:DM l):eH rows l=SH rows l∧fD (SH rows l).1=true:=by
  obtain⟨h1,h2,h3,h4⟩:=(QP rows).1 hr
  obtain⟨g1,g2⟩:=uP hg
  have hw:=EY rows hk oM
  have hx:=DZ g1 hw
  have hgood:=zU hr hx (by have:=hw.2.1;omega)
  have hput:=AX (w:=(bD rows l).2.1) h3 (by have:=hw.2.1;omega)
  have hrun:=Zc hr hg (show bD rows l=((bD rows l).1,(bD rows l).2.1,(bD rows l).2.2)from rfl)
  unfold eH SH
  rw[PZ h3 oM hk oM,hput,hrun,hgood]
  by_cases hlen:(SC rows (bD rows l).2.1).length≤24
  · rw[decide_eq_false (show ¬(24:Int)<_ by omega)]
    rw[decide_eq_true hlen]at hgood ⊢
    cases (bD rows l).2.2
    · exact⟨rfl,hr⟩
    · exact⟨rfl,hgood⟩
  · rw[decide_eq_true (show(24:Int)<_ by omega),decide_eq_false hlen]
    cases (bD rows l).2.2<;>exact⟨rfl,hr⟩

theorem FW{t:VA}(h:FB t=true):rC t.Name 1=true:=by
  rw[kL]at h
  simp only[Bool.and_eq_true,List.all_eq_true,List.mem_range]at h
  exact h.1.1.1
theorem DU{t:VA}{r:nB}(h:WG t r=true):GF (LA t r).Key=true∧iG (LA t r).Val=true:=by
  obtain⟨hg,hr,hf,hl,hc⟩:=LL h
  have hn1:=FW hg
  have ln1:=NL hn1
  have f0:=iX h (k:=0) oM
  have l0:=sL f0
  have hc4:=(kK.of hg).cols
  refine⟨?_,?_⟩
  · rw[lR]
    refine TR (by simp only[lN];omega) (by simp only[lN];omega) fun b hb=>?_
    simp only[List.mem_append,List.mem_singleton]at hb
    rcases hb with(hb | hb) | hb
    · exact JN hn1 b hb
    · rw[hb];decide
    · exact qN f0 b hb _
  · show iG (xD (r.Vals.drop 1) ([44]:vA))=true
    unfold xD
    have hs:∀x∈r.Vals.drop 1,UD x=true:=fun x hx=>hf x (List.mem_of_mem_drop hx)
    have h1:=uL (r.Vals.drop 1) fun x hx=>by have:=sL (hs x hx);omega
    rw[List.length_drop]at h1
    refine dW oM fun b hb=>?_
    rcases sO _ b hb with hb | ⟨x,hx,hb⟩
    · rw[hb];decide
    · exact qN (hs x hx) b hb _
theorem Vc{k:vA}(hk:GF k=true):WE ⟨6,k,[],0⟩=true:=by
  unfold WE
  rw[hk];rfl
structure DP (t:VA) (a:MB):Prop where
  tbl:FB t=true
  act:HC t a=true
  kind:a.Kind=1∨a.Kind=2∨a.Kind=3
  old:a.Kind≠1→WG t a.Old=true
  new:a.Kind≠2→WG t a.New=true
  same:a.Kind=3→a.Old.Vals.getD 0 wA=a.New.Vals.getD 0 wA
theorem DP.of{t:VA}{a:MB}(h:hJ t a=true):DP t a:=by
  have hg:=(SM h).1
  have h':=h
  unfold hJ at h
  have h2:=(rD h).2
  have row:∀r,wC t r=true→WG t r=true:=fun r hr=>by unfold WG;rw[mF,hg,hr];rfl
  have h3:=h2
  unfold HC at h3
  by_cases k1:a.Kind=1
  · rw[decide_eq_true k1,cond_true]at h3
    have h4:=(rD h3).2
    exact⟨hg,h2,.inl k1,fun h=>absurd k1 h,fun _=>row _ h4,fun h=>by omega⟩
  · rw[decide_eq_false k1,cond_false]at h3
    by_cases k2:a.Kind=2
    · rw[decide_eq_true k2,cond_true]at h3
      have h4:=(rD h3).1
      exact⟨hg,h2,.inr (.inl k2),fun _=>row _ h4,fun h=>absurd k2 h,fun h=>by omega⟩
    · rw[decide_eq_false k2,cond_false]at h3
      by_cases k3:a.Kind=3
      · rw[decide_eq_true k3,cond_true]at h3
        obtain⟨h4,h5⟩:=rD h3
        obtain⟨h5,h6⟩:=rD h5
        exact⟨hg,h2,.inr (.inr k3),fun _=>row _ h4,fun _=>row _ h5,fun _=>eq_of_beq h6⟩
      · rw[decide_eq_false k3]at h3;cases h3
def Zb(y:qE):Prop:=WE y=true∧(y.Kind=2∨y.Kind=3∨y.Kind=6∨y.Kind=7)
theorem Lc{t:VA}{x:yF}{a:MB}{y:qE}(h:y∈tD t x a):(a.Kind≠1∧y=⟨3,LB t x a.Old,[],0⟩)∨(a.Kind≠2∧y=⟨2,LB t x a.New,[],0⟩):=by
  unfold tD at h
  try rw[show(([]:vA)==([]:vA))=true from rfl]at h
  generalize LB t x a.Old=eO at h ⊢
  generalize LB t x a.New=eN at h ⊢
  by_cases k1:a.Kind=1
  · have k2:¬a.Kind=2:=by omega
    rw[decide_eq_true k1,decide_eq_false k2]at h
    refine .inr ⟨k2,?_⟩
    revert h
    cases eN==[]<;>cases decide (2≤x.Stage)<;>simp
  · rw[decide_eq_false k1]at h
    by_cases k2:a.Kind=2
    · rw[decide_eq_true k2]at h
      refine .inl ⟨k1,?_⟩
      revert h
      cases eO==[]<;>cases decide (1≤x.Stage)<;>simp
    · rw[decide_eq_false k2]at h
      have:y=⟨3,eO,[],0⟩∨y=⟨2,eN,[],0⟩:=by
        revert h
        cases eO==[]<;>cases eN==[]<;>cases eO==eN<;>cases decide (1≤x.Stage)<;>cases decide (2≤x.Stage)<;>simp<;>intro h<;>first | exact .inl h | exact .inr h | exact h
      rcases this with h | h
      · exact .inl ⟨k1,h⟩
      · exact .inr ⟨k2,h⟩
theorem lT{t:VA}{r:nB}(h:WG t r=true){k:Nat}(hk:k<t.Idxs.length):GF (LB t (t.Idxs.getD k MA) r)=true:=by
  have hg:=(LL h).1
  have hi:nI t (t.Idxs.getD k MA).Name=true:=(IN _ _).2 ⟨hg,by have:=SQ (t:=t) (k:=k) hk;rw[xJ]at this;exact this.1⟩
  have:=(nZ h hi).2.2
  rw[nU (kK.of hg) hk]at this
  exact this
theorem eS{t:VA}{a:MB}(h:DP t a):qI (bG t a)=true∧DM (bG t a):=by
  have key:∀y∈bG t a,Zb y:=by
    unfold bG
    refine yD (fun _ (x:List qE)=>∀y∈x,Zb y) (fun(v:List qE)=>∀y∈v,Zb y) ?_ (fun s hs=>hs) ?_
    · intro y hy
      unfold GG at hy
      by_cases k1:a.Kind=1
      · rw[decide_eq_true k1,cond_true]at hy
        obtain⟨hk,hv⟩:=DU (h.new oM)
        rw[QL]at hk hv
        rcases List.mem_cons.1 hy with rfl | hy
        · exact⟨Vc hk,.inr (.inr (.inl rfl))⟩
        · rw[List.mem_singleton.1 hy];exact⟨vX hk hv,.inl rfl⟩
      · rw[decide_eq_false k1,cond_false]at hy
        obtain⟨hk,hv⟩:=DU (h.old k1)
        rw[QL]at hk hv
        by_cases k2:a.Kind=2
        · rw[decide_eq_true k2,cond_true]at hy
          rcases List.mem_cons.1 hy with rfl | hy
          · exact⟨Qd hk hv,.inr (.inr (.inr rfl))⟩
          · rw[List.mem_singleton.1 hy];exact⟨qY hk,.inr (.inl rfl)⟩
        · rw[decide_eq_false k2,cond_false]at hy
          obtain⟨hk3,hv3⟩:=DU (h.new k2)
          rw[QL]at hk3 hv3
          rcases List.mem_cons.1 hy with rfl | hy
          · exact⟨Qd hk hv,.inr (.inr (.inr rfl))⟩
          · rw[List.mem_singleton.1 hy];exact⟨vX hk hv3,.inl rfl⟩
    · intro j x _ hj hx
      show ∀y∈x++tD t (t.Idxs.getD j MA) a,Zb y
      intro y hy
      rcases List.mem_append.1 hy with hy | hy
      · exact hx y hy
      · rcases Lc hy with⟨k1,rfl⟩ | ⟨k2,rfl⟩
        · exact⟨qY (lT (h.old k1) oM),.inr (.inl rfl)⟩
        · exact⟨vX (lT (h.new k2) oM) Cd,.inl rfl⟩
  have hl:=nX t a
  have h3:=(kK.of h.tbl).idxs
  exact⟨ZZ _ (List.all_eq_true.2 fun y hy=>(key y hy).1) oM,fun y hy=>(key y hy).2⟩
theorem OP{t:VA}{a:MB}(h:zL t a=true):∀y∈bG t a,y.Kind≠4:=fun y hy=>by
  have:=(eS (DP.of (MK t a▸h))).2 y hy
  omega
theorem XR{t:VA}{a:MB}(h:zL t a=true):(bG t a).length≤100:=by
  have:=(uP (eS (DP.of (MK t a▸h))).1).2
  omega
theorem vU{t:VA}{a:MB}(h:hJ t a=true):∀y∈ZD t a,y.Kind≠4:=by
  have ha:=DP.of h
  rw[MO ha.tbl ha.act]
  exact OP (MK t a▸h)
theorem oX{t:VA}{a:MB}(h:hJ t a=true):(ZD t a).length≤100:=by
  have ha:=DP.of h
  rw[MO ha.tbl ha.act]
  exact XR (MK t a▸h)
theorem Uc{l:List qE}(h:qI l=true):gG aL l:=by
  obtain⟨h1,h2⟩:=uP h
  refine CB oM fun y hy=>?_
  have hg:=h1 y hy
  unfold WE at hg
  obtain⟨g1,g2⟩:=rD hg
  have hk:=vT g1
  have hv:y.Val.length≤24:=by
    have e0:∀{c:Bool},(bif y.Val==([]:vA)then c else false)=true→y.Val.length≤24:=fun h=>by rw[eq_of_beq (rD h).1];exact Nat.zero_le _
    revert g2
    cases decide (y.Kind=2)
    · cases decide (y.Kind=7)
      · cases decide (y.Kind=4)
        · cases decide (y.Kind=5)
          · cases decide (y.Kind=1)
            · cases decide (y.Kind=3)
              · intro g2;first | exact e0 g2 | exact e0 (rD g2).2 | exact e0 (rD g2).1 | (revert g2;cases decide (y.Kind=6)<;>intro g2<;>first | exact e0 g2 | cases g2)
              · exact e0
            · exact e0
          · exact e0
        · exact e0
      · exact fun g2=>pQ (rD g2).1
    · exact fun g2=>pQ (rD g2).1
  exact⟨by show _≤_;omega,by show _≤_;omega⟩
theorem gZ{t:VA}{a:MB}(h:hJ t a=true):gG aL (ZD t a):=by
  have ha:=DP.of h
  rw[MO ha.tbl ha.act]
  exact Uc (eS ha).1
theorem Lb(s:List pA)(o:List (List qE)):(UC s o).1.length≤s.length∨(UC s o).1.length≤24:=by
  unfold UC
  cases fD s
  · exact .inr (Nat.zero_le _)
  · cases decide (20<(o.length:Int))
    · refine yD (fun _ (_:Unit)=>True) (fun(v:List pA×List Bool×Bool)=>v.1.length≤s.length∨v.1.length≤24) trivial (fun _ _=>?_) (fun j _ _ _ _=>?_)
      · refine yD (fun _ (x:List pA×List Bool)=>x.1.length≤s.length∨x.1.length≤24) (fun(v:List pA×List Bool×Bool)=>v.1.length≤s.length∨v.1.length≤24) (.inl (Nat.le_refl _)) (fun _ h=>h) (fun j x _ _ h=>?_)
        obtain⟨x,y⟩:=x
        unfold UE
        dsimp only
        cases (bD x (o.getD j rI)).2.2
        · exact h
        · cases hr:fD (SC x (bD x (o.getD j rI)).2.1)
          · exact h
          · exact .inr (LN hr)
      · unfold gF
        cases qI (o.getD j rI)
        · exact .inr (Nat.zero_le _)
        · trivial
    · exact .inr (Nat.zero_le _)
theorem aZ(s:List pA)(o:List qE):(SH s o).1.length≤s.length∨(SH s o).1.length≤24:=by
  have h:=Lb s [o]
  unfold SH
  cases decide ((((UC s [o]).2.1).length:Int)=1)<;>exact h
theorem iU{t:VA}{s:vA}(hg:FB t=true)(h:(XB t s).2=true):QG t (XB t s).1=true:=by
  rw[zY]at h ⊢
  cases hq:nD t (aB (PA s 32))
  · rw[hq]at h;cases h
  · show(bif FB t then nD t _ else false)=true
    rw[hg];exact hq
theorem Ic{t:VA}{s:vA}(hg:FB t=true)(h:(FA t s).2=true):CI t (FA t s).1=true:=by
  rw[IT]at h ⊢
  cases hq:(XB t s).2
  · rw[hq]at h;cases h
  · rw[lJ];exact iU hg hq
theorem FM{t:VA}{s:iD}(h:QG t s=true)(hk:s.Kind=1):zL t s.Act=true:=by
  have hg:=tL h
  have h':nD t s=true:=by unfold QG at h;rw[hg]at h;exact h
  unfold nD at h';rw[decide_eq_true hk]at h'
  cases hq:EF t s.Act
  · rw[hq]at h';cases h'
  · show(bif FB t then EF t s.Act else false)=true
    rw[hg];exact hq
theorem nM{t:VA}{s:iD}(h:CI t s=true)(hk:s.Kind=1):hJ t s.Act=true:=by
  rw[MK];exact FM (lJ t s▸h) hk
theorem gR{t:VA}{s:iD}{l:List pA}(h:QG t s=true)(hr:fD l=true):(HD t l s).1.length≤24:=
  Nat.le_trans (kV h (tI l▸hr)).1 (CO hr)
theorem fY{t:VA}{s:iD}{l:List pA}(h:QG t s=true)(hr:fD l=true){k:Nat}(hk:k<(HD t l s).1.length):((HD t l s).1.getD k XC).Vals.length≤4∧KF ((HD t l s).1.getD k XC):=by
  have h2:=(kV h (tI l▸hr)).2 _ (HG (d:=XC) hk)
  obtain⟨h3,h4⟩:=qJ ((tN t l).2 _ h2)
  have:=(kK.of (tL h)).cols
  exact⟨by omega,h4⟩
theorem wR{t:VA}{s:iD}{l:List pA}(h:CI t s=true)(hr:IF l=true):(IB t l s).1.length≤24:=by
  rw[ZN (lJ t s▸h) hr];exact gR (lJ t s▸h) (tI l▸hr)
theorem RZ{t:VA}{s:iD}{l:List pA}(h:CI t s=true)(hr:IF l=true){k:Nat}(hk:k<(IB t l s).1.length):((IB t l s).1.getD k XC).Vals.length≤4∧KF ((IB t l s).1.getD k XC):=by
  rw[ZN (lJ t s▸h) hr]at hk ⊢;exact fY (lJ t s▸h) (tI l▸hr) hk
theorem Ta{r:nB}(h:r.Vals.length≤4∧KF r):PE (eE r):=by
  have:=(PL h.1 h.2).1;unfold PE;omega
def CK(l:List vA):Prop:=∀y∈l,y.length≤16
theorem CK.nil:CK []:=fun _ h=>by cases h
theorem CK.app{l:List vA}{x:vA}(h:CK l)(hx:x.length≤16):CK (l++[x]):=fun y hy=>by
  rcases List.mem_append.1 hy with hy | hy
  · exact h y hy
  · rw[List.mem_singleton.1 hy];exact hx
theorem CK.s{l:List vA}{r:nB}(h:CK l)(hr:r.Vals.length≤4∧KF r):CK (l++[eE r]):=h.app (PL hr.1 hr.2).1
theorem CK.i{l:List vA}{r:nB}(h:CK l)(hr:r.Vals.length≤4∧KF r):CK (l++[BD r]):=h.app (PL hr.1 hr.2).2
theorem jY(sep:vA)(hs:sep.length=1):∀xs:List vA,CK xs→(sep.intercalate xs).length≤17*xs.length
  | [],_=>Nat.zero_le _
  | [x],h=>by have:=h x (by simp);rw[kM,List.length_singleton];omega
  | x::y::zs,h=>by
    have h1:=h x (by simp)
    have h2:=jY sep hs (y::zs) fun z hz=>h z (List.mem_cons_of_mem _ hz)
    rw[nK,List.length_append,List.length_append,List.length_cons (as:=y::zs)]
    simp only[List.length_cons]at h2 ⊢
    omega
theorem Ia{xs:List vA}(h:CK xs)(hl:xs.length≤24):(xD xs ([32]:vA)).length≤1073741824:=by
  have:=jY ([32]:vA) rfl xs h
  unfold xD;omega
theorem fZ{xs:List vA}(h:CK xs)(hl:xs.length≤24):PE (SI xs ([32]:vA)):=by
  rw[yN];exact Ia h hl
theorem Pd{xs:List vA}(h:CK xs)(hl:xs.length≤24):gG PE xs:=⟨by omega,fun y hy=>by have:=h y hy;unfold PE;omega⟩
theorem uY{t:VA}{a:MB}{l:List pA}(h:zL t a=true)(hr:fD l=true):eH l (ZD t a)=SH l (bG t a)∧fD (SH l (bG t a)).1=true:=by
  have ha:=DP.of (MK t a▸h)
  rw[MO ha.tbl ha.act]
  exact oZ hr (eS ha).1 (eS ha).2
theorem WK{t:VA}{l:List pA}{s:vA}(hg:FB t=true)(hr:fD l=true):fD (CD t l s).1=true:=by
  unfold CD
  cases h:(XB t s).2
  · exact hr
  · have hs:=iU hg h
    simp only[cond_true]
    cases hk:decide ((XB t s).1.Kind=1)
    · simp only[cond_false]
      cases (HD t l (XB t s).1).2
      · exact hr
      · simp only[cond_true]
        cases decide ((((HD t l ((XB t s).1)).1).length:Int)=0)
        · simp only[cond_false]
          exact yD (fun _ _=>True) (fun(v:List pA×vA)=>fD v.1=true) trivial (fun _ _=>hr) fun _ _ _ _ _=>trivial
        · exact hr
    · have h2:=(uY (FM hs (of_decide_eq_true hk)) hr).2
      simp only[cond_true]
      cases (SH l (bG t (XB t s).1.Act)).2
      · exact h2
      · exact h2
theorem kT{t:VA}{l:List pA}{s:vA}(hg:FB t=true)(hr:fD l=true):LC t l s=CD t l s:=by
  have hq:=IT t s
  cases h:(XB t s).2
  · rw[h]at hq
    have hq':FA t s=(yO,false):=hq
    unfold LC CD
    rw[hq',h];rfl
  · rw[h]at hq
    have hq':FA t s=((XB t s).1,true):=hq
    have hs:=iU hg h
    have ha:=ZN hs (tI l▸hr)
    have hB:qG t l s=MH t l s:=by
      funext k x
      unfold qG MH
      rw[hq',ha,AP]
    unfold LC CD
    rw[hB,hq',h]
    simp only[cond_true]
    cases hk:decide ((XB t s).1.Kind=1)
    · simp only[cond_false]
      rw[ha]
      simp only[yN]
    · simp only[cond_true]
      rw[(uY (FM hs (of_decide_eq_true hk)) hr).1]
theorem mO{t:VA}{l:List pA}{s:vA}(hg:FB t=true)(hr:IF l=true):IF (LC t l s).1=true:=by
  rw[←tI]at hr ⊢
  rw[kT hg hr];exact WK hg hr
theorem MW(t:VA)(l:List pA)(s:vA)(hg:FB t=true)(hr:fD l=true):(CD t l s).1.length≤24:=CO (WK hg hr)
theorem eX(t:VA)(l:List pA)(s:vA)(hg:FB t=true)(hr:IF l=true):(LC t l s).1.length≤24:=wP (mO hg hr)
theorem qR(t:VA)(l:List pA)(x:List vA):iC t l x=FE t l x:=by
  unfold iC FE
  rw[mF,←tI]
  cases hg:FB t
  · rfl
  · cases hr:fD l
    · rfl
    · have hb:UA (NI t l x) (x.length-0) 0 (YC l,([]:List vA))=UA (cI t l x) (x.length-0) 0 (([]:List pA)++l,([]:List vA)):=by
        refine MN (fun _ s=>fD s.1=true) _ _ _ hr ?_
        rintro j ⟨a,b⟩ _ _ hI
        have he:=kT (s:=x.getD j wA) hg hI
        refine⟨?_,?_⟩
        · unfold NI cI
          dsimp only
          rw[he]
        · intro s' hs'
          have hs2:YH.cont ((LC t a (x.getD j wA)).1,b++([(LC t a (x.getD j wA)).2]:List vA))=(YH.cont s':YH ((List pA)×(List vA)×Bool) _):=hs'
          cases hs2
          show fD (LC t a (x.getD j wA)).1=true
          rw[he];exact WK hg hI
      simp only[cond_true]
      rw[hb]
theorem VU(t:VA)(l:List pA)(x:List vA):(iC t l x).1.length≤24∧(iC t l x).2.1.length≤12:=by
  rw[qR]
  unfold FE
  cases hg:FB t
  · exact⟨Nat.zero_le _,Nat.zero_le _⟩
  · cases hr:fD l
    · exact⟨Nat.zero_le _,Nat.zero_le _⟩
    · cases hl:decide (12<(x.length:Int))
      · have hx:=of_decide_eq_false hl
        simp only[cond_true,cond_false]
        refine yD (fun j (s:List pA×List vA)=>fD s.1=true∧s.2.length=j) (fun(v:List pA×List vA×Bool)=>v.1.length≤24∧v.2.1.length≤12) ⟨hr,rfl⟩ (fun s h=>⟨CO h.1,by have:=h.2;show s.2.length≤12;omega⟩) ?_
        rintro j ⟨a,b⟩ _ _ hI
        unfold cI
        dsimp only
        exact⟨WK hg hI.1,by rw[List.length_append,hI.2];rfl⟩
      · exact⟨Nat.zero_le _,Nat.zero_le _⟩
theorem KU(t:VA)(l:List pA)(x:List vA)(hw:FO t)(hw2:(RU uN) l)(hw3:(RU cQ) x):IC t l x=true:=by
  unfold IC
  cases h1:decide (vF t 1048576<0)
  case true=>rfl
  cases h2:decide (xG l (vF t 1048576)<0)
  case true=>rfl
  cases h3:decide (eF x (xG l (vF t 1048576))<0)
  case true=>rfl
  have hl:=BW hw (of_decide_eq_false h1)
  have hz:=lF hw (by decide) (of_decide_eq_false h1)
  have hz2:=zG hw2 hz.2 (of_decide_eq_false h2)
  have ho:l.length≤2147483648:=hz2.1.1
  have hx:x.length≤2147483648:=(MI hw3 hz2.2 (of_decide_eq_false h3)).1.1
  obtain⟨hc,hc2⟩:=VU t l x
  obtain⟨_,m1⟩:=Ra t 1 (by decide) oM
  obtain⟨_,m2,_⟩:=CT l (YE t 1).1 oM oM
  obtain⟨_,m3,_⟩:=yP x (CC l (YE t 1).1).1 oM oM
  obtain⟨m4,m5,_⟩:=CT (iC t l x).1 1 (by decide) oM
  obtain⟨m6,m7,_⟩:=yP (iC t l x).2.1 (CC (iC t l x).1 1).1 oM oM
  simp only[cond_false,←qR,WZ,PY,JR,beq_self_eq_true,cond_true,m4,m6]
  rw[m3,decide_eq_false oM,cond_false,m7,m5,decide_eq_false oM,cond_false,decide_eq_false oM,cond_false,decide_true];rfl

end Go.Proofs.YtoimdjojffkefaaGreatDoor
