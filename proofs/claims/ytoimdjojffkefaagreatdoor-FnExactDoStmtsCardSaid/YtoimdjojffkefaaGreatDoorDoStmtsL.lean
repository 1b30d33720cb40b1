/- Do Stmts: plain laws of the models. -/
import Derived.Test.YtoimdjojffkefaaGreatDoorDoStmtsT
set_option linter.unusedVariables false
set_option linter.unusedSimpArgs false
namespace Go.Proofs.YtoimdjojffkefaaGreatDoor
open Go.RowKit Go.X
theorem Hb{x:AF}{L:Int}(hw:xS x)(hL:0≤L∧L≤1048576)(h:¬aK x L<0):AL x∧0≤aK x L∧aK x L≤1048576:=by
 unfold aK at h ⊢
 obtain⟨a0,e0,h⟩:=Ue h
 rw[e0]
 have s0:=rS hw.1 hL a0
 exact⟨s0.1,s0.2⟩
theorem Ve(x:AF):nY x=x:=rfl
theorem Fe(x:AF):FJ x x=true:=by unfold FJ;simp only[beq_self_eq_true,cond_true,decide_true]
theorem FW(x:List vA)(L:Int):fF x L=BZ (fun s L=>IntKind.wrap .i64 (L-(s.length:Int))) wA x L:=by
 unfold fF BZ Wd
 have:CG x L=fun k y=>bif decide (IntKind.wrap .i64 (y-((x.getD k wA).length:Int))<0)then .ret (-1)else .cont (IntKind.wrap .i64 (y-((x.getD k wA).length:Int))):=by
  funext k y;rfl
 rw[this]
theorem OI{x:List vA}{L:Int}(hw:(TU eQ) x)(hL:0≤L∧L≤1048576)(h:¬fF x L<0):(jG QE) x∧0≤fF x L∧fF x L≤1048576:=by
 rw[FW]at h ⊢
 exact LU wA rS hw hL h
theorem UX(x:List vA):QQ x=x:=TX wA (f:=fun s=>s) (fun _=>rfl) x
theorem LR(x:List vA):VG x x=true:=KR wA (f:=fun a b=>a==b) (fun _=>beq_self_eq_true _) x
theorem CZ{x:List AF}{L:Int}(hw:(TU xS) x)(hL:0≤L∧L≤1048576)(h:¬MJ x L<0):(jG AL) x∧0≤MJ x L∧MJ x L≤1048576:=LU MA (f:=aK) Hb hw hL h
theorem Dd(x:List AF):jW x=x:=TX MA (f:=fun s=>s) (fun _=>rfl) x
theorem Jc(x:List AF):JK x x=true:=KR MA (f:=FJ) Fe x
theorem nF{x:VA}{L:Int}(hw:HO x)(hL:0≤L∧L≤1048576)(h:¬xF x L<0):YD x∧0≤xF x L∧xF x L≤1048576:=by
 unfold xF at h ⊢
 obtain⟨a0,e0,h⟩:=Ue h
 rw[e0]
 have s0:=rS hw.1 hL a0
 obtain⟨a1,e1,h⟩:=Ue h
 rw[e1]
 have s1:=OI hw.2.1 s0.2 a1
 obtain⟨a2,e2,h⟩:=Ue h
 rw[e2]
 have s2:=CZ hw.2.2 s1.2 a2
 exact⟨⟨s0.1,s1.1,s2.1⟩,s2.2⟩
theorem Kb(x:VA):yT x=x:=rfl
theorem YZ(x:VA):bI x x=true:=by unfold bI;simp only[LR,Jc,beq_self_eq_true,cond_true,decide_true]
theorem SX{x:pA}{L:Int}(hw:xN x)(hL:0≤L∧L≤1048576)(h:¬wH x L<0):nC x∧0≤wH x L∧wH x L≤1048576:=by
 unfold wH at h ⊢
 obtain⟨a0,e0,h⟩:=Ue h
 rw[e0]
 have s0:=rS hw.1 hL a0
 obtain⟨a1,e1,h⟩:=Ue h
 rw[e1]
 have s1:=rS hw.2 s0.2 a1
 exact⟨⟨s0.1,s1.1⟩,s1.2⟩
theorem Lb(x:pA):zT x=x:=rfl
theorem ZZ(x:pA):NH x x=true:=by unfold NH;simp only[beq_self_eq_true,cond_true,decide_true]
theorem BG{x:List pA}{L:Int}(hw:(TU xN) x)(hL:0≤L∧L≤1048576)(h:¬zG x L<0):(jG nC) x∧0≤zG x L∧zG x L≤1048576:=LU zA (f:=wH) SX hw hL h
theorem DZ(x:List pA):XR x=x:=TX zA (f:=fun s=>s) (fun _=>rfl) x
theorem SY(x:List pA):GI x x=true:=KR zA (f:=NH) ZZ x
def zL(_:vA)(k:Int):Int×vA:=(IntKind.wrap .i64 (k+1),BC k)
theorem dS(x:vA)(k:Int)(h0:0≤k)(h1:k+((1:Nat):Int)≤4611686018427387904):(zL x k).1=k+((1:Nat):Int):=by
 unfold zL
 simp only[IntKind.wrap_i64];omega
theorem PN(a:List vA)(k:Int):lD a k=bS zL a k:=by
 unfold lD
 exact Sa (d:=wA) (mk:=zL) (fun i k xs hi=>by unfold DH;simp only[List.set_set,fH hi,zL]) a k
theorem mU(a:List vA)(k:Int)(h0:0≤k)(h1:k+(pQ (fun _=>1) a:Int)≤4611686018427387904):eF (lD a k).2 k=(lD a k).1:=by
 rw[PN]
 unfold eF
 exact Ea (d:=wA) (mk:=zL) (c:=fun _=>1) a k dS (fun i k x hx _ _=>by unfold yF;simp only[hx,zL,eq_self,decide_true,beq_self_eq_true,cond_true]) h0 h1
theorem AP(a:List vA)(k:Int)(h0:0≤k)(h1:k+(((1:Nat)*a.length:Nat):Int)≤4611686018427387904):eF (lD a k).2 k=(lD a k).1∧(lD a k).1=k+(((1:Nat)*a.length:Nat):Int)∧(lD a k).2.length=a.length:=by
 rw[←GN]at h1 ⊢
 refine⟨mU a k h0 h1,?_,?_⟩
 ·rw[PN];exact lR dS a k h0 h1
 ·rw[PN];exact CM _ _ _
theorem lL(a:List vA)(k:Int)(h:k≤9223372036854775807):(lD a k).1≤9223372036854775807:=by
 unfold lD
 refine yD (fun _ (s:Int×List vA)=>s.1≤9223372036854775807) (fun(v:Int×List vA)=>v.1≤9223372036854775807) h (fun s hs=>hs) ?_
 rintro j ⟨k,x⟩ _ _ hk
 exact XP _
theorem CO(a:List vA)(k:Int)(h:k≤9223372036854775807):eF a k≤9223372036854775807:=by
 unfold eF
 refine yD (fun _ (s:Int)=>s≤9223372036854775807) (fun v=>v≤9223372036854775807) h (fun s hs=>hs) ?_
 intro j k' _ _ hk
 unfold yF
 dsimp only
 cases ((a.getD j wA)==BC k')<;>first | exact XP _ | exact rY
def DM(_:pA)(k:Int):Int×pA:=(IntKind.wrap .i64 ((IntKind.wrap .i64 ((IntKind.wrap .i64 (k+1))+1))+1),⟨BC k,BC (IntKind.wrap .i64 (k+1)),decide (Int.tmod (IntKind.wrap .i64 ((IntKind.wrap .i64 (k+1))+1)) 3=0)⟩)
theorem FT(x:pA)(k:Int)(h0:0≤k)(h1:k+((3:Nat):Int)≤4611686018427387904):(DM x k).1=k+((3:Nat):Int):=by
 unfold DM
 simp only[IntKind.wrap_i64];omega
theorem zO(a:List pA)(k:Int):CC a k=bS DM a k:=by
 unfold CC
 exact Sa (d:=zA) (mk:=DM) (fun i k xs hi=>by unfold ZH;simp only[List.set_set,fH hi,DM]) a k
theorem ZV(a:List pA)(k:Int)(h0:0≤k)(h1:k+(pQ (fun _=>3) a:Int)≤4611686018427387904):oE (CC a k).2 k=(CC a k).1:=by
 rw[zO]
 unfold oE
 exact Ea (d:=zA) (mk:=DM) (c:=fun _=>3) a k FT (fun i k x hx _ _=>by unfold kE;simp only[hx,DM,eq_self,decide_true,beq_self_eq_true,cond_true]) h0 h1
theorem ET(a:List pA)(k:Int)(h0:0≤k)(h1:k+(((3:Nat)*a.length:Nat):Int)≤4611686018427387904):oE (CC a k).2 k=(CC a k).1∧(CC a k).1=k+(((3:Nat)*a.length:Nat):Int)∧(CC a k).2.length=a.length:=by
 rw[←GN]at h1 ⊢
 refine⟨ZV a k h0 h1,?_,?_⟩
 ·rw[zO];exact lR FT a k h0 h1
 ·rw[zO];exact CM _ _ _
theorem gP(a:List pA)(k:Int)(h:k≤9223372036854775807):(CC a k).1≤9223372036854775807:=by
 unfold CC
 refine yD (fun _ (s:Int×List pA)=>s.1≤9223372036854775807) (fun(v:Int×List pA)=>v.1≤9223372036854775807) h (fun s hs=>hs) ?_
 rintro j ⟨k,x⟩ _ _ hk
 exact XP _
theorem fP(a:List pA)(k:Int)(h:k≤9223372036854775807):oE a k≤9223372036854775807:=by
 unfold oE
 refine yD (fun _ (s:Int)=>s≤9223372036854775807) (fun v=>v≤9223372036854775807) h (fun s hs=>hs) ?_
 intro j k' _ _ hk
 unfold kE
 dsimp only
 cases (((a.getD j zA).Key)==BC k')<;>cases (((a.getD j zA).Val)==BC (IntKind.wrap .i64 (k'+1)))<;>cases (((a.getD j zA).Gone)==decide (Int.tmod (IntKind.wrap .i64 ((IntKind.wrap .i64 (k'+1))+1)) 3=0))<;>first | exact XP _ | exact rY
theorem zS(xs:List AF)(f:AF→Bool):XF xs f=aW f MA xs:=rfl
theorem YO(xs:List nB)(f:nB→Bool):TD xs f=aW f XC xs:=rfl
theorem rM(xs:List pA)(f:pA→Bool):FF xs f=xs.any f:=NP f zA xs
theorem VO(xs:List vA)(f:vA→Bool):bG xs f=xs.any f:=NP f wA xs
theorem aR(xs:List vA)(y:vA):gG xs y=xs.any (fun x=>y==x):=NP _ wA xs
def BP(_:AF)(k:Int):Int×AF:=(IntKind.wrap .i64 ((IntKind.wrap .i64 ((IntKind.wrap .i64 (k+1))+1))+1),⟨BC k,IntKind.wrap .i64 (k+1),IntKind.wrap .i64 ((IntKind.wrap .i64 (k+1))+1)⟩)
theorem qY(x:AF)(k:Int)(h0:0≤k)(h1:k+((3:Nat):Int)≤4611686018427387904):(BP x k).1=k+((3:Nat):Int):=by
 unfold BP
 simp only[IntKind.wrap_i64];omega
theorem sQ(a:List AF)(k:Int):QG a k=bS BP a k:=by
 unfold QG
 exact Sa (d:=MA) (mk:=BP) (fun i k xs hi=>by unfold WI;simp only[List.set_set,fH hi,BP]) a k
theorem XY(a:List AF)(k:Int)(h0:0≤k)(h1:k+(pQ (fun _=>3) a:Int)≤4611686018427387904):BM (QG a k).2 k=(QG a k).1:=by
 rw[sQ]
 unfold BM
 exact Ea (d:=MA) (mk:=BP) (c:=fun _=>3) a k qY (fun i k x hx _ _=>by unfold XN;simp only[hx,BP,eq_self,decide_true,beq_self_eq_true,cond_true]) h0 h1
theorem Tc(a:List AF)(k:Int)(h0:0≤k)(h1:k+(((3:Nat)*a.length:Nat):Int)≤4611686018427387904):BM (QG a k).2 k=(QG a k).1∧(QG a k).1=k+(((3:Nat)*a.length:Nat):Int)∧(QG a k).2.length=a.length:=by
 rw[←GN]at h1 ⊢
 refine⟨XY a k h0 h1,?_,?_⟩
 ·rw[sQ];exact lR qY a k h0 h1
 ·rw[sQ];exact CM _ _ _
theorem VQ(a:List AF)(k:Int)(h:k≤9223372036854775807):(QG a k).1≤9223372036854775807:=by
 unfold QG
 refine yD (fun _ (s:Int×List AF)=>s.1≤9223372036854775807) (fun(v:Int×List AF)=>v.1≤9223372036854775807) h (fun s hs=>hs) ?_
 rintro j ⟨k,x⟩ _ _ hk
 exact XP _
theorem Ta(a:VA)(k:Int)(h0:0≤k)(h1:k+((1*a.Cols.length+3*a.Idxs.length:Nat):Int)≤4611686018427387904):xO (ZE a k).2 k=(ZE a k).1∧(ZE a k).1=k+((1*a.Cols.length+3*a.Idxs.length:Nat):Int):=by
 obtain⟨e0,n0,_⟩:=AP a.Cols k oM oM
 obtain⟨e1,n1,_⟩:=Tc a.Idxs (k+((1*a.Cols.length:Nat):Int)) oM oM
 have q1:xO (ZE a k).2 k=(k+((1*a.Cols.length:Nat):Int))+((3*a.Idxs.length:Nat):Int):=by unfold xO ZE;simp only[e0,n0,e1,n1,decide_eq_false (show ¬k+((1*a.Cols.length:Nat):Int)<0 by omega),decide_eq_false (show ¬(k+((1*a.Cols.length:Nat):Int))+((3*a.Idxs.length:Nat):Int)<0 by omega),cond_false]
 have q2:(ZE a k).1=(k+((1*a.Cols.length:Nat):Int))+((3*a.Idxs.length:Nat):Int):=by unfold ZE;simp only[n0,n1]
 exact⟨q1.trans q2.symm,q2.trans oM⟩
theorem EU(a:VA)(k:Int)(h:k≤9223372036854775807):(ZE a k).1≤9223372036854775807:=by
 unfold ZE
 exact(VQ _ _ (lL _ _ h))
theorem TO:aE=xE:=rfl
theorem xM{n lo hi:Int}(h:xE n lo hi=true):lo≤n∧n≤hi:=by
 unfold xE at h
 obtain⟨h1,h2⟩:=rD h
 exact⟨of_decide_eq_true h1,of_decide_eq_true h2⟩
theorem qN{n lo hi:Int}(h:aE n lo hi=true):lo≤n∧n≤hi:=xM h
theorem QS(l:List UInt8)(c:UInt8):decide (Lib.indexByte l c<0)=!(l.contains c):=by
 induction l with
 | nil=>rfl
 | cons b l ih=>
  have hge:=Lib.indexByte_ge l c
  rw[Bool.eq_iff_iff]at ih ⊢
  simp only[decide_eq_true_eq,Bool.not_eq_true',List.contains_cons]at ih ⊢
  unfold Lib.indexByte
  by_cases hb:b=c
  ·subst hb;simp
  ·have hb1:(b==c)=false:=by simpa using hb
   have hb2:(c==b)=false:=by simpa using fun h=>hb h.symm
   rw[hb1,hb2]
   simp only[Bool.false_or,Bool.false_eq_true,if_false]
   split
   ·rename_i h
    have:Lib.indexByte l c=-1:=by simpa using h
    rw[←ih];omega
   ·rename_i h
    have:Lib.indexByte l c≠-1:=by simpa using h
    constructor
    ·intro h;omega
    ·intro h;have:=ih.2 h;omega
theorem byte_back(b:UInt8):((b.toNat:Int)).toNat.toUInt8=b:=by simp
theorem Ga(s:vA)(b:UInt8):decide (YY s (b.toNat:Int)<0)=!(s.contains b):=by
 unfold YY
 rw[byte_back,QS]
def fL(more:vA)(b:UInt8):Bool:=lE (b.toNat:Int)||more.contains b
theorem tO(s more:vA):AJ s more=s.all (fL more):=by
 unfold AJ
 rw[NW (0:UInt8) (fL more) (r:=false) fun k=>by
  unfold aG fL MH wE
  rw[Ga]
  cases lE ((s.getD k 0).toNat:Int)<;>cases more.contains (s.getD k 0)<;>rfl]
 cases s.all (fL more)<;>rfl
theorem IW(a b:UInt8):decide ((a.toNat:Int)=(b.toNat:Int))=(a==b):=by
 rw[Bool.eq_iff_iff,decide_eq_true_iff,beq_iff_eq]
 constructor
 ·intro h;exact UInt8.toNat.inj oM
 ·intro h;rw[h]
theorem Xf{T:Type}(s more:vA)(k:Nat)(x0:Bool)(fr:Bool→T)(fd:Bool→T):ED (UA (AC s more k) (more.length-0) 0 x0) fr fd=fd (x0||more.contains (s.getD k 0)):=by
 rw[Og (0:UInt8) (fun b=>(s.getD k 0)==b) fun j x=>by
  unfold AC
  rw[IW]
  cases x<;>rfl]
 rw[List.contains_eq_any_beq]
theorem TK(s more:vA):aH s more=s.all (fL more):=by
 unfold aH
 rw[NW (0:UInt8) (fL more) (r:=false) fun k=>by
  unfold pD fL lE
  simp only[Xf]
  cases decide (97≤((s.getD k 0).toNat:Int))<;>cases decide (((s.getD k 0).toNat:Int)≤122)<;>cases decide (48≤((s.getD k 0).toNat:Int))<;>cases decide (((s.getD k 0).toNat:Int)≤57)<;>cases more.contains (s.getD k 0)<;>rfl]
 cases s.all (fL more)<;>rfl
theorem KW(s:vA):yK s=IF s:=by
 unfold yK IF
 rw[tO,TK,TO]
theorem MW(s:vA):zK s=kG s:=by
 unfold zK kG
 rw[tO,TK]
theorem NU(l:List pA):rI l=l.map (·.Key):=by
 unfold rI
 rw[Yf (body:=yI l) (xs:=l) zA (fun w=>w.Key) fun k x _=>rfl]
 rfl
def UK(ks:List vA)(k:Nat):Bool:=bif decide (0<(k:Int))then eJ (ks.getD ((IntKind.wrap .i64 ((k:Int)-1)).toNat) wA) (ks.getD k wA)else true
theorem VT(ks:List vA):pI ks=(List.range ks.length).all fun k=>IF (ks.getD k wA)&&UK ks k:=by
 unfold pI
 rw[CT (fun k=>IF (ks.getD k wA)&&UK ks k) (r:=false) fun k _=>by
  unfold UE UK
  rw[KW,oR]
  cases IF (ks.getD k wA)<;>cases decide (0<(k:Int))<;>cases eJ (ks.getD ((IntKind.wrap .i64 ((k:Int)-1)).toNat) wA) (ks.getD k wA)<;>rfl]
 cases (List.range ks.length).all fun k=>IF (ks.getD k wA)&&UK ks k<;>rfl
theorem qK(l:List pA):AG l=(((List.range l.length).all fun k=>HE ((l.getD k zA).Key) ((l.getD k zA).Val) ((l.getD k zA).Gone)&&UK (l.map (·.Key)) k)&&decide ((l.length:Int)≤24)):=by
 have hg:∀k,(l.map (·.Key)).getD k wA=(l.getD k zA).Key:=by
  intro k
  simp only[List.getD_eq_getElem?_getD,List.getElem?_map]
  cases l[k]? <;> rfl
 unfold AG
 rw[CT (fun k=>HE ((l.getD k zA).Key) ((l.getD k zA).Val) ((l.getD k zA).Gone)&&UK (l.map (·.Key)) k) (r:=false) fun k _=>by
  unfold lF UK
  rw[hg,hg]
  cases HE ((l.getD k zA).Key) ((l.getD k zA).Val) ((l.getD k zA).Gone)<;>cases decide (0<(k:Int))<;>cases eJ (l.getD ((IntKind.wrap .i64 ((k:Int)-1)).toNat) zA).Key (l.getD k zA).Key<;>rfl]
 cases ((List.range l.length).all fun k=>HE ((l.getD k zA).Key) ((l.getD k zA).Val) ((l.getD k zA).Gone)&&UK (l.map (·.Key)) k)<;>rfl
theorem Fc{α:Type}(l:List α)(p q:α→Bool):(l.all p&&l.all q)=l.all fun x=>p x&&q x:=by
 induction l with
 | nil=>rfl
 | cons x l ih=>
  simp only[List.all_cons,←ih]
  cases p x<;>cases q x<;>cases l.all p<;>rfl
theorem PQ(v:vA)(g:Bool):qH v g=(kG v&&(!g||v==([]:vA))):=by
 unfold qH
 rw[MW]
 cases kG v<;>cases g<;>cases (v==([]:vA))<;>rfl
theorem WR(k v:vA)(g:Bool):HE k v g=(IF k&&qH v g):=by
 rw[PQ]
 unfold HE
 cases IF k<;>cases kG v<;>cases g<;>cases (v==([]:vA))<;>rfl
theorem yS(l:List pA):HH l=AG l:=by
 have hg:∀k,(l.map (·.Key)).getD k wA=(l.getD k zA).Key:=by
  intro k
  simp only[List.getD_eq_getElem?_getD,List.getElem?_map]
  cases l[k]? <;> rfl
 unfold HH
 rw[NU,VT,qK,rM,List.length_map]
 have h1:(!(l.any fun y=>FI y))=(List.range l.length).all fun k=>qH (l.getD k zA).Val (l.getD k zA).Gone:=by
  rw[List.not_any_eq_all_not,←JT zA]
  unfold FI
  simp only[Bool.not_not]
 rw[h1]
 have h2:((List.range l.length).all fun k=>HE ((l.getD k zA).Key) ((l.getD k zA).Val) ((l.getD k zA).Gone)&&UK (l.map (·.Key)) k)=(((List.range l.length).all fun k=>IF ((l.map (·.Key)).getD k wA)&&UK (l.map (·.Key)) k)&&(List.range l.length).all fun k=>qH (l.getD k zA).Val (l.getD k zA).Gone):=by
  rw[Fc]
  congr 1;funext k
  rw[WR,hg]
  cases IF (l.getD k zA).Key<;>cases qH (l.getD k zA).Val (l.getD k zA).Gone<;>cases UK (l.map (·.Key)) k<;>rfl
 rw[h2]
 cases decide ((l.length:Int)≤24)<;>cases ((List.range l.length).all fun k=>IF ((l.map (·.Key)).getD k wA)&&UK (l.map (·.Key)) k)<;>cases ((List.range l.length).all fun k=>qH (l.getD k zA).Val (l.getD k zA).Gone)<;>rfl
theorem MO(l:List pA):KF l=(AG l&&l.all fun w=>!w.Gone):=by
 unfold KF
 rw[yS,rM,List.not_any_eq_all_not]
 cases AG l<;>rfl
theorem zP:FD=rC:=by
 funext s m
 unfold FD rC
 rfl
theorem xL(s:vA):uH s=UD s:=by
 unfold uH UD
 rw[tO,TK,TO]
theorem AM(t:VA)(r:nB):sD t r=(r.Vals.all UD&&decide ((r.Vals.length:Int)=(t.Cols.length:Int))):=by
 unfold sD
 rw[NW wA UD (r:=false) fun k=>rfl]
 cases r.Vals.all UD<;>rfl
theorem vO(t:VA)(r:nB):wC t r=sD t r:=by
 rw[AM]
 unfold wC
 rw[VO,List.not_any_eq_all_not]
 unfold SI
 simp only[Bool.not_not,xL]
 cases decide ((r.Vals.length:Int)=(t.Cols.length:Int))<;>cases (r.Vals.all fun x=>UD x)<;>rfl
theorem cZ(l:List vA)(s:vA):decide (0≤jM l s)=l.any fun x=>x==s:=by
 have:jM l s=aW (fun x=>x==s) wA l:=rfl
 rw[this,NP]
def IR(l:List vA)(k:Nat):Bool:=rC (l.getD k wA) 3&&!((l.take k).any fun x=>x==l.getD k wA)
theorem TR(l:List vA):TI l=((List.range l.length).all (IR l)&&xE (l.length:Int) 2 4):=by
 unfold TI
 rw[CT (IR l) (r:=false) fun k _=>by
  unfold fG IR
  rw[cZ]
  cases rC (l.getD k wA) 3<;>cases ((l.take k).any fun x=>x==l.getD k wA)<;>rfl]
 cases (List.range l.length).all (IR l)<;>rfl
theorem oF(t:VA):AD t=FB t:=by
 unfold AD FB
 rw[TR,zP,TO]
 rw[CT (IR t.Cols) (r:=false) fun k _=>by
  unfold uF IR
  rw[aR,zP]
  rw[show((t.Cols.take k).any fun x=>t.Cols.getD k wA==x)=((t.Cols.take k).any fun x=>x==t.Cols.getD k wA)by congr 1;funext x;rw[Bool.beq_comm]]
  cases rC (t.Cols.getD k wA) 3<;>cases ((t.Cols.take k).any fun x=>x==t.Cols.getD k wA)<;>rfl]
 have hb:ID t=DD t:=by
  funext k u
  unfold ID DD HG
  rw[zP,TO,oR]
  cases rC ((t.Idxs.getD k MA).Name) 1<;>cases xE ((t.Idxs.getD k MA).Col) 1 (IntKind.wrap .i64 ((t.Cols.length:Int)-1))<;>cases xE ((t.Idxs.getD k MA).Stage) 0 3<;>cases decide (0<(k:Int))<;>cases eJ ((t.Idxs.getD ((IntKind.wrap .i64 ((k:Int)-1)).toNat) MA).Name) ((t.Idxs.getD k MA).Name)<;>rfl
 rw[hb]
 cases rC t.Name 1<;>cases xE (t.Cols.length:Int) 2 4<;>cases decide (3<(t.Idxs.length:Int))<;>cases (List.range t.Cols.length).all (IR t.Cols)<;>rfl
theorem LW(t:VA)(r:nB):YG t r=PO t r:=by
 unfold YG PO
 rw[oF,vO]
theorem mI{t:VA}(h:FB t=true):2≤(t.Cols.length:Int)∧(t.Cols.length:Int)≤4∧(t.Idxs.length:Int)≤3:=by
 unfold FB at h
 obtain⟨_,h⟩:=rD h
 obtain⟨h1,h⟩:=rD h
 rw[TR,Bool.and_eq_true]at h1
 have h2:=xM h1.2
 refine⟨h2.1,h2.2,?_⟩
 cases h3:decide (3<(t.Idxs.length:Int))
 ·have:=of_decide_eq_false h3;omega
 ·rw[h3]at h;cases h
theorem eP{t:VA}(h:AD t=true):2≤(t.Cols.length:Int)∧(t.Cols.length:Int)≤4∧(t.Idxs.length:Int)≤3:=mI (oF t▸h)
theorem jU{t:VA}{r:nB}(h:sD t r=true):r.Vals.length=t.Cols.length:=by
 rw[AM,Bool.and_eq_true]at h
 have:=of_decide_eq_true h.2
 omega
theorem OQ(t:VA)(a:MB):HC t a=GF t a:=by
 unfold HC GF
 simp only[vO]
 cases decide (a.Kind=1)<;>cases decide (a.Kind=2)<;>cases decide (a.Kind=3)<;>cases sD t a.Old<;>cases decide ((a.New.Vals.length:Int)=0)<;>rfl
theorem OK(t:VA)(a:MB):jJ t a=BL t a:=by
 unfold jJ BL
 rw[oF,OQ]
theorem zJ(t:VA)(s:vA):xC t s=JE t s:=by
 unfold xC
 rw[zS]
 rfl
theorem aZ(a:MB):LJ a=dI a:=by
 unfold LJ dI
 cases decide (a.Kind=0)<;>cases decide ((a.Old.Vals.length:Int)=0)<;>cases decide ((a.New.Vals.length:Int)=0)<;>rfl
theorem vT(t:VA)(s:iD):UB t s=nD t s:=by
 unfold UB nD
 simp only[OQ,aZ,xL,zJ]
theorem nJ(t:VA)(s:iD):EI t s=SG t s:=by
 unfold EI SG
 rw[oF,vT]
theorem eW(t:VA)(n:vA):JE t n=aW (fun y=>EF y n) MA t.Idxs:=rfl
theorem WM(t:VA)(n:vA):(JE t n=-1∧∀x∈t.Idxs,x.Name≠n)∨∃(k:Nat) (_:k<t.Idxs.length),JE t n=(k:Int)∧(t.Idxs.getD k MA).Name=n∧∀j,j<k→(t.Idxs.getD j MA).Name≠n:=by
 rw[eW]
 rcases lM (fun y=>EF y n) MA t.Idxs with⟨h1,h2⟩ | ⟨k,hk,h1,h2,h3⟩
 ·exact .inl ⟨h1,fun x hx e=>by have:=h2 x hx;unfold EF at this;rw[e,beq_self_eq_true]at this;cases this⟩
 ·refine .inr ⟨k,hk,h1,?_,fun j hj e=>?_⟩
  ·rw[yE hk];unfold EF at h2;exact eq_of_beq h2
  ·have:=h3 j hj;rw[yE oM]at e;unfold EF at this;rw[e,beq_self_eq_true]at this;cases this
theorem rK(t:VA)(n:vA):-1≤JE t n∧JE t n<(t.Idxs.length:Int):=by
 rcases WM t n with⟨h,_⟩ | ⟨k,hk,h,_⟩<;>omega
theorem iM(t:VA)(n:vA):-1≤xC t n∧xC t n<(t.Idxs.length:Int):=by rw[zJ];exact rK t n
def RR(t:VA)(k:Nat):Bool:=rC (t.Idxs.getD k MA).Name 1&&xE (t.Idxs.getD k MA).Col 1 (IntKind.wrap .i64 ((t.Cols.length:Int)-1))&&xE (t.Idxs.getD k MA).Stage 0 3&&bif decide (0<(k:Int))then eJ (t.Idxs.getD ((IntKind.wrap .i64 ((k:Int)-1)).toNat) MA).Name (t.Idxs.getD k MA).Name else true
theorem mL(t:VA):FB t=(rC t.Name 1&&TI t.Cols&&decide (t.Idxs.length≤3)&&(List.range t.Idxs.length).all (RR t)):=by
 unfold FB
 rw[CT (RR t) (r:=false) fun k _=>by
  unfold DD RR
  cases rC (t.Idxs.getD k MA).Name 1<;>cases xE (t.Idxs.getD k MA).Col 1 (IntKind.wrap .i64 ((t.Cols.length:Int)-1))<;>cases xE (t.Idxs.getD k MA).Stage 0 3<;>cases decide (0<(k:Int))<;>cases eJ (t.Idxs.getD ((IntKind.wrap .i64 ((k:Int)-1)).toNat) MA).Name (t.Idxs.getD k MA).Name<;>rfl]
 have e:decide (t.Idxs.length≤3)=!decide (3<(t.Idxs.length:Int)):=by
  by_cases h:t.Idxs.length≤3
  ·rw[decide_eq_true h,decide_eq_false oM];rfl
  ·rw[decide_eq_false h,decide_eq_true oM];rfl
 rw[e]
 cases rC t.Name 1<;>cases TI t.Cols<;>cases decide (3<(t.Idxs.length:Int))<;>cases (List.range t.Idxs.length).all (RR t)<;>rfl
def aS(b:UInt8):Bool:=!decide ((b.toNat:Int)<97)&&!decide (122<(b.toNat:Int))
theorem fN(s:vA)(m:Int):rC s m=(s.all aS&&decide (1≤(s.length:Int))&&decide ((s.length:Int)≤m)):=by
 unfold rC
 rw[NW (0:UInt8) aS (r:=false) fun k=>by
  unfold iF aS
  cases decide (((s.getD k 0).toNat:Int)<97)<;>cases decide (122<((s.getD k 0).toNat:Int))<;>rfl]
 cases s.all aS<;>cases decide (1≤(s.length:Int))<;>rfl
theorem PL{s:vA}{m:Int}(h:rC s m=true):1≤(s.length:Int)∧(s.length:Int)≤m:=by
 rw[fN]at h
 simp only[Bool.and_eq_true,decide_eq_true_eq]at h
 exact⟨h.1.2,h.2⟩
structure mK (t:VA):Prop where
 name:t.Name.length=1
 cols:2≤t.Cols.length∧t.Cols.length≤4
 idxs:t.Idxs.length≤3
 idx:∀k,k<t.Idxs.length→(t.Idxs.getD k MA).Name.length=1∧1≤(t.Idxs.getD k MA).Col∧(t.Idxs.getD k MA).Col<(t.Cols.length:Int)∧0≤(t.Idxs.getD k MA).Stage∧(t.Idxs.getD k MA).Stage≤3
 rise:∀k,k+1<t.Idxs.length→(t.Idxs.getD k MA).Name<(t.Idxs.getD (k+1) MA).Name
theorem mK.of{t:VA}(h:FB t=true):mK t:=by
 have hf:=mI h
 rw[mL]at h
 simp only[Bool.and_eq_true,decide_eq_true_eq,List.all_eq_true,List.mem_range]at h
 obtain⟨⟨⟨h1,h2⟩,h3⟩,h4⟩:=h
 have h5:∀k,k<t.Idxs.length→_:=fun k hk=>h4 k hk
 unfold RR at h5
 simp only[Bool.and_eq_true]at h5
 refine⟨by have:=PL h1;omega,oM,h3,fun k hk=>?_,fun k hk=>?_⟩
 ·obtain⟨⟨⟨a,b⟩,c⟩,d⟩:=h5 k hk
  have a:=PL a
  have b:=xM b
  have c:=xM c
  rw[JH oM]at b
  omega
 ·have d:=(h5 (k+1) hk).2
  rw[JH oM,decide_eq_true (show 0<((k+1:Nat):Int)by omega)]at d
  have e:(((k+1:Nat):Int)-1).toNat=k:=by omega
  rw[e]at d
  exact(yY _ _).1 d
theorem RV{t:VA}{n:vA}(h:qI t n=true):(2≤(t.Cols.length:Int)∧(t.Cols.length:Int)≤4∧(t.Idxs.length:Int)≤3)∧(0≤xC t n∧xC t n<(t.Idxs.length:Int))∧1≤(vC t n).Col∧(vC t n).Col<(t.Cols.length:Int):=by
 unfold qI at h
 obtain⟨h1,h2⟩:=rD h
 have h2:=of_decide_eq_true h2
 have h3:=iM t n
 rw[oF]at h1
 have hg:=mK.of h1
 refine⟨mI h1,⟨h2,h3.2⟩,?_⟩
 unfold vC
 have:=hg.idx (xC t n).toNat oM
 omega
theorem jX{t:VA}{n:vA}(h:(EL t n).2=true):(2≤(t.Cols.length:Int)∧(t.Cols.length:Int)≤4∧(t.Idxs.length:Int)≤3)∧(0≤JE t n∧JE t n<(t.Idxs.length:Int))∧1≤(EL t n).1.Col∧(EL t n).1.Col<(t.Cols.length:Int):=by
 unfold EL at h ⊢
 cases h1:FB t
 ·rw[h1]at h;cases h
 ·rw[h1]at h
  simp only[cond_true]at h ⊢
  cases h2:decide (JE t n<0)
  ·simp only[cond_false]
   have h2:=of_decide_eq_false h2
   have h3:=rK t n
   have:=(mK.of h1).idx (JE t n).toNat oM
   exact⟨mI h1,⟨by omega,h3.2⟩,by omega⟩
  ·rw[h2]at h;cases h
theorem tT(t:VA)(n:vA):qI t n=(EL t n).2:=by
 unfold qI EL
 rw[oF,zJ]
 cases FB t
 ·rfl
 ·simp only[cond_true]
  by_cases h:JE t n<0
  ·rw[decide_eq_true h,decide_eq_false (show ¬0≤JE t n by omega)];rfl
  ·rw[decide_eq_false h,decide_eq_true (show 0≤JE t n by omega)];rfl
theorem fQ{t:VA}{n:vA}(h:(EL t n).2=true):(EL t n).1=vC t n∧(vC t n).Name=n:=by
 have hf:=jX h
 unfold EL at h ⊢
 unfold vC
 cases h1:FB t
 ·rw[h1]at h;cases h
 ·simp only[cond_true]
  rw[decide_eq_false (show ¬JE t n<0 by omega),zJ]
  refine⟨rfl,?_⟩
  rcases WM t n with⟨h,_⟩ | ⟨k,hk,h,h',_⟩
  ·omega
  ·rw[h];exact h'
theorem QN(t:VA)(n:vA):(VC t n).length=t.Name.length+n.length+2:=by
 unfold VC
 simp only[lN];omega
def MF(r:nB):Prop:=∀v∈r.Vals,v.length≤3
theorem MF.getD{r:nB}(h:MF r)(k:Nat):(r.Vals.getD k wA).length≤3:=by
 rcases Nat.lt_or_ge k r.Vals.length with hk | hk
 ·exact h _ (JG hk)
 ·rw[List.getD_eq_getElem?_getD,List.getElem?_eq_none hk];exact Nat.zero_le _
theorem vX{t:VA}{n:vA}{r:nB}(h:t.Name.length≤1∧n.length≤1)(hr:MF r){a b:Nat}:QE ((((VC t n)++(r.Vals.getD a wA))++([47]:vA))++(r.Vals.getD b wA)):=by
 have h1:=QN t n
 have h2:=hr.getD a
 have h3:=hr.getD b
 unfold QE
 simp only[lN];omega
theorem yU{t:VA}{x:AF}{r:nB}(h:t.Name.length≤1∧x.Name.length≤1)(hr:MF r){a b:Nat}:QE ((((((t.Name++([46]:vA))++x.Name)++([47]:vA))++(r.Vals.getD a wA))++([47]:vA))++(r.Vals.getD b wA)):=by
 have h2:=hr.getD a
 have h3:=hr.getD b
 unfold QE
 simp only[lN];omega
theorem uL{s:vA}(h:UD s=true):1≤(s.length:Int)∧(s.length:Int)≤3:=by
 unfold UD at h
 exact xM (rD h).1
theorem sJ{t:VA}{r:nB}(h:sD t r=true):r.Vals.length=t.Cols.length∧MF r:=by
 refine⟨jU h,fun v hv=>?_⟩
 rw[AM,Bool.and_eq_true]at h
 have:=uL (List.all_eq_true.1 h.1 v hv)
 omega
theorem wK{t:VA}{r:nB}(h:wC t r=true):r.Vals.length=t.Cols.length∧MF r:=sJ (vO t r▸h)
theorem TV{t:VA}{r:nB}(h:PO t r=true):(r.Vals.length=t.Cols.length∧2≤(t.Cols.length:Int)∧(t.Cols.length:Int)≤4∧(t.Idxs.length:Int)≤3)∧t.Name.length=1∧MF r:=by
 unfold PO at h
 obtain⟨h1,h2⟩:=rD h
 exact⟨⟨(sJ h2).1,mI h1⟩,(mK.of h1).name,(sJ h2).2⟩
theorem MQ{t:VA}{r:nB}(h:YG t r=true):(r.Vals.length=t.Cols.length∧2≤(t.Cols.length:Int)∧(t.Cols.length:Int)≤4∧(t.Idxs.length:Int)≤3)∧t.Name.length=1∧MF r:=TV (LW t r▸h)
theorem MR{t:VA}{n:vA}(h:qI t n=true):(2≤(t.Cols.length:Int)∧(t.Cols.length:Int)≤4∧(t.Idxs.length:Int)≤3)∧(0≤xC t n∧xC t n<(t.Idxs.length:Int))∧1≤(vC t n).Col∧(vC t n).Col<(t.Cols.length:Int)∧0≤(vC t n).Stage∧(vC t n).Stage≤3∧t.Name.length=1∧n.length=1:=by
 have h0:=RV h
 unfold qI at h
 obtain⟨h1,h2⟩:=rD h
 rw[oF]at h1
 have hg:=mK.of h1
 have h3:=fQ (t:=t) (n:=n) (by unfold EL;rw[h1,cond_true,decide_eq_false (by have:=of_decide_eq_true h2;rw[zJ]at this;omega)];rfl)
 refine⟨h0.1,h0.2.1,h0.2.2.1,h0.2.2.2,?_⟩
 have h4:=hg.idx (xC t n).toNat oM
 have h5:(t.Idxs.getD (xC t n).toNat MA).Name=n:=h3.2
 rw[h5]at h4
 unfold vC
 exact⟨h4.2.2.2.1,h4.2.2.2.2,hg.name,h4.1⟩
theorem wY{t:VA}(h:mK t):∀(j i:Nat),i<j→j<t.Idxs.length→(t.Idxs.getD i MA).Name<(t.Idxs.getD j MA).Name
 | 0,i,hi,_=>by omega
 | j+1,i,hi,hj=>by
  have h1:=h.rise j hj
  rcases Nat.lt_or_ge i j with h2 | h2
  ·exact QT (wY h j i h2 oM) h1
  ·obtain rfl:i=j:=by omega
   exact h1
theorem zX{t:VA}(h:mK t){k:Nat}(hk:k<t.Idxs.length):JE t (t.Idxs.getD k MA).Name=(k:Int):=by
 rcases WM t (t.Idxs.getD k MA).Name with⟨_,h2⟩ | ⟨j,hj,h1,h2,h3⟩
 ·exact absurd rfl (h2 _ (JG hk))
 ·rcases Nat.lt_or_ge j k with h4 | h4
  ·have:=wY h k j h4 hk
   rw[h2]at this;exact absurd this (KU _)
  ·rcases Nat.lt_or_ge k j with h5 | h5
   ·exact absurd rfl (h3 k h5)
   ·rw[h1];omega
theorem UQ{t:VA}{k:Nat}(hk:k<t.Idxs.length):0≤xC t (t.Idxs.getD k MA).Name∧xC t (t.Idxs.getD k MA).Name<(t.Idxs.length:Int):=by
 refine⟨?_,(iM _ _).2⟩
 rw[zJ]
 rcases WM t (t.Idxs.getD k MA).Name with⟨_,h2⟩ | ⟨j,hj,h1,_⟩
 ·exact absurd rfl (h2 _ (JG hk))
 ·omega
theorem nU(t:VA)(n:vA):vC t n=t.Idxs.getD (JE t n).toNat MA:=by unfold vC;rw[zJ]
theorem vI(l:List pA):fD l=KF l:=by
 rw[MO]
 unfold fD
 rw[NW zA (fun w=>!w.Gone) (r:=false) fun k=>by
  unfold lI
  cases (l.getD k zA).Gone<;>rfl]
 cases AG l<;>cases (l.all fun w=>!w.Gone)<;>rfl
theorem KN(t:VA)(n:vA):qI t n=true↔FB t=true∧0≤JE t n:=by
 unfold qI
 rw[oF,zJ]
 constructor
 ·intro h
  obtain⟨h1,h2⟩:=rD h
  exact⟨h1,of_decide_eq_true h2⟩
 ·rintro⟨h1,h2⟩
  rw[h1,decide_eq_true h2];rfl
theorem EW{t:VA}(hw:HO t)(h:¬xF t 1048576<0):t.Cols.length≤2147483648∧t.Idxs.length≤2147483648:=by
 have:=(nF hw (by decide) h).1
 exact⟨this.2.1.1,this.2.2.1⟩
theorem xT{s:vA}(h:IF s=true):s.length≤12:=by
 unfold IF at h
 have:=xM (rD h).1
 omega
theorem rQ{s:vA}(h:kG s=true):s.length≤24:=by
 unfold kG at h
 have:=of_decide_eq_true (rD h).1
 omega
theorem iW{k v:vA}{g:Bool}(h:HE k v g=true):k.length≤12∧v.length≤24:=by
 rw[WR,PQ]at h
 simp only[Bool.and_eq_true]at h
 exact⟨xT h.1,rQ h.2.1⟩
theorem IN{l:List pA}(h:AG l=true):l.length≤24∧∀k,k<l.length→(l.getD k zA).Key.length≤12∧(l.getD k zA).Val.length≤24:=by
 rw[qK,Bool.and_eq_true,decide_eq_true_eq]at h
 refine⟨by omega,fun k hk=>?_⟩
 have:=List.all_eq_true.1 h.1 k (List.mem_range.2 hk)
 rw[Bool.and_eq_true]at this
 exact iW this.1
theorem gQ(s:vA)(c:UInt8):BB s [c]=Lib.indexByte s c:=by
 unfold BB wE YY
 have h:((([c]:vA).getD 0 0).toNat:Int).toNat.toUInt8=c:=by simp
 rw[h]
 cases hc:([c]:vA)==s
 ·rfl
 ·have:s=[c]:=(eq_of_beq hc).symm
  subst this
  simp[Lib.indexByte]
theorem xW{s sub:vA}(h:sub.length=1):-1≤BB s sub∧BB s sub≤(s.length:Int)-1:=by
 match sub,h with
 | [c],_=>
  rw[gQ]
  rcases kJ c s with⟨_,h2⟩ | ⟨a,r,h1,_,h3⟩
  ·rw[h2];omega
  ·rw[h3,h1];simp only[List.length_append,List.length_cons];omega
theorem Jf{s sub:vA}(o:QE s)(h:sub.length=1)(hd:decide (0≤BB s sub)=true):0≤IntKind.wrap .i64 ((BB s sub)+(sub.length:Int))∧IntKind.wrap .i64 ((BB s sub)+(sub.length:Int))≤(s.length:Int):=by
 have h1:=of_decide_eq_true hd
 have h2:=xW (s:=s) h
 unfold QE at o
 rw[h,JH oM]
 omega
theorem QV{s p:vA}(h:kD s p=true):p.length≤s.length:=by
 unfold kD at h
 have:=of_decide_eq_true (rD h).1
 omega
theorem rW{t:VA}{n:vA}(h:t.Name.length≤1∧n.length≤1):QE (VC t n):=by
 have:=QN t n
 unfold QE;omega
theorem XM{s:vA}(h:QE s)(b:Int)(i:Nat):QE ((PA s b).getD i wA):=by
 have hh:∀x∈PA s b,QE x:=by
  unfold PA
  refine yD (fun _ (p:List vA×Int)=>∀x∈p.1,QE x) (fun(v:List vA)=>∀x∈v,QE x) (fun _ h=>by cases h) ?_ ?_
  ·rintro⟨x,a⟩ hx y hy
   rcases List.mem_append.1 hy with hy | hy
   ·exact hx y hy
   ·rw[List.mem_singleton.1 hy];exact h.drop _
  ·rintro j ⟨x,a⟩ _ _ hx
   unfold DG
   dsimp only
   cases decide (((s.getD j 0).toNat:Int)=b)
   ·exact hx
   ·intro y hy
    rcases List.mem_append.1 hy with hy | hy
    ·exact hx y hy
    ·rw[List.mem_singleton.1 hy];exact(h.take _).drop _
 rw[List.getD_eq_getElem?_getD]
 cases h1:(PA s b)[i]? with
 | none=>exact gC
 | some x=>exact hh x (List.mem_of_getElem? h1)
theorem MN(s:vA)(b:UInt8):PA s (b.toNat:Int)=sp b s:=by
 unfold PA
 refine yD (fun k (p:List vA×Int)=>0≤p.2∧p.2.toNat≤k∧b∉(s.take k).drop p.2.toNat∧p.1++sp b (s.drop p.2.toNat)=sp b s) (fun(v:List vA)=>v=sp b s) ⟨by omega,by simp,by simp,by simp⟩ ?_ ?_
 ·rintro⟨x,a⟩ ⟨h1,h2,h3,h4⟩
  dsimp only at h1 h2 h3 h4 ⊢
  rw[show s.take (0+(s.length-0))=s from by rw[List.take_of_length_le oM]]at h3
  rw[QO h3]at h4
  exact h4
 ·rintro j ⟨x,a⟩ _ hj ⟨h1,h2,h3,h4⟩
  have hj':j<s.length:=by omega
  unfold DG
  dsimp only at h1 h2 h3 h4 ⊢
  have ht:(s.take (j+1)).drop a.toNat=(s.take j).drop a.toNat++[s.getD j 0]:=by
   rw[yE hj',List.take_succ_eq_append_getElem hj',List.drop_append_of_le_length (by rw[List.length_take];omega)]
  have hd:s.drop a.toNat=(s.take j).drop a.toNat++s.getD j 0::s.drop (j+1):=by
   conv=>lhs;rw[←List.take_append_drop j s]
   rw[List.drop_append_of_le_length (by rw[List.length_take];omega),yE hj',List.drop_eq_getElem_cons hj']
  rw[IW]
  cases hc:s.getD j 0==b
  ·refine⟨h1,oM,?_,h4⟩
   rw[ht]
   intro hm
   rcases List.mem_append.1 hm with hm | hm
   ·exact h3 hm
   ·rw[←List.mem_singleton.1 hm]at hc;simp at hc
  ·have hb:s.getD j 0=b:=eq_of_beq hc
   refine⟨by omega,by simp,by simp,?_⟩
   rw[hd,hb,nL h3]at h4
   rw[←h4,List.append_assoc]
   show x++([_]++sp b (s.drop _))=_
   rw[show(((j+1:Nat):Int)).toNat=j+1 from by simp]
   rfl
theorem KZ{s:vA}{c:UInt8}(h:c∉s):(tE s [c]).2.2=false:=by
 have h1:BB s [c]=-1:=by
  rw[gQ]
  rcases kJ c s with⟨_,h2⟩ | ⟨a,r,h2,_,_⟩
  ·exact h2
  ·rw[h2]at h;simp at h
 unfold tE jD
 rw[h1];rfl
theorem VU{a r:vA}{c:UInt8}(h:c∉a)(hl:a.length≤1073741824):tE (a++c::r) [c]=(a,r,true):=by
 have h1:BB (a++c::r) [c]=(a.length:Int):=by
  rw[gQ]
  rcases kJ c (a++c::r)with⟨h2,_⟩ | ⟨a',r',h2,h3,h4⟩
  ·simp at h2
  ·have:a'::sp c r'=a::sp c r:=by rw[←nL h3,←nL h,h2]
   rw[h4,(List.cons.inj this).1]
 unfold tE jD
 rw[h1,decide_eq_true oM]
 simp only[cond_true]
 rw[JH (by simp only[List.length_cons,List.length_nil];omega)]
 have h2:((a.length:Int)).toNat=a.length:=by simp
 have h3:((a.length:Int)+(([c]:vA).length:Int)).toNat=a.length+1:=by simp only[List.length_cons,List.length_nil];omega
 rw[h2,h3]
 simp
theorem XQ{s:vA}(h:UD s=true):(47:UInt8)∉s:=by
 unfold UD at h
 obtain⟨_,h2⟩:=rD h
 rw[TK,List.all_eq_true]at h2
 intro hm
 exact absurd (h2 _ hm) (by decide)
theorem YM(k p:vA):(qB k p).2=p.isPrefixOf k∧((qB k p).2=true→(qB k p).1=k.drop p.length):=by
 have h:kD k p=p.isPrefixOf k:=by
  unfold kD
  by_cases hp:p <+: k
  ·obtain⟨r,rfl⟩:=hp
   rw[decide_eq_true (by rw[List.length_append];omega),cond_true,List.take_left]
   simp
  ·rw[show p.isPrefixOf k=false from by rw[Bool.eq_false_iff];intro e;exact hp (List.isPrefixOf_iff_prefix.1 e)]
   cases hd:decide ((p.length:Int)≤(k.length:Int))
   ·rfl
   ·rw[cond_true,beq_eq_false_iff_ne]
    intro e
    exact hp (e▸List.take_prefix ..)
 unfold qB uD
 rw[h]
 cases p.isPrefixOf k<;>simp
theorem Pd{α:Type}(x d:α)(xs:List α):(x::xs).getD 0 d=x:=rfl
theorem Kf{α:Type}(x y d:α)(xs:List α):(x::y::xs).getD 1 d=y:=rfl
theorem Lf{α:Type}(x y z d:α)(xs:List α):(x::y::z::xs).getD 2 d=z:=rfl
theorem Le{α:Type}{x y z:α}{xs:List α}(h:0<xs.length):decide (((x::y::z::xs).length:Int)=3)=false:=decide_eq_false (by simp only[List.length_cons];omega)
theorem vY{t:VA}{n k:vA}(hh:(47:UInt8)∉(t.Name++([46]:vA))++n)(hk:k.length≤1073741824):uB t n k=tC t n k:=by
 have hsp:PA k 47=sp 47 k:=MN k 47
 have hd:VC t n=((t.Name++([46]:vA))++n)++([47]:vA):=rfl
 unfold uB tC
 rw[hsp,hd]
 generalize (t.Name++([46]:vA))++n=hd at hh
 obtain⟨hc1,hc2⟩:=YM k (hd++([47]:vA))
 rcases hU 47 k with h47 | ⟨a,r,rfl,ha⟩
 ·have hp:(qB k (hd++([47]:vA))).2=false:=by
   rw[hc1,Bool.eq_false_iff];intro e
   obtain⟨r,rfl⟩:=List.isPrefixOf_iff_prefix.1 e
   simp at h47
  rw[hp,QO h47];rfl
 ·rw[nL ha]
  by_cases e:a=hd
  ·subst e
   have hp:(a++([47]:vA)).isPrefixOf (a++47::r)=true:=List.isPrefixOf_iff_prefix.2 ⟨r,by simp⟩
   have hr:(qB (a++47::r) (a++([47]:vA))).1=r:=by
    rw[hc2 (hc1.trans hp)]
    rw[show a++47::r=(a++([47]:vA))++r from by simp,List.drop_left]
   rw[hc1.trans hp,hr,cond_true,Pd,beq_self_eq_true,cond_true]
   rcases hU 47 r with h47 | ⟨b,u,rfl,hb⟩
   ·rw[KZ h47,QO h47];rfl
   ·rw[VU hb (by simp only[List.length_append,List.length_cons]at hk;omega),nL hb]
    rw[Kf]
    dsimp only
    rw[xL,xL,cond_true]
    rcases hU 47 u with h47 | ⟨d,v,rfl,hdd⟩
    ·rw[QO h47,Lf];rfl
    ·have hf:UD (d++47::v)=false:=by
      rw[Bool.eq_false_iff];intro e;exact XQ e (by simp)
     rw[nL hdd,Le (AW 47 v),hf]
     cases UD b<;>rfl
  ·have hp:(qB (a++47::r) (hd++([47]:vA))).2=false:=by
    rw[hc1,Bool.eq_false_iff];intro h
    obtain⟨r',h'⟩:=List.isPrefixOf_iff_prefix.1 h
    rw[List.append_assoc]at h'
    have:hd::sp 47 r'=a::sp 47 r:=by rw[←nL hh,←nL ha,←h'];rfl
    exact e (List.cons.inj this).1.symm
   have hg:((a::sp 47 r).getD 0 wA==hd)=false:=by rw[Pd,beq_eq_false_iff_ne];exact e
   rw[hp,hg]
   cases decide (((a::sp 47 r).length:Int)=3)<;>rfl
theorem hP{s:vA}{m:Int}(h:rC s m=true):(47:UInt8)∉s:=by
 rw[fN,Bool.and_eq_true,Bool.and_eq_true,List.all_eq_true]at h
 intro hm
 exact absurd (h.1.1 _ hm) (by decide)
theorem qS{t:VA}{n:vA}(h:qI t n=true):(47:UInt8)∉(t.Name++([46]:vA))++n:=by
 have h2:=fQ (tT t n▸h)
 obtain⟨h3,h4⟩:=(KN t n).1 h
 have h5:=rK t n
 rw[nU]at h2
 rw[mL]at h3
 simp only[Bool.and_eq_true,List.all_eq_true,List.mem_range]at h3
 have h6:=h3.2 (JE t n).toNat oM
 unfold RR at h6
 simp only[Bool.and_eq_true]at h6
 have h7:=hP h6.1.1.1
 rw[h2.2]at h7
 have h8:=hP h3.1.1.1
 intro hm
 rcases List.mem_append.1 hm with hm | hm
 ·rcases List.mem_append.1 hm with hm | hm
  ·exact h8 hm
  ·exact absurd (List.mem_singleton.1 hm) (by decide)
 ·exact h7 hm
theorem yO{ρ σ:Type}{b b':Nat→σ→aI ρ σ}:∀(n k:Nat) (s:σ),(∀j s,k≤j→j<k+n→b j s=b' j s)→UA b n k s=UA b' n k s
 | 0,_,_,_=>rfl
 | n+1,k,s,h=>by
  have h1:=h k s (Nat.le_refl _) oM
  have ih:=fun s=>yO n (k+1) s fun j s h2 h3=>h j s oM oM
  simp only[UA]
  rw[h1]
  cases b' k s with
  | ret r=>rfl
  | brk s=>rfl
  | cont s=>exact ih s
theorem hX{t:VA}{n:vA}{l:List pA}(h:qI t n=true)(hl:AG l=true):lB t n l=tB t n l:=by
 have hk:=(IN hl).2
 unfold lB tB
 rw[yO (b:=qE t n l) (b':=QF t n l) _ _ _ fun j x _ hj=>by
  unfold qE QF
  have:=(hk j oM).1
  rw[vY (qS h) oM]]
theorem PV(t:VA)(n:vA)(l:List pA):(lB t n l).length≤l.length:=by
 unfold lB
 refine yD (fun k (x:List vA)=>x.length≤k) (fun(v:List vA)=>v.length≤l.length) (Nat.le_refl _) (fun s h=>by omega) ?_
 intro j x _ _ hx
 unfold qE
 cases (uB t n ((l.getD j zA).Key)).2.2
 ·show x.length≤j+1;omega
 ·show(x++_).length≤j+1
  rw[List.length_append];simp only[List.length_cons,List.length_nil];omega
theorem zM{l:List pA}(h:KF l=true):AG l=true:=by
 rw[MO,Bool.and_eq_true]at h
 exact h.1
theorem pK(sep x y:vA)(zs:List vA):sep.intercalate (x::y::zs)=x++(sep++sep.intercalate (y::zs)):=by
 simp[List.intercalate,List.intersperse]
theorem mM(sep x:vA):sep.intercalate [x]=x:=by simp[List.intercalate]
theorem OP(sep x:vA):∀xs:List vA,0<xs.length→sep.intercalate (xs++[x])=(sep.intercalate xs++sep)++x
 | [],h=>by simp at h
 | [y],_=>by show sep.intercalate (y::x::[])=_;rw[pK,mM,mM,List.append_assoc]
 | y::z::zs,_=>by
  show sep.intercalate (y::z::(zs++[x]))=_
  rw[pK,show z::(zs++[x])=(z::zs)++[x]from rfl,OP sep x (z::zs) (Nat.succ_pos _),pK]
  simp only[List.append_assoc]
theorem wL:∀xs:List vA,(∀x∈xs,x.length≤3)→(([44]:vA).intercalate xs).length≤4*xs.length
 | [],_=>Nat.zero_le _
 | [x],h=>by have:=h x (by simp);rw[mM,List.length_singleton];omega
 | x::y::zs,h=>by
  have h1:=h x (by simp)
  have h2:=wL (y::zs) fun z hz=>h z (List.mem_cons_of_mem _ hz)
  rw[pK,List.length_append,List.length_append,List.length_cons (as:=y::zs)]
  simp only[List.length_cons,List.length_nil]at h2 ⊢
  omega
theorem La{r:nB}(h:r.Vals.length≤4)(hr:MF r):(xD r.Vals ([44]:vA)).length≤1073741824:=by
 have:=wL r.Vals hr
 unfold xD;omega
theorem bZ{r:nB}(h:r.Vals.length≤4)(hr:MF r):(xD (r.Vals.drop 1) ([44]:vA)).length≤1073741824:=by
 have:=wL (r.Vals.drop 1) fun x hx=>hr x (List.mem_of_mem_drop hx)
 rw[List.length_drop]at this
 unfold xD;omega
theorem BN(xs:List vA)(sep:vA):UI xs sep=xD xs sep:=by
 unfold UI xD
 refine yD (fun k (s:vA)=>s=sep.intercalate (xs.take k)) (fun(v:vA)=>v=sep.intercalate xs) rfl (fun s h=>by rw[h,List.take_of_length_le oM]) ?_
 intro j s _ hj hs
 have hj':j<xs.length:=by omega
 unfold fI
 dsimp only
 rw[List.take_succ_eq_append_getElem hj',yE hj']
 by_cases h0:0<j
 ·rw[decide_eq_true oM,hs,OP _ _ _ (by rw[List.length_take];omega)];rfl
 ·have:j=0:=by omega
  subst this
  rw[decide_eq_false oM,hs]
  show[]++_=_
  simp[List.intercalate]
def kV(a:MB):Prop:=(a.Kind≠2→0<a.New.Vals.length∧a.New.Vals.length≤4∧MF a.New)∧(a.Kind≠1→0<a.Old.Vals.length∧a.Old.Vals.length≤4∧MF a.Old)
def SO(s:iD):Prop:=s.Kind≠2→s.Kind≠3→kV s.Act
theorem lV{t:VA}{a:MB}(ht:2≤(t.Cols.length:Int)∧(t.Cols.length:Int)≤4)(h:HC t a=true):kV a:=by
 have row:∀r,wC t r=true→0<r.Vals.length∧r.Vals.length≤4∧MF r:=fun r hr=>by
  obtain⟨h1,h2⟩:=wK hr
  exact⟨by omega,oM,h2⟩
 unfold HC at h
 by_cases h1:a.Kind=1
 ·rw[decide_eq_true h1,cond_true]at h
  exact⟨fun _=>row _ (rD h).2,fun h2=>absurd h1 h2⟩
 ·rw[decide_eq_false h1,cond_false]at h
  by_cases h2:a.Kind=2
  ·rw[decide_eq_true h2,cond_true]at h
   exact⟨fun h3=>absurd h2 h3,fun _=>row _ (rD h).1⟩
  ·rw[decide_eq_false h2,cond_false]at h
   by_cases h3:a.Kind=3
   ·rw[decide_eq_true h3,cond_true]at h
    obtain⟨h4,h5⟩:=rD h
    exact⟨fun _=>row _ (rD h5).1,fun _=>row _ h4⟩
   ·rw[decide_eq_false h3]at h;cases h
theorem iU{t:VA}{s:iD}(h:EI t s=true):SO s:=by
 unfold EI at h
 obtain⟨h1,h2⟩:=rD h
 have h3:=eP h1
 intro k2 k3
 unfold UB at h2
 rw[decide_eq_false k2,decide_eq_false k3]at h2
 by_cases k1:s.Kind=1
 ·rw[decide_eq_true k1,cond_true]at h2
  exact lV ⟨h3.1,h3.2.1⟩ (rD h2).1
 ·rw[decide_eq_false k1]at h2;cases h2
theorem SL{r:nB}(h:r.Vals.length≤4)(hr:MF r):(eE r).length≤16∧(BD r).length≤16:=by
 have:=wL r.Vals hr
 unfold eE BD
 rw[BN]
 unfold xD
 omega
theorem zZ{s:iD}(h:SO s):s.Kind≠2→s.Kind≠3→(s.Act.Kind≠2→(eE s.Act.New).length≤16∧(BD s.Act.New).length≤16)∧(s.Act.Kind≠1→(eE s.Act.Old).length≤16∧(BD s.Act.Old).length≤16):=fun k2 k3=>by
 obtain⟨h1,h2⟩:=h k2 k3
 exact⟨fun k=>SL (h1 k).2.1 (h1 k).2.2,fun k=>SL (h2 k).2.1 (h2 k).2.2⟩
theorem CP(r:nB):BD r=eE r:=(BN _ _).symm
theorem TL(t:VA)(r:nB):LA t r=DB t r:=by
 unfold LA DB
 rw[BN]
theorem JV{α:Type}{b:Bool}{x y:List α}{n:Nat}(h:x.length≤n)(k:y.length≤n):(bif b then x else y).length≤n:=by cases b<;>assumption
theorem MT(t:VA)(x:AF)(a:MB):(tD t x a).length≤2:=by
 unfold tD
 repeat' first | exact nb rfl | apply JV
theorem mS(t:VA)(a:MB):(IG t a).length≤2:=by
 unfold IG
 repeat' first | exact nb rfl | apply JV
def bP(t:VA)(a:MB):Prop:=(a.Kind≠2→a.New.Vals.length=t.Cols.length∧MF a.New)∧(a.Kind≠1→a.Old.Vals.length=t.Cols.length∧MF a.Old)
theorem QZ{t:VA}{a:MB}(h:HC t a=true):bP t a:=by
 unfold HC at h
 by_cases h1:a.Kind=1
 ·rw[decide_eq_true h1,cond_true]at h
  exact⟨fun _=>wK (rD h).2,fun h2=>absurd h1 h2⟩
 ·rw[decide_eq_false h1,cond_false]at h
  by_cases h2:a.Kind=2
  ·rw[decide_eq_true h2,cond_true]at h
   exact⟨fun h3=>absurd h2 h3,fun _=>wK (rD h).1⟩
  ·rw[decide_eq_false h2,cond_false]at h
   by_cases h3:a.Kind=3
   ·rw[decide_eq_true h3,cond_true]at h
    obtain⟨h4,h5⟩:=rD h
    exact⟨fun _=>wK (rD h5).1,fun _=>wK h4⟩
   ·rw[decide_eq_false h3]at h;cases h
theorem dT{t:VA}{a:MB}(h:bP t a):(a.Kind≠2→a.New.Vals.length=t.Cols.length)∧(a.Kind≠1→a.Old.Vals.length=t.Cols.length):=⟨fun k=>(h.1 k).1,fun k=>(h.2 k).1⟩
theorem jQ{t:VA}{a:MB}(ht:FB t=true)(h:bP t a):(2≤(t.Cols.length:Int)∧(t.Cols.length:Int)≤4∧(t.Idxs.length:Int)≤3)∧t.Name.length≤1∧(a.Kind≠2→a.New.Vals.length=t.Cols.length)∧(a.Kind≠1→a.Old.Vals.length=t.Cols.length):=
 ⟨mI ht,by have:=(mK.of ht).name;omega,dT h⟩
theorem lY{t:VA}(h:mK t){k:Nat}(hk:k<t.Idxs.length):vC t (t.Idxs.getD k MA).Name=t.Idxs.getD k MA:=by
 rw[nU,zX h hk];rfl
theorem NM{t:VA}{a:MB}(ht:FB t=true)(_:bP t a){k:Nat}(hk:k<t.Idxs.length):(0≤xC t (t.Idxs.getD k MA).Name∧xC t (t.Idxs.getD k MA).Name<(t.Idxs.length:Int))∧(0≤(vC t (t.Idxs.getD k MA).Name).Col∧(vC t (t.Idxs.getD k MA).Name).Col<(t.Cols.length:Int))∧(t.Idxs.getD k MA).Name.length≤1∧(0≤(t.Idxs.getD k MA).Col∧(t.Idxs.getD k MA).Col<(t.Cols.length:Int)):=by
 have hg:=mK.of ht
 have h1:=hg.idx k hk
 have h2:=UQ (t:=t) hk
 rw[lY hg hk]
 exact⟨h2,⟨by omega,h1.2.2.1⟩,oM,by omega,h1.2.2.1⟩
theorem UM{t:VA}{a:MB}(h:jJ t a=true):FB t=true∧bP t a:=by
 unfold jJ at h
 obtain⟨h1,h2⟩:=rD h
 exact⟨oF t▸h1,QZ h2⟩
theorem NQ{t:VA}{a:MB}(h:BL t a=true):FB t=true∧bP t a:=UM (OK t a▸h)
theorem Na{t:VA}{a:MB}(h:HC t a=true):1≤a.Kind∧a.Kind≤3:=by
 unfold HC at h
 by_cases h1:a.Kind=1
 ·omega
 ·by_cases h2:a.Kind=2
  ·omega
  ·by_cases h3:a.Kind=3
   ·omega
   ·rw[decide_eq_false h1,decide_eq_false h2,decide_eq_false h3]at h;cases h
theorem sU{t:VA}{a:MB}(h:jJ t a=true):1≤a.Kind∧a.Kind≤3:=by
 unfold jJ at h
 exact Na (rD h).2
theorem qU{t:VA}(h:mK t){k:Nat}(hk:k<t.Idxs.length)(r:nB):cB t (t.Idxs.getD k MA).Name r=LB t (t.Idxs.getD k MA) r:=by
 unfold cB LB VC
 rw[lY h hk]
theorem round_eq{t:VA}(h:mK t)(a:MB){k:Nat}(hk:k<t.Idxs.length)(x:List rE):pB t a k x=.cont (x++tD t (t.Idxs.getD k MA) a):=by
 unfold pB tD bL uI
 dsimp only
 rw[qU h hk,qU h hk]
 generalize LB t (t.Idxs.getD k MA) a.New=eN
 generalize LB t (t.Idxs.getD k MA) a.Old=eO
 generalize (t.Idxs.getD k MA).Stage=st
 try rw[show(([]:vA)==([]:vA))=true from rfl]
 cases h1:decide (a.Kind=1)
 ·simp only[cond_false,cond_true]
  cases decide (a.Kind=2)<;>simp only[cond_true,cond_false]
  ·cases eO==[]<;>cases eN==[]<;>cases eO==eN<;>cases decide (1≤st)<;>cases decide (2≤st)<;>simp
  ·cases eO==[]<;>cases decide (1≤st)<;>simp
 ·rw[decide_eq_false (show ¬a.Kind=2 by have:=of_decide_eq_true h1;omega)]
  simp only[cond_false,cond_true]
  cases eN==[]<;>cases decide (2≤st)<;>simp
theorem OO{t:VA}{a:MB}(hg:FB t=true)(h:HC t a=true):ZD t a=dG t a:=by
 have hb:∀x,UA (pB t a) (t.Idxs.length-0) 0 x=UA (RJ t a) (t.Idxs.length-0) 0 x:=fun x=>
  yO _ _ _ fun j s _ hj=>round_eq (mK.of hg) a oM s
 unfold ZD dG IG
 simp only[hb,TL]
 unfold HC at h
 by_cases h1:a.Kind=1
 ·rw[decide_eq_true h1];rfl
 ·rw[decide_eq_false h1,cond_false]at h
  by_cases h2:a.Kind=2
  ·rw[decide_eq_false h1,decide_eq_true h2];rfl
  ·rw[decide_eq_false h2,cond_false]at h
   by_cases h3:a.Kind=3
   ·rw[decide_eq_true h3,cond_true]at h
    have h6:a.Old.Vals.getD 0 wA=a.New.Vals.getD 0 wA:=eq_of_beq (rD (rD h).2).2
    have h7:(DB t a.New).Key=(DB t a.Old).Key:=by unfold DB;dsimp only;rw[h6]
    rw[decide_eq_false h1,decide_eq_false h2,h7];rfl
   ·rw[decide_eq_false h3]at h;cases h
theorem pX(t:VA)(a:MB):(dG t a).length≤2+2*t.Idxs.length:=by
 unfold dG
 refine yD (fun k (x:List rE)=>x.length≤2+2*k) (fun(v:List rE)=>v.length≤2+2*t.Idxs.length) (mS t a) (fun s hs=>by omega) ?_
 intro j x _ _ hx
 have:=MT t (t.Idxs.getD j MA) a
 show(x++tD t (t.Idxs.getD j MA) a).length≤2+2*(j+1)
 rw[List.length_append];omega
theorem SV{s:Int}(h:HG s=true):0≤s∧s≤3:=qN h
theorem pW{s:vA}(h:QE s){b:Int}:jG QE (PA s b):=by
 have h':s.length≤1073741824:=h
 unfold PA
 refine yD (fun k (p:List vA×Int)=>p.1.length≤k∧∀y∈p.1,QE y) (fun(v:List vA)=>jG QE v) ⟨Nat.zero_le _,fun _ h=>by cases h⟩ ?_ ?_
 ·rintro⟨x,a⟩ ⟨h1,h2⟩
  dsimp only at h1 h2 ⊢
  refine⟨by rw[List.length_append,List.length_singleton];omega,fun y hy=>?_⟩
  rcases List.mem_append.1 hy with hy | hy
  ·exact h2 y hy
  ·rw[List.mem_singleton.1 hy];exact CI h _
 ·rintro j ⟨x,a⟩ _ hj ⟨h1,h2⟩
  dsimp only at h1 h2
  unfold DG
  dsimp only
  cases decide (((s.getD j 0).toNat:Int)=b)
  ·exact⟨Nat.le_succ_of_le h1,h2⟩
  ·refine⟨by rw[List.length_append,List.length_singleton];omega,fun y hy=>?_⟩
   rcases List.mem_append.1 hy with hy | hy
   ·exact h2 y hy
   ·rw[List.mem_singleton.1 hy];exact CI (QE.take h _) _
theorem GM(s:vA)(b:Int):1≤(PA s b).length∧(PA s b).length≤s.length+1:=by
 unfold PA
 refine yD (fun k (p:List vA×Int)=>p.1.length≤k) (fun(v:List vA)=>1≤v.length∧v.length≤s.length+1) (Nat.zero_le _) ?_ ?_
 ·rintro⟨x,a⟩ h1
  dsimp only at h1 ⊢
  rw[List.length_append,List.length_singleton];omega
 ·rintro j ⟨x,a⟩ _ hj h1
  dsimp only at h1
  unfold DG
  dsimp only
  cases decide (((s.getD j 0).toNat:Int)=b)
  ·exact Nat.le_succ_of_le h1
  ·show(x++_).length≤_
   rw[List.length_append,List.length_singleton];omega
theorem kS(s sep:vA):1≤(xA s sep).length∧(xA s sep).length≤s.length+1:=⟨AW _ _,AQ _ _⟩
theorem dW(c:UInt8):∀s:vA,([c]:vA).intercalate (sp c s)=s
 | []=>rfl
 | b::s=>by
  have ih:=dW c s
  unfold sp
  split
  ·rename_i h
   subst h
   have h0:=AW b s
   cases hs:sp b s with
   | nil=>rw[hs]at h0;exact absurd h0 (Nat.lt_irrefl _)
   | cons x xs=>rw[pK,←hs,ih];rfl
  ·have h0:=AW c s
   cases hs:sp c s with
   | nil=>rw[hs]at h0;exact absurd h0 (Nat.lt_irrefl _)
   | cons x xs=>
    rw[hs]at ih
    rw[List.headD_cons,List.tail_cons]
    cases xs with
    | nil=>rw[mM]at ih ⊢;rw[ih]
    | cons y ys=>rw[pK]at ih ⊢;rw[List.cons_append,ih]
theorem LQ(s:vA):PA s 44=sp 44 s:=MN s 44
theorem NT(s:vA):eE (QC s)=s:=by
 unfold eE QC
 rw[BN,LQ]
 exact dW 44 s
def qR(s:iD):Prop:=s.Kind≠2→s.Kind≠3→(s.Act.Kind≠2→(eE s.Act.New).length≤1073741824)∧(s.Act.Kind≠1→(eE s.Act.Old).length≤1073741824)
theorem ML{t:VA}(hg:FB t=true){s:iD}(h:UB t s=true):SO s:=iU (t:=t) (by unfold EI;rw[oF,hg,cond_true,h])
theorem qW{xs:List vA}(h:∀y∈xs,QE y)(i:Nat):QE (xs.getD i wA):=by
 rw[List.getD_eq_getElem?_getD]
 cases h1:xs[i]? with
 | none=>exact gC
 | some x=>exact h x (List.mem_of_getElem? h1)
theorem Qe{w:List vA}(h:∀y∈w,QE y):qR (aB w)∧((aB w).Kind=1→(aB w).Act.Kind=3→0<(aB w).Act.Old.Vals.length):=by
 have h2:(eE (QC (w.getD 2 wA))).length≤1073741824:=by rw[NT];exact qW h 2
 have h4:(eE (QC (w.getD 4 wA))).length≤1073741824:=by rw[NT];exact qW h 4
 have h0:(eE (⟨[]⟩:nB)).length≤1073741824:=by decide
 have hv:0<(QC (w.getD 2 wA)).Vals.length:=(GM _ _).1
 unfold qR aB
 cases decide ((w.length:Int)=3)<;>cases decide ((w.length:Int)=5)<;>cases (w.getD 0 wA)==([103,101,116]:vA)<;>cases (w.getD 0 wA)==([114,97,110,103,101]:vA)<;>cases (w.getD 0 wA)==([105,110,115,101,114,116]:vA)<;>cases (w.getD 0 wA)==([100,101,108,101,116,101]:vA)<;>cases (w.getD 0 wA)==([117,112,100,97,116,101]:vA) <;>
  simp only[cond_true,cond_false]<;>exact⟨fun _ _=>⟨fun _=>by assumption,fun _=>by assumption⟩,fun k1 k2=>by first | exact hv | exact absurd k1 (by decide) | exact absurd k2 (by decide)⟩
theorem Mb{s:vA}(h:QE s):qR (aB (PA s 32))∧((aB (PA s 32)).Kind=1→(aB (PA s 32)).Act.Kind=3→0<(aB (PA s 32)).Act.Old.Vals.length):=Qe (pW h).2
theorem Mc{t:VA}(h:FB t=true):t.Name.length≤1:=Nat.le_of_eq (mK.of h).name
theorem Oe{t:VA}(h:t.Name.length≤1):QE (t.Name++([47]:vA)):=by unfold QE;rw[List.length_append];show t.Name.length+1≤_;omega

theorem Aa{t:VA}{r:nB}(h:sD t r=true){v:vA}(hv:v∈r.Vals):1≤v.length∧v.length≤3:=by
 rw[AM,Bool.and_eq_true]at h
 have:=uL (List.all_eq_true.1 h.1 v hv)
 omega
def WQ(w:pA):nB:=⟨[w.Key.drop 2]++PA w.Val 44⟩
theorem GQ(s:vA):xA s ([44]:vA)=PA s 44:=(LQ s).symm
theorem NV{p s k:vA}(h:s=p++k):p.isPrefixOf s=true:=by subst h;simp
theorem UR(t:VA)(w:pA):OE t w=bif decide ((w.Key.length:Int)<3)then(⟨[]⟩,false)else(WQ w,sD t (WQ w)&&(((t.Name++([47]:vA))++w.Key.drop 2==w.Key)&&(((DB t (WQ w)).Val==w.Val)&&(false==w.Gone)))):=by
 unfold OE
 cases decide ((w.Key.length:Int)<3)
 ·show(bif sD t (WQ w)then _ else _)=_
  cases sD t (WQ w)<;>rfl
 ·rfl
theorem Ab{t:VA}(hg:FB t=true)(w:pA):bC t w=bif(OE t w).2 then((OE t w).1,true)else(⟨[]⟩,false):=by
 have hn:=(mK.of hg).name
 have hpl:(t.Name++([47]:vA)).length=2:=by rw[List.length_append,hn];rfl
 obtain⟨c1,c2⟩:=YM w.Key (t.Name++([47]:vA))
 rw[hpl]at c2
 rw[UR]
 unfold bC
 rw[c1]
 cases hp:(t.Name++([47]:vA)).isPrefixOf w.Key
 ·rw[cond_false]
  have hne:((t.Name++([47]:vA))++w.Key.drop 2==w.Key)=false:=by
   cases hh:((t.Name++([47]:vA))++w.Key.drop 2==w.Key)
   ·rfl
   ·rw[NV (eq_of_beq hh).symm]at hp;cases hp
  cases decide ((w.Key.length:Int)<3)
  ·rw[cond_false,hne,Bool.false_and,Bool.and_false];rfl
  ·rfl
 ·rw[c1]at c2
  rw[cond_true,c2 hp,GQ]
  show(bif wC t (WQ w)then _ else _)=_
  rw[vO]
  cases hgd:sD t (WQ w)
  ·cases decide ((w.Key.length:Int)<3)<;>rfl
  ·have h1:=Aa hgd (v:=w.Key.drop 2) (List.mem_cons_self ..)
   rw[List.length_drop]at h1
   rw[decide_eq_false oM,cond_false,cond_true,Bool.true_and,TL]
   show(bif(w.Key==(t.Name++([47]:vA))++w.Key.drop 2)&&((w.Val==(DB t (WQ w)).Val)&&(w.Gone==false))then _ else _)=_
   rw[BEq.comm (a:=w.Key),BEq.comm (a:=w.Val),BEq.comm (a:=w.Gone)]
   rfl
theorem oZ{t:VA}{w:pA}(h:(OE t w).2=true):sD t (OE t w).1=true:=by
 rw[UR]at h ⊢
 cases hd:decide ((w.Key.length:Int)<3)<;>rw[hd]at h
 ·exact(Bool.and_eq_true _ _▸h).1
 ·cases h
theorem yQ{t:VA}(hg:FB t=true)(l:List pA):OD t l=PC t l:=by
 unfold OD PC
 have:kF t l=cH t l:=by
  funext k x
  unfold kF cH
  rw[Ab hg]
  cases (OE t (l.getD k zA)).2<;>rfl
 rw[this]
theorem wN(t:VA)(l:List pA):(PC t l).length≤l.length∧∀y∈PC t l,sD t y=true:=by
 unfold PC
 refine yD (fun k (p:List nB)=>p.length≤k∧∀y∈p,sD t y=true) (fun(v:List nB)=>v.length≤l.length∧∀y∈v,sD t y=true) ⟨Nat.le_refl _,fun _ h=>by cases h⟩ (fun s hs=>⟨by have:=hs.1;omega,hs.2⟩) ?_
 intro j x _ _ ⟨h1,h2⟩
 unfold cH
 dsimp only
 cases h:(OE t (l.getD j zA)).2
 ·exact⟨Nat.le_succ_of_le h1,h2⟩
 ·refine⟨by rw[List.length_append,List.length_singleton];omega,fun y hy=>?_⟩
  rcases List.mem_append.1 hy with hy | hy
  ·exact h2 y hy
  ·rw[List.mem_singleton.1 hy];exact oZ h
theorem Zc(t:VA)(l:List pA){k:Nat}(hk:k<(PC t l).length):sD t ((PC t l).getD k XC)=true:=(wN t l).2 _ (by rw[yE hk];exact List.getElem_mem hk)
theorem HX{t:VA}(hg:FB t=true){l:List pA}{y:nB}(h:y∈OD t l):sD t y=true:=(wN t l).2 y (yQ hg l▸h)
theorem bV(s:vA):xA s ([32]:vA)=PA s 32:=(MN s 32).symm
theorem Bb(s:vA):mD s=QC s:=by unfold mD QC;rw[GQ]
theorem DW(t:VA)(s:iD):kC t s=HF t s:=by
 unfold kC HF
 rw[CP,CP]
def AO:iD:=⟨0,⟨0,⟨[]⟩,⟨[]⟩⟩,[],[],[]⟩
theorem CY(t:VA)(s:vA):XB t s=(aB (PA s 32),nD t (aB (PA s 32))&&(HF t (aB (PA s 32))==s)):=by
 unfold XB
 cases nD t (aB (PA s 32))<;>rfl
theorem lX{s a r:vA}(h:(32:UInt8)∉a)(e:s=a++32::r):(PA s 32).getD 0 wA=a:=by
 subst e
 have:PA (a++32::r) 32=sp 32 (a++32::r):=MN _ 32
 rw[this,nL h];rfl
theorem GW(A B:Bool)(x:iD):(bif A then(bif B then(x,true)else(AO,false))else(AO,false))=bif A&&B then(x,true)else(AO,false):=by cases A<;>cases B<;>rfl
theorem KT(t:VA)(s:vA):FA t s=bif(XB t s).2 then((XB t s).1,true)else(AO,false):=by
 have hf:=@lX s
 rw[CY]
 unfold FA
 simp only[bV,vT,DW,Bb]
 generalize hw:PA s 32=w at hf ⊢
 generalize hx:w.getD 0 wA=x at hf ⊢
 have hno:nD t AO=false:=rfl
 have hget:∀low,(x==([103,101,116]:vA))=false→(HF t ⟨2,⟨0,⟨[]⟩,⟨[]⟩⟩,[],low,[]⟩==s)=false:=fun low h=>by
  cases hh:(HF t ⟨2,⟨0,⟨[]⟩,⟨[]⟩⟩,[],low,[]⟩==s)
  ·rfl
  ·have e:=(eq_of_beq hh).symm
   have:=hf (a:=[103,101,116]) (r:=(t.Name++[32])++low) (by decide) (e.trans (by show((([103,101,116,32]:vA)++t.Name)++[32])++low=_;simp))
   rw[this]at h;cases h
 have hrange:∀a b c,(x==([114,97,110,103,101]:vA))=false→(HF t ⟨3,⟨0,⟨[]⟩,⟨[]⟩⟩,a,b,c⟩==s)=false:=fun a b c h=>by
  cases hh:(HF t ⟨3,⟨0,⟨[]⟩,⟨[]⟩⟩,a,b,c⟩==s)
  ·rfl
  ·have e:=(eq_of_beq hh).symm
   have:=hf (a:=[114,97,110,103,101]) (r:=t.Name++([32]++(a++([32]++(b++([32]++c)))))) (by decide) (e.trans (by show(((((([114,97,110,103,101,32]:vA)++t.Name)++[32])++a)++[32])++b)++[32]++c=_;simp))
   rw[this]at h;cases h
 unfold aB
 rw[hx]
 cases h3:decide ((w.length:Int)=3)
 ·cases h5:decide ((w.length:Int)=5)
  ·simp only[cond_false]
   rfl
  ·simp only[cond_true,cond_false]
   cases hu:x==([117,112,100,97,116,101]:vA)
   ·simp only[cond_false]
    cases hr:x==([114,97,110,103,101]:vA)
    ·simp only[cond_false]
     rw[hrange _ _ _ hr]
     show _=bif nD t AO&&_ then _ else _
     rw[hno,Bool.false_and]
     cases nD t _<;>rfl
    ·simp only[cond_true];exact GW _ _ _
   ·have e:=eq_of_beq hu
    subst e
    simp only[cond_true,show((([117,112,100,97,116,101]:vA)==([114,97,110,103,101]:vA))=false)from rfl,cond_false];exact GW _ _ _
 ·have h5:decide ((w.length:Int)=5)=false:=decide_eq_false (by have:=of_decide_eq_true h3;omega)
  rw[h5]
  simp only[cond_true,cond_false]
  cases hi:x==([105,110,115,101,114,116]:vA)
  ·cases hd:x==([100,101,108,101,116,101]:vA)
   ·simp only[cond_false]
    cases hg:x==([103,101,116]:vA)
    ·simp only[cond_false]
     rw[hget _ hg]
     show _=bif nD t AO&&_ then _ else _
     rw[hno,Bool.false_and]
     cases nD t _<;>rfl
    ·simp only[cond_true];exact GW _ _ _
   ·have e:=eq_of_beq hd
    subst e
    simp only[cond_true,show((([100,101,108,101,116,101]:vA)==([103,101,116]:vA))=false)from rfl,cond_false];exact GW _ _ _
  ·have e:=eq_of_beq hi
   subst e
   simp only[cond_true,show((([105,110,115,101,114,116]:vA)==([103,101,116]:vA))=false)from rfl,cond_false];exact GW _ _ _
theorem Ke{t:VA}(h:FB t=true){k:Nat}(hk:k<t.Idxs.length):0≤(t.Idxs.getD k MA).Col∧(t.Idxs.getD k MA).Col<(t.Cols.length:Int)∧0≤(t.Idxs.getD k MA).Stage∧(t.Idxs.getD k MA).Stage≤3∧(t.Idxs.getD k MA).Name.length=1:=by
 obtain⟨a,b,c,d,e⟩:=(mK.of h).idx k hk
 exact⟨by omega,c,d,e,a⟩
theorem lS(n:Int):(FL n).length=1:=rfl
theorem Cb(t:VA)(l:List pA){k:Nat}(hk:k<(PC t l).length):((PC t l).getD k XC).Vals.length=t.Cols.length∧MF ((PC t l).getD k XC):=sJ (Zc t l hk)
theorem yW(t:VA)(r:nB)(h:t.Name.length≤1)(hl:r.Vals.length≤4)(hr:MF r):(DB t r).Key.length≤5∧(DB t r).Val.length≤16:=by
 unfold DB
 dsimp only
 rw[BN]
 have h1:=wL (r.Vals.drop 1) fun x hx=>hr x (List.mem_of_mem_drop hx)
 rw[List.length_drop]at h1
 have h2:=hr.getD 0
 simp only[lN]
 unfold xD;omega
theorem QI{t:VA}{r:nB}(h:t.Name.length≤1)(hl:r.Vals.length≤4)(hr:MF r):nC (DB t r):=by
 have:=yW t r h hl hr
 exact⟨by unfold QE;omega,by unfold QE;omega⟩
theorem NL{t:VA}{r:nB}(h:YG t r=true):FB t=true∧wC t r=true∧(∀v∈r.Vals,UD v=true)∧2≤r.Vals.length∧r.Vals.length=t.Cols.length:=by
 have h1:=MQ h
 unfold YG at h
 obtain⟨h2,h3⟩:=rD h
 have h4:=h3
 rw[vO,AM,Bool.and_eq_true]at h4
 exact⟨oF t▸h2,h3,List.all_eq_true.1 h4.1,oM,h1.1.1⟩
theorem TS{t:VA}{w:pA}(h:(rN t w).2=true):xP t (rN t w).1=(w,true):=by
 unfold rN at h ⊢
 cases hg:AD t
 ·rw[hg]at h;cases h
 ·rw[hg]at h
  dsimp only[cond_true]at h ⊢
  unfold bC at h ⊢
  revert h
  generalize (⟨(([(qB w.Key (t.Name++([47]:vA))).1]:List vA)++(xA w.Val ([44]:vA)))⟩:nB)=r
  intro h
  cases hc:(qB w.Key (t.Name++([47]:vA))).2
  ·rw[hc]at h;cases h
  ·rw[hc]at h
   dsimp only[cond_true]at h ⊢
   cases hr:wC t r
   ·rw[hr]at h;cases h
   ·rw[hr]at h
    dsimp only[cond_true]at h ⊢
    cases he:(w.Key==(LA t r).Key&&(w.Val==(LA t r).Val&&w.Gone==(LA t r).Gone))
    ·rw[he]at h;cases h
    ·dsimp only[cond_true]
     simp only[Bool.and_eq_true,beq_iff_eq]at he
     unfold xP YG
     rw[hg,cond_true,hr,cond_true]
     have:LA t r=w:=by
      cases w;cases hq:LA t r
      rw[hq]at he
      simp only[pA.mk.injEq]
      exact⟨he.1.symm,he.2.1.symm,he.2.2.symm⟩
     rw[this]
theorem Ma{t:VA}{n:vA}{r:nB}(h:YG t r=true)(hi:qI t n=true):(0≤(vC t n).Col∧(vC t n).Col<(r.Vals.length:Int))∧MP t n (cB t n r)=(r.Vals.getD ((vC t n).Col).toNat wA,r.Vals.getD 0 wA,true):=by
 obtain⟨hg,hr,hf,hl,hc⟩:=NL h
 have hcol:0≤(vC t n).Col∧(vC t n).Col<(r.Vals.length:Int):=by
  have:=MR hi
  omega
 refine⟨hcol,?_⟩
 have f1:=hf _ (JG (d:=wA) (i:=((vC t n).Col).toNat) oM)
 have f0:=hf _ (JG (d:=wA) (i:=0) oM)
 obtain⟨c1,c2⟩:=YM (cB t n r) (VC t n)
 have hk:cB t n r=VC t n++(r.Vals.getD (((vC t n).Col).toNat) wA++47::r.Vals.getD 0 wA):=by
  unfold cB
  simp only[List.append_assoc];rfl
 rw[NV hk]at c1
 have c3:=c2 c1
 rw[hk,List.drop_left' rfl]at c3
 have hs:=(MQ h).2.2.getD ((vC t n).Col).toNat
 have hcut:=VU (r:=r.Vals.getD 0 wA) (XQ f1) oM
 unfold MP
 rw[hi,cond_true]
 have:uB t n (cB t n r)=(r.Vals.getD ((vC t n).Col).toNat wA,r.Vals.getD 0 wA,true):=by
  unfold uB
  rw[c1,hk,c3,hcut,xL,xL]
  dsimp only[cond_true]
  rw[f1,f0];rfl
 rw[this]
theorem OS(t:VA)(n:vA)(l:List pA):lB t n l=(l.filter fun w=>(uB t n w.Key).2.2).map (·.Key):=by
 unfold lB
 refine yD (fun k (p:List vA)=>p=((l.take k).filter fun w=>(uB t n w.Key).2.2).map (·.Key)) (fun(v:List vA)=>v=(l.filter fun w=>(uB t n w.Key).2.2).map (·.Key)) rfl (fun s h=>by rw[h,List.take_of_length_le oM]) ?_
 intro j s _ hj hs
 have hj':j<l.length:=by omega
 unfold qE
 dsimp only
 rw[List.take_succ_eq_append_getElem hj',List.filter_append,List.map_append,←hs,←yE (d:=zA) hj',List.filter_cons]
 cases (uB t n ((l.getD j zA).Key)).2.2<;>simp
theorem GX(t:VA)(l:List pA):OD t l=(l.filter fun w=>(bC t w).2).map fun w=>(bC t w).1:=by
 unfold OD
 refine yD (fun k (p:List nB)=>p=((l.take k).filter fun w=>(bC t w).2).map fun w=>(bC t w).1) (fun(v:List nB)=>v=(l.filter fun w=>(bC t w).2).map fun w=>(bC t w).1) rfl (fun s h=>by rw[h,List.take_of_length_le oM]) ?_
 intro j s _ hj hs
 have hj':j<l.length:=by omega
 unfold kF
 dsimp only
 rw[List.take_succ_eq_append_getElem hj',List.filter_append,List.map_append,←hs,←yE (d:=zA) hj',List.filter_cons]
 cases (bC t (l.getD j zA)).2<;>simp
theorem pM{a b c:vA}(h1:eJ a b=true)(h2:eJ b c=true):eJ a c=true:=by
 unfold eJ at *
 rw[aM,decide_eq_true_eq]at *
 exact List.lt_trans h1 h2
theorem VK(a:vA):¬eJ a a=true:=by
 unfold eJ
 rw[aM,decide_eq_true_eq]
 exact List.lt_irrefl a
theorem oX{l:List pA}(h:KF l=true):l.Pairwise fun a b=>a.Key≠b.Key:=by
 have h1:=zM h
 rw[qK,Bool.and_eq_true,List.all_eq_true]at h1
 have h2:∀d i:Nat,i+d+1<l.length→eJ ((l.map (·.Key)).getD i wA) ((l.map (·.Key)).getD (i+d+1) wA)=true:=by
  have step:∀i:Nat,i+1<l.length→eJ ((l.map (·.Key)).getD i wA) ((l.map (·.Key)).getD (i+1) wA)=true:=fun i hi=>by
   have h3:=h1.1 (i+1) (List.mem_range.2 hi)
   rw[Bool.and_eq_true]at h3
   have h4:=h3.2
   have h24:l.length≤24:=by have:=of_decide_eq_true h1.2;omega
   unfold UK at h4
   rw[decide_eq_true oM,cond_true,JH oM,show(((i+1:Nat):Int)-1).toNat=i by omega]at h4
   exact h4
  intro d
  induction d with
  | zero=>exact step
  | succ d ih=>exact fun i hi=>pM (ih i oM) (step (i+d+1) oM)
 rw[List.pairwise_iff_getElem]
 intro i j hi hj hij e
 obtain⟨d,rfl⟩:∃d,j=i+d+1:=⟨j-i-1,by omega⟩
 have h3:=h2 d i hj
 rw[yE (by rw[List.length_map];exact hi),yE (by rw[List.length_map];exact hj),List.getElem_map,List.getElem_map,e]at h3
 exact VK _ h3
theorem jS{t:VA}{w:pA}(hg:AD t=true)(h:(bC t w).2=true):YG t (bC t w).1=true∧LA t (bC t w).1=w:=by
 have e:rN t w=bC t w:=by unfold rN;rw[hg,cond_true]
 have h1:=TS (t:=t) (w:=w) (by rw[e];exact h)
 rw[e]at h1
 unfold xP at h1
 cases hr:YG t (bC t w).1
 ·rw[hr]at h1;cases h1
 ·rw[hr]at h1
  exact⟨rfl,(Prod.mk.inj h1).1⟩
theorem nR(t:VA)(r:nB):(LA t r).Key=(t.Name++([47]:vA))++r.Vals.getD 0 wA:=rfl
theorem xQ(n:Int):(MG n).length≤2:=by
 unfold MG
 cases decide (n<0)
 ·exact Nat.le_succ 1
 ·show(([45]:vA)++FL _).length≤2
  rw[List.length_append,lS];exact Nat.le_refl 2
theorem IT(n:Int):QE (MG n):=by
 have:=xQ n
 unfold QE;omega
theorem Ib(rows:List pA)(k:vA):(eG rows k).Key=k:=by
 unfold eG
 refine yD (fun _ _=>True) (fun(v:aF)=>v.Key=k) trivial (fun _ _=>rfl) (fun j s _ _ _=>?_)
 unfold FH
 dsimp only
 cases ((rows.getD j zA).Key==k)
 ·trivial
 ·rfl
theorem QX{buf:List pA}{got:List aF}{k:vA}(h:(lC buf got k).2.2=false):(got.any fun g=>g.Key==k)=false:=by
 revert h
 unfold lC
 refine yD (fun _ _=>True) (fun(v:vA×Bool×Bool)=>v.2.2=false→(got.any fun g=>g.Key==k)=false) trivial (fun _ _=>?_) (fun j s _ _ _=>?_)
 ·refine yD (fun j _=>((got.take j).any fun g=>g.Key==k)=false) (fun(v:vA×Bool×Bool)=>v.2.2=false→(got.any fun g=>g.Key==k)=false) rfl (fun s hs _=>?_) (fun j s _ hj hs=>?_)
  ·rw[List.take_of_length_le oM]at hs;exact hs
  ·have hj':j<got.length:=by omega
   unfold eH
   dsimp only
   cases h1:((got.getD j GH).Key==k)
   ·show((got.take (j+1)).any fun g=>g.Key==k)=false
    have hs:((got.take j).any fun g=>g.Key==k)=false:=hs
    rw[List.take_succ_eq_append_getElem hj',List.any_append,hs,←yE (d:=GH) hj',List.any_cons,h1];rfl
   ·exact fun h=>by cases h
 ·unfold uG
  cases ((buf.getD j zA).Key==k)
  ·trivial
  ·exact fun h=>by cases h
theorem yZ{l:List rE}{got:List aF}(h:(MD l got).1=1):∃o∈l,(MD l got).2.1=o.Key∧(got.any fun g=>g.Key==o.Key)=false:=by
 revert h
 unfold MD
 refine yD (fun _ _=>True) (fun(v:Int×vA×List pA)=>v.1=1→∃o∈l,v.2.1=o.Key∧(got.any fun g=>g.Key==o.Key)=false) trivial (fun _ _ h=>?_) (fun j s _ hj _=>?_)
 ·cases h
 ·have hm:l.getD j EC∈l:=JG (d:=EC) oM
  unfold gD
  dsimp only
  cases hk:(lC s got (l.getD j EC).Key).2.2
  ·have hn:=QX hk
   cases decide ((l.getD j EC).Kind=2)
   ·cases decide ((l.getD j EC).Kind=3)
    ·exact fun _=>⟨_,hm,rfl,hn⟩
    ·cases mE (l.getD j EC) ((lC s got (l.getD j EC).Key).1) ((lC s got (l.getD j EC).Key).2.1)
     ·trivial
     ·exact fun h=>by cases h
   ·cases mE (l.getD j EC) ((lC s got (l.getD j EC).Key).1) ((lC s got (l.getD j EC).Key).2.1)
    ·trivial
    ·exact fun h=>by cases h
  ·cases mE (l.getD j EC) ((lC s got (l.getD j EC).Key).1) ((lC s got (l.getD j EC).Key).2.1)
   ·cases decide ((l.getD j EC).Kind=2)
    ·cases decide ((l.getD j EC).Kind=3)
     ·cases decide ((l.getD j EC).Kind=4)
      ·trivial
      ·cases (lC s got (l.getD j EC).Key).2.1<;>trivial
     ·trivial
    ·trivial
   ·exact fun h=>by cases h
theorem rO{α:Type}{p q:α→Bool}(hpq:∀x,q x=true→p x=true):∀{l:List α},(∃x∈l,p x=true∧q x=false)→(l.filter q).length<(l.filter p).length
 | [],h=>by obtain⟨x,hx,_⟩:=h;cases hx
 | y::l,h=>by
  have hle:∀l:List α,(l.filter q).length≤(l.filter p).length:=fun l=>by
   induction l with
   | nil=>exact Nat.le_refl _
   | cons y l ih=>cases hq:q y<;>cases hp:p y<;>simp[hq,hp]<;>first | omega | (have:=hpq y hq;rw[hp]at this;cases this)
  obtain⟨x,hx,h1,h2⟩:=h
  rcases List.mem_cons.1 hx with rfl | hx
  ·have:=hle l;simp[h1,h2];omega
  ·have ih:=rO hpq ⟨x,hx,h1,h2⟩
   cases hq:q y<;>cases hp:p y<;>simp[hq,hp]<;>first | omega | (have:=hpq y hq;rw[hp]at this;cases this)
theorem zR{rows:List pA}{l:List rE}{got:List aF}(h:(MD l got).1=1):(l.filter fun o=>!((got++([(eG rows ((MD l got).2.1))]:List aF)).any fun g=>g.Key==o.Key)).length<(l.filter fun o=>!(got.any fun g=>g.Key==o.Key)).length:=by
 obtain⟨o,ho,hk,hn⟩:=yZ h
 refine rO (fun x hx=>?_) ⟨o,ho,by rw[hn];rfl,?_⟩
 ·rw[List.any_append,Bool.not_or,Bool.and_eq_true]at hx;exact hx.1
 ·rw[List.any_append,hk]
  simp[Ib]
theorem UZ(l:List rE):([]:List aF).length+(l.filter fun o=>!(([]:List aF).any fun g=>g.Key==o.Key)).length≤l.length:=by
 rw[List.length_nil,Nat.zero_add];exact List.length_filter_le _ _
theorem NN{l:List pA}(h:fD l=true):l.length≤24:=by
 rw[vI]at h
 exact(IN (zM h)).1
theorem Bd{rows:List pA}{f:List rE}{got:List aF}{x:List pA}{d:Bool}(hr:fD rows=true)(hf:sI f=true)(ha:bD rows f=(got,x,d)):UC rows [f]=bif d&&fD (SC rows x)then(SC rows x,[true],true)else(rows,[false],true):=by
 unfold UC
 rw[hr,cond_true]
 have b0:jF rows [f] 0 ()=.cont ():=by
  unfold jF
  show(bif sI f then _ else _)=_
  rw[hf];rfl
 have e0:UA (jF rows [f]) (([f]:List (List rE)).length-0) 0 ()=.done ():=by
  show UA (jF rows [f]) 1 0 ()=_
  simp only[UA,b0]
 have b1:VE rows [f] 0 (rows,[])=.cont (bif d&&fD (SC rows x)then(SC rows x,[true])else(rows,[false])):=by
  unfold VE
  show(bif(bD rows f).2.2 then bif fD (SC rows (bD rows f).2.1)then _ else _ else _)=_
  rw[ha]
  cases d
  ·rfl
  ·cases h:fD (SC rows x)
   ·simp only[cond_true,cond_false,Bool.true_and,h]
    show aI.cont (rows,[]++[fD (SC rows (bD rows f).2.1)])=_
    rw[ha];simp only[h];rfl
   ·simp only[cond_true,cond_false,Bool.true_and,h]
    show aI.cont (SC rows (bD rows f).2.1,[]++[fD (SC rows (bD rows f).2.1)])=_
    rw[ha];simp only[h];rfl
 have e1:UA (VE rows [f]) (([f]:List (List rE)).length-0) 0 ((([]:List pA)++rows),([]:List Bool))=.done (bif d&&fD (SC rows x)then(SC rows x,[true])else(rows,[false])):=by
  show UA (VE rows [f]) 1 0 (rows,[])=_
  simp only[UA,b1]
 rw[e0,e1]
 cases d&&fD (SC rows x)<;>rfl
theorem tN{s:vA}(h:UD s=true):∀b∈s,∀more:vA,fL more b=true:=by
 unfold UD at h
 obtain⟨_,h2⟩:=rD h
 rw[TK,List.all_eq_true]at h2
 intro b hb more
 have:=h2 b hb
 unfold fL at this ⊢
 rw[Bool.or_eq_true]at this ⊢
 rcases this with h | h
 ·exact Or.inl h
 ·cases h
theorem LN{s:vA}{m:Int}(h:rC s m=true):∀b∈s,fL ([46,47]:vA) b=true:=by
 rw[fN,Bool.and_eq_true,Bool.and_eq_true,List.all_eq_true]at h
 intro b hb
 have h1:=h.1.1 b hb
 unfold aS at h1
 rw[Bool.and_eq_true,Bool.not_eq_true',Bool.not_eq_true',decide_eq_false_iff_not,decide_eq_false_iff_not]at h1
 unfold fL lE
 rw[decide_eq_true (show(97:Int)≤(b.toNat:Int)by omega),decide_eq_true (show(b.toNat:Int)≤122 by omega)];rfl
theorem bW{t:VA}{n:vA}(h:qI t n=true):rC t.Name 1=true∧rC n 1=true:=by
 have h2:=fQ (tT t n▸h)
 obtain⟨h3,h4⟩:=(KN t n).1 h
 have h5:=rK t n
 rw[nU]at h2
 rw[mL]at h3
 simp only[Bool.and_eq_true,List.all_eq_true,List.mem_range]at h3
 have h6:=h3.2 (JE t n).toNat oM
 unfold RR at h6
 simp only[Bool.and_eq_true]at h6
 have h7:=h6.1.1.1
 rw[h2.2]at h7
 exact⟨h3.1.1.1,h7⟩
theorem VR{s:vA}(h1:1≤s.length)(h2:s.length≤12)(h:∀b∈s,fL ([46,47]:vA) b=true):IF s=true:=by
 unfold IF xE
 rw[decide_eq_true oM,cond_true,decide_eq_true oM,cond_true,TK,List.all_eq_true];exact h
theorem fW{s:vA}(h2:s.length≤24)(h:∀b∈s,fL ([46,45,44,95]:vA) b=true):kG s=true:=by
 unfold kG
 rw[decide_eq_true oM,cond_true,TK,List.all_eq_true];exact h
theorem uO:∀(xs:List vA),∀b∈([44]:vA).intercalate xs,b=44∨∃x∈xs,b∈x
 | [],b,h=>by simp[List.intercalate]at h
 | [x],b,h=>by rw[mM]at h;exact Or.inr ⟨x,by simp,h⟩
 | x::y::zs,b,h=>by
  rw[pK]at h
  rcases List.mem_append.1 h with h | h
  ·exact Or.inr ⟨x,by simp,h⟩
  ·rcases List.mem_append.1 h with h | h
   ·exact Or.inl (List.mem_singleton.1 h)
   ·rcases uO (y::zs) b h with h | ⟨z,hz,h⟩
    ·exact Or.inl h
    ·exact Or.inr ⟨z,List.mem_cons_of_mem _ hz,h⟩
theorem kX{t:VA}{r:nB}(h:YG t r=true){k:Nat}(hk:k<r.Vals.length):UD (r.Vals.getD k wA)=true:=(NL h).2.2.1 _ (JG hk)
theorem pZ{t:VA}{r:nB}{n:vA}(h:YG t r=true)(hi:qI t n=true):IF (LA t r).Key=true∧kG (LA t r).Val=true∧IF (cB t n r)=true:=by
 obtain⟨hg,hr,hf,hl,hc⟩:=NL h
 obtain⟨hn1,hn2⟩:=bW hi
 have ln1:=PL hn1
 have ln2:=PL hn2
 have hcol:=(Ma h hi).1
 have f0:=kX h (k:=0) oM
 have f1:=kX h (k:=((vC t n).Col).toNat) oM
 have l0:=uL f0
 have l1:=uL f1
 have hc4:=(mK.of hg).cols
 refine⟨?_,?_,?_⟩
 ·rw[nR]
  refine VR (by simp only[lN];omega) (by simp only[lN];omega) fun b hb=>?_
  simp only[List.mem_append,List.mem_singleton]at hb
  rcases hb with(hb | hb) | hb
  ·exact LN hn1 b hb
  ·rw[hb];decide
  ·exact tN f0 b hb _
 ·show kG (xD (r.Vals.drop 1) ([44]:vA))=true
  unfold xD
  have hs:∀x∈r.Vals.drop 1,UD x=true:=fun x hx=>hf x (List.mem_of_mem_drop hx)
  have h1:=wL (r.Vals.drop 1) fun x hx=>by have:=uL (hs x hx);omega
  rw[List.length_drop]at h1
  refine fW oM fun b hb=>?_
  rcases uO _ b hb with hb | ⟨x,hx,hb⟩
  ·rw[hb];decide
  ·exact tN (hs x hx) b hb _
 ·unfold cB VC
  refine VR (by simp only[lN];omega) (by simp only[lN];omega) fun b hb=>?_
  simp only[List.mem_append,List.mem_singleton]at hb
  rcases hb with(((((hb | hb) | hb) | hb) | hb) | hb) | hb
  ·exact LN hn1 b hb
  ·rw[hb];decide
  ·exact LN hn2 b hb
  ·rw[hb];decide
  ·exact tN f1 b hb _
  ·rw[hb];decide
  ·exact tN f0 b hb _
theorem Ba(l:List rE)(h:l.all XE=true)(hl:l.length≤8):sI l=true:=by
 unfold sI
 rw[NW EC XE (r:=false) fun k=>rfl,h,cond_true,decide_eq_true oM]
theorem Ud{k v:vA}(hk:IF k=true)(hv:kG v=true):XE ⟨7,k,v,0⟩=true:=by
 unfold XE
 show(bif IF k then bif kG v then true else false else _)=true
 rw[hk,hv];rfl
theorem xX{k v:vA}(hk:IF k=true)(hv:kG v=true):XE ⟨2,k,v,0⟩=true:=by
 unfold XE
 show(bif IF k then bif kG v then true else false else _)=true
 rw[hk,hv];rfl
theorem tY{k:vA}(hk:IF k=true):XE ⟨3,k,[],0⟩=true:=by
 unfold XE
 dsimp only
 rw[hk];rfl
theorem Ed:kG ([]:vA)=true:=rfl
def lJ(l:List nB):Prop:=∀y∈l,y.Vals.length=2
theorem lJ.nil:lJ []:=fun _ h=>by cases h
theorem lJ.app{l:List nB}{r:nB}(h:lJ l)(hr:r.Vals.length=2):lJ (l++[r]):=fun y hy=>by
 rcases List.mem_append.1 hy with hy | hy
 ·exact h y hy
 ·rw[List.mem_singleton.1 hy];exact hr
theorem lJ.set{l:List nB}{r:nB}(h:lJ l)(hr:r.Vals.length=2)(i:Nat):lJ (l.set i r):=fun y hy=>by
 rcases List.mem_or_eq_of_mem_set hy with hy | hy
 ·exact h y hy
 ·rw[hy];exact hr
theorem lJ.at{l:List nB}(h:lJ l){i:Nat}(hi:i<l.length):(l.getD i XC).Vals.length=2:=h _ (by rw[yE hi];exact List.getElem_mem hi)
theorem Qa{l:List nB}{a:nB}{i:Nat}(ha:a.Vals.length=2)(h:lJ l)(hi:i<l.length):0≤(1:Int)∧(1:Int)<(a.Vals.length:Int)∧(1:Int)<((l.getD i XC).Vals.length:Int):=by
 have:=h.at hi
 omega
theorem wQ(xs:List nB)(f:nB→Bool):TD xs f<(xs.length:Int):=by
 rw[YO]
 rcases lM f XC xs with⟨h,_⟩ | ⟨k,hk,h,_⟩<;>rw[h]<;>omega
theorem gZ{l:List RE}(h:jG uN l):jG uN (TB l):=by
 unfold TB
 exact⟨by rw[List.length_mergeSort];exact h.1,fun x hx=>h.2 x (List.mem_mergeSort.1 hx)⟩
theorem AT(l:List RE):(TB l).length=l.length:=List.length_mergeSort _
theorem iR{t:VA}{s:iD}(h:SG t s=true):s.Kind=3→0≤JE t s.Idx∧JE t s.Idx<(t.Idxs.length:Int):=fun hk=>by
 unfold SG at h
 obtain⟨_,h2⟩:=rD h
 unfold nD at h2
 rw[decide_eq_false oM,cond_false,decide_eq_false oM,cond_false,decide_eq_true hk,cond_true]at h2
 obtain⟨_,h2⟩:=rD h2
 obtain⟨h3,_⟩:=rD h2
 exact⟨of_decide_eq_true h3,(rK t s.Idx).2⟩
theorem hY{t:VA}{s:iD}(h:SG t s=true)(hk:s.Kind=3):qI t s.Idx=true:=by
 rw[KN]
 refine⟨?_,(iR h hk).1⟩
 unfold SG at h
 exact(rD h).1
theorem SZ{t:VA}{s:iD}(h:EI t s=true):s.Kind=3→(0≤xC t s.Idx∧xC t s.Idx<(t.Idxs.length:Int))∧t.Name.length≤1∧s.Idx.length≤1:=fun hk=>by
 have h1:=MR (hY (nJ t s▸h) hk)
 have h2:=iR (nJ t s▸h) hk
 rw[zJ]
 omega
theorem EO{l:List pA}(h:fD l=true):l.length≤24:=by
 have h1:=zM (vI l▸h)
 rw[qK,Bool.and_eq_true]at h1
 have:=of_decide_eq_true h1.2;omega
theorem uP(t:VA)(n:vA)(l:List pA):(tB t n l).length≤l.length:=by
 unfold tB
 refine yD (fun k (p:List vA)=>p.length≤k) (fun(v:List vA)=>v.length≤l.length) (Nat.le_refl _) (fun s hs=>by omega) ?_
 intro j x _ _ h1
 unfold QF
 dsimp only
 cases (tC t n (l.getD j zA).Key).2.2
 ·exact Nat.le_succ_of_le h1
 ·show List.length (_++_)≤_
  rw[List.length_append,List.length_singleton];omega
theorem SR(t:VA)(l:List pA)(k:vA):(dE t l k).length≤l.length:=by
 refine Nat.le_trans ?_ (wN t l).1
 unfold dE
 refine yD (fun k (p:List nB)=>p.length≤k) (fun(v:List nB)=>v.length≤(PC t l).length) (Nat.le_refl _) (fun s hs=>by omega) ?_
 intro j x _ _ h1
 unfold tG
 dsimp only
 cases (((PC t l).getD j XC).Vals.getD 0 wA)==k
 ·exact Nat.le_succ_of_le h1
 ·show List.length (_++_)≤_
  rw[List.length_append,List.length_singleton];omega
theorem wT{t:VA}{l:List pA}{k:vA}{y:nB}(h:y∈dE t l k):y∈PC t l:=by
 revert h
 suffices h:∀y∈dE t l k,y∈PC t l from h y
 unfold dE
 refine yD (fun k (p:List nB)=>∀y∈p,y∈PC t l) (fun(v:List nB)=>∀y∈v,y∈PC t l) (fun _ h=>by cases h) (fun s hs=>hs) ?_
 intro j x _ hj h1
 unfold tG
 dsimp only
 cases (((PC t l).getD j XC).Vals.getD 0 wA)==k
 ·exact h1
 ·intro y hy
  rcases List.mem_append.1 hy with hy | hy
  ·exact h1 y hy
  ·rw[List.mem_singleton.1 hy,yE oM];exact List.getElem_mem _
theorem Db{t:VA}(hg:FB t=true){l:List pA}{k:Nat}(hk:k<(PC t l).length):2≤((PC t l).getD k XC).Vals.length:=by
 have h1:=Cb t l hk
 have h2:=(mK.of hg).cols
 omega
theorem IX{t:VA}(hg:FB t=true){l:List pA}{y:nB}(h:y∈OD t l):0<y.Vals.length:=by
 have h1:=(sJ (HX hg h)).1
 have h2:=(mK.of hg).cols
 omega
theorem vL{t:VA}{s:iD}(h:SG t s=true):FB t=true:=by
 unfold SG at h
 exact(rD h).1
theorem QR{t:VA}{s:iD}(h:EI t s=true):FB t=true:=vL (nJ t s▸h)

def eR(y:nB):RE:=⟨y.Vals.getD 1 wA,y.Vals.getD 0 wA⟩
def LM(t:VA)(n:vA)(e:vA):nB:=⟨([(tC t n e).2.1,(tC t n e).1]:List vA)⟩
theorem pR{α:Type}(l m:List α)(q r:α){k:Nat}(hk:k=l.length):(l++q::m).set k r=l++r::m:=by
 subst hk
 rw[List.set_append_right _ _ (Nat.le_refl _),Nat.sub_self];rfl
theorem wW(t:VA)(n:vA)(st:List pA)(k:Nat)(l:List nB)(hl:l.length≤1000000):∃i,i≤l.length∧dH t n st k l=.cont (l.take i++LM t n ((tB t n st).getD k wA)::l.drop i)∧(∀y∈l.drop i,TF (LM t n ((tB t n st).getD k wA)) y 1=true)∧(0<i→TF (LM t n ((tB t n st).getD k wA)) (l.getD (i-1) XC) 1=false):=by
 unfold dH
 refine nM (body:=SF t n st k l) (fd:=fun p=>aI.cont (p.2.set p.1.toNat (LM t n ((tB t n st).getD k wA)))) (fun(p:Int×List nB)=>0≤p.1∧p.1≤(l.length:Int)∧(∃q,p.2=l.take p.1.toNat++q::l.drop p.1.toNat)∧∀y∈l.drop p.1.toNat,TF (LM t n ((tB t n st).getD k wA)) y 1=true) (fun p=>p.1.toNat) (fun v=>∃i,i≤l.length∧v=.cont (l.take i++(LM t n ((tB t n st).getD k wA))::l.drop i)∧(∀y∈l.drop i,TF (LM t n ((tB t n st).getD k wA)) y 1=true)∧(0<i→TF (LM t n ((tB t n st).getD k wA)) (l.getD (i-1) XC) 1=false)) ?_ ((l.length:Int).toNat+1) ((l.length:Int),l++[(LM t n ((tB t n st).getD k wA))]) ⟨(by show 0≤(l.length:Int);omega),(by show(l.length:Int)≤(l.length:Int);omega),⟨(LM t n ((tB t n st).getD k wA)),?_⟩,?_⟩ (by show(l.length:Int).toNat<(l.length:Int).toNat+1;omega)
 ·rintro⟨a,x⟩ ⟨h0,h1,⟨q,hq⟩,h3⟩
  dsimp only at h0 h1 hq h3
  have stop:TF (LM t n ((tB t n st).getD k wA)) (l.getD (a.toNat-1) XC) 1=false∨a=0→∃i,i≤l.length∧(aI.cont (x.set a.toNat (LM t n ((tB t n st).getD k wA))):aI (List nB) (List nB))=.cont (l.take i++(LM t n ((tB t n st).getD k wA))::l.drop i)∧(∀y∈l.drop i,TF (LM t n ((tB t n st).getD k wA)) y 1=true)∧(0<i→TF (LM t n ((tB t n st).getD k wA)) (l.getD (i-1) XC) 1=false):=fun h=>by
   refine⟨a.toNat,oM,?_,h3,fun hp=>h.resolve_right oM⟩
   rw[hq,pR _ _ _ _ (by rw[List.length_take];omega)]
  unfold SF
  dsimp only
  cases hp:decide (0<a)
  ·exact stop (.inr (by have:=of_decide_eq_false hp;omega))
  ·have hp:=of_decide_eq_true hp
   have hlt:a.toNat-1<l.length:=by omega
   have hg:x.getD (IntKind.wrap .i64 (a-1)).toNat XC=l.getD (a.toNat-1) XC:=by
    rw[JH oM,show(a-1).toNat=a.toNat-1 by omega,hq,List.getD_eq_getElem?_getD,List.getElem?_append_left (by rw[List.length_take];omega),List.getElem?_take_of_lt oM,←List.getD_eq_getElem?_getD]
   rw[hg]
   simp only[cond_true]
   show aI.sat _ _ _ (bif TF (LM t n ((tB t n st).getD k wA)) (l.getD (a.toNat-1) XC) 1 then _ else _)
   cases hs:TF (LM t n ((tB t n st).getD k wA)) (l.getD (a.toNat-1) XC) 1
   ·exact stop (.inl hs)
   ·have e1:(IntKind.wrap .i64 (a-1)).toNat=a.toNat-1:=by rw[JH oM];omega
    have e2:IntKind.wrap .i64 (a-1)=a-1:=JH oM
    have e3:l.drop (a.toNat-1)=l.getD (a.toNat-1) XC::l.drop a.toNat:=by
     rw[yE hlt,List.drop_eq_getElem_cons hlt,show a.toNat-1+1=a.toNat by omega]
    refine⟨⟨?_,?_,⟨l.getD (a.toNat-1) XC,?_⟩,?_⟩,?_⟩
    ·dsimp only;rw[e2];omega
    ·dsimp only;rw[e2];omega
    ·dsimp only
     rw[e1,e3,hq,pR _ _ _ _ (by rw[List.length_take];omega)]
     have e4:l.take a.toNat=l.take (a.toNat-1)++[l.getD (a.toNat-1) XC]:=by
      rw[yE hlt,←List.take_succ_eq_append_getElem hlt,show a.toNat-1+1=a.toNat by omega]
     rw[e4,List.append_assoc];rfl
    ·dsimp only
     rw[e1,e3]
     intro y hy
     rcases List.mem_cons.1 hy with rfl | hy
     ·exact hs
     ·exact h3 y hy
    ·dsimp only;rw[e1];omega
 ·dsimp only
  rw[show(l.length:Int).toNat=l.length by omega,List.take_length,List.drop_length]
 ·intro y hy
  dsimp only at hy
  rw[show(l.length:Int).toNat=l.length by omega,List.drop_length]at hy
  cases hy
theorem vQ(t:VA)(n:vA)(st:List pA)(P:Nat→List nB→Prop)(h0:P 0 [])(hs:∀k l i,k<(tB t n st).length→l.length=k→P k l→i≤l.length→(∀y∈l.drop i,TF (LM t n ((tB t n st).getD k wA)) y 1=true)→(0<i→TF (LM t n ((tB t n st).getD k wA)) (l.getD (i-1) XC) 1=false)→P (k+1) (l.take i++LM t n ((tB t n st).getD k wA)::l.drop i))(hl:(tB t n st).length≤1000000):P (tB t n st).length (SB t n st)∧(SB t n st).length=(tB t n st).length:=by
 unfold SB
 refine yD (fun k (p:List nB)=>P k p∧p.length=k) (fun(v:List nB)=>P (tB t n st).length v∧v.length=(tB t n st).length) ⟨h0,rfl⟩ (fun s hs=>by
  have e:0+((tB t n st).length-0)=(tB t n st).length:=by omega
  rw[e]at hs;exact hs) ?_
 intro j x _ hj ⟨h1,h2⟩
 obtain⟨i,hi,he,hd,hg⟩:=wW t n st j x oM
 rw[he]
 exact⟨hs j x i oM h2 h1 hi hd hg,by rw[List.length_append,List.length_cons,List.length_take,List.length_drop];omega⟩
theorem iX(t:VA)(n:vA){l:List pA}(h:l.length≤24):(tB t n l).length≤1000000:=by
 have:=uP t n l;omega
theorem mZ(t:VA)(n:vA){l:List pA}(h:l.length≤24):lJ (SB t n l):=by
 refine(vQ t n l (fun _ x=>lJ x) lJ.nil (fun k x i _ _ hx _ _ _ y hy=>?_) (iX t n h)).1
 rcases List.mem_append.1 hy with hy | hy
 ·exact hx y (List.mem_of_mem_take hy)
 ·rcases List.mem_cons.1 hy with rfl | hy
  ·rfl
  ·exact hx y (List.mem_of_mem_drop hy)
theorem vW(t:VA)(n:vA)(l:List pA)(h:l.length≤24):(SB t n l).length≤l.length:=by
 have h1:=(vQ t n l (fun _ _=>True) trivial (fun _ _ _ _ _ _ _ _ _=>trivial) (iX t n h)).2
 have:=uP t n l;omega
def TQ(a b:RE):Bool:=if a.val=b.val then eJ a.primary b.primary else eJ a.val b.val
theorem GU{a b:vA}(h1:eJ a b=false)(h2:eJ b a=false):a=b:=by
 have h3:iN a b=true:=by rw[oR,h2];rfl
 unfold iN at h3
 rw[h1,Bool.false_or]at h3
 exact eq_of_beq h3
theorem QW(x y:vA):decide (cS x y<0)=eJ x y:=by
 unfold cS
 cases eJ x y
 ·cases iN x y<;>rfl
 ·rfl
theorem jY(x y:vA):decide (cS x y=0)=decide (x=y):=by
 by_cases h:x=y
 ·subst h
  rw[decide_eq_true rfl]
  unfold cS
  have h1:eJ x x=false:=by cases h:eJ x x;rfl;exact absurd h (VK x)
  have h2:iN x x=true:=by unfold iN;rw[beq_self_eq_true,Bool.or_true]
  rw[h1,h2];rfl
 ·rw[decide_eq_false h]
  unfold cS
  cases h1:eJ x y
  ·cases h2:iN x y
   ·rfl
   ·unfold iN at h2
    rw[h1,Bool.false_or]at h2
    exact absurd (eq_of_beq h2) h
  ·rfl
theorem qL(x y:RE):decide (cE x y<0)=TQ x y:=by
 unfold cE TQ
 rw[jY]
 by_cases h:x.val=y.val
 ·rw[decide_eq_true h,cond_true,if_pos h,QW]
 ·rw[decide_eq_false h,cond_false,if_neg h,QW]
theorem zY(a:vA):eJ a a=false:=by cases h:eJ a a;rfl;exact absurd h (VK a)
theorem zW{a b:vA}(h:eJ a b=true):eJ b a=false:=by
 cases h2:eJ b a
 ·rfl
 ·exact absurd (pM h h2) (VK _)
theorem pY(a:RE):TQ a a=false:=by unfold TQ;rw[if_pos rfl];exact zY _
theorem tX{a b c:RE}(h1:TQ a b=true)(h2:TQ b c=true):TQ a c=true:=by
 unfold TQ at *
 by_cases e1:a.val=b.val
 ·by_cases e2:b.val=c.val
  ·rw[if_pos e1]at h1;rw[if_pos e2]at h2;rw[if_pos (e1.trans e2)];exact pM h1 h2
  ·rw[if_neg e2]at h2;rw[if_neg (fun e=>e2 (e1.symm.trans e)),e1];exact h2
 ·by_cases e2:b.val=c.val
  ·rw[if_neg e1]at h1;rw[if_neg (fun e=>e1 (e.trans e2.symm)),←e2];exact h1
  ·rw[if_neg e1]at h1;rw[if_neg e2]at h2
   have h3:=pM h1 h2
   rw[if_neg (fun e=>by rw[e]at h3;exact VK _ h3)];exact h3
theorem wU{a b:RE}(h1:TQ a b=false)(h2:TQ b a=false):a=b:=by
 unfold TQ at *
 have hv:a.val=b.val:=by
  by_cases e:a.val=b.val
  ·exact e
  ·rw[if_neg e]at h1;rw[if_neg (Ne.symm e)]at h2;exact GU h1 h2
 rw[if_pos hv]at h1
 rw[if_pos hv.symm]at h2
 have hp:=GU h1 h2
 cases a;cases b
 simp only at hv hp
 subst hv;subst hp;rfl
theorem mW{a b:RE}(h:TQ a b=true):TQ b a=false:=by
 cases h2:TQ b a
 ·rfl
 ·have:=tX h h2;rw[pY]at this;cases this
theorem vU{a b c:RE}(h1:TQ a b=false)(h2:TQ b c=false):TQ a c=false:=by
 cases h3:TQ a c
 ·rfl
 ·cases h4:TQ b a
  ·have:=wU h1 h4;subst this;rw[h3]at h2;cases h2
  ·have:=tX h4 h3;rw[h2]at this;cases this
theorem lW(a b:nB):TF a b 1=TQ (eR a) (eR b):=by
 unfold TF TQ eR
 show(bif a.Vals.getD 1 wA==b.Vals.getD 1 wA then eJ (a.Vals.getD 0 wA) (b.Vals.getD 0 wA)else eJ (a.Vals.getD 1 wA) (b.Vals.getD 1 wA))=_
 dsimp only
 by_cases h:a.Vals.getD 1 wA=b.Vals.getD 1 wA
 ·rw[if_pos h,h,beq_self_eq_true,cond_true]
 ·rw[if_neg h,show(a.Vals.getD 1 wA==b.Vals.getD 1 wA)=false from beq_eq_false_iff_ne.2 h,cond_false]
def Cc(l:List RE):Prop:=l.Pairwise fun a b=>TQ b a=false
theorem OX{l:List RE}{r:RE}{i:Nat}(h:Cc l)(hi:i≤l.length)(hd:∀y∈l.drop i,TQ r y=true)(hg:0<i→∀y,l[i-1]? = some y→TQ r y=false):Cc (l.take i++r::l.drop i):=by
 have h0:=h
 unfold Cc at h ⊢
 rw[←List.take_append_drop i l,List.pairwise_append]at h
 obtain⟨h1,h2,h3⟩:=h
 rw[List.pairwise_append,List.pairwise_cons]
 refine⟨h1,⟨fun y hy=>mW (hd y hy),h2⟩,fun a ha b hb=>?_⟩
 rcases List.mem_cons.1 hb with rfl | hb
 ·obtain⟨j,hj,rfl⟩:=List.mem_iff_getElem.1 ha
  rw[List.length_take]at hj
  rw[List.getElem_take]
  have hl:i-1<l.length:=by omega
  have hlast:=hg oM l[i-1] (List.getElem?_eq_getElem hl)
  rcases Nat.lt_or_ge j (i-1)with hlt | hge
  ·exact vU hlast (List.pairwise_iff_getElem.1 h0 j (i-1) oM hl hlt)
  ·obtain rfl:j=i-1:=by omega
   exact hlast
 ·exact h3 a ha b hb
def Jb(t:VA)(n:vA)(e:vA):RE:=⟨(tC t n e).1,(tC t n e).2.1⟩
theorem AU(t:VA)(n:vA){l:List pA}(h:l.length≤24):((SB t n l).map eR).Perm ((tB t n l).map (Jb t n))∧Cc ((SB t n l).map eR):=by
 have h1:=(vQ t n l (fun k x=>(x.map eR).Perm (((tB t n l).take k).map (Jb t n))∧Cc (x.map eR)) ⟨List.Perm.refl _,List.Pairwise.nil⟩ (fun k x i hk hxl ⟨hp,hs⟩ hi hd hg=>?_) (iX t n h)).1
 ·rw[List.take_length]at h1;exact h1
 have er:eR (LM t n ((tB t n l).getD k wA))=Jb t n ((tB t n l).getD k wA):=rfl
 have e:(x.take i++LM t n ((tB t n l).getD k wA)::x.drop i).map eR=(x.map eR).take i++Jb t n ((tB t n l).getD k wA)::(x.map eR).drop i:=by
  rw[List.map_append,List.map_cons,er,List.map_take,List.map_drop]
 rw[e]
 refine⟨?_,OX hs (by rw[List.length_map];exact hi) (fun y hy=>?_) (fun h0 y hy=>?_)⟩
 ·rw[List.take_succ_eq_append_getElem hk,List.map_append,←yE (d:=wA) hk]
  refine List.perm_middle.trans ?_
  rw[List.take_append_drop]
  exact(List.perm_append_singleton _ _).symm.trans (List.Perm.append_right _ hp) |> fun q=>q
 ·rw[←List.map_drop]at hy
  obtain⟨z,hz,rfl⟩:=List.mem_map.1 hy
  have:=hd z hz
  rw[lW,er]at this
  exact this
 ·have hl:i-1<x.length:=by omega
  rw[List.getElem?_map,List.getElem?_eq_getElem hl,Option.map_some,Option.some.injEq]at hy
  subst hy
  have:=hg h0
  rw[lW,er,yE hl]at this
  exact this
theorem PX{a b:List RE}(hp:a.Perm b)(ha:Cc a)(hb:Cc b):a=b:=
 hp.eq_of_pairwise (le:=fun x y=>TQ y x=false) (fun x y _ _ h1 h2=>(wU h1 h2).symm) ha hb
theorem tZ(l:List RE):Cc (TB l):=by
 unfold Cc TB
 have h:=List.pairwise_mergeSort (le:=fun x y=>!decide (cE y x<0)) (fun a b c h1 h2=>by
  rw[qL,Bool.not_eq_true']at *
  exact vU h2 h1) (fun a b=>by
  rw[qL,qL]
  cases h1:TQ b a
  ·rfl
  ·rw[mW h1];rfl) l
 refine h.imp fun{a b} h=>?_
 rw[qL,Bool.not_eq_true']at h
 exact h
theorem LX(l:List RE):(TB l).Perm l:=List.mergeSort_perm _ _
def Ha(s:iD)(e:RE):Bool:=!(eJ e.val s.Low)&&iN e.val s.High
theorem US(t:VA)(n:vA)(s:iD){l:List pA}(h:l.length≤24):TB (((tB t n l).map (Jb t n)).filter (Ha s))=((SB t n l).map eR).filter (Ha s):=by
 obtain⟨h1,h2⟩:=AU t n h
 exact PX ((LX _).trans (h1.symm.filter _)) (tZ _) (List.Pairwise.filter _ h2)
theorem NR{α:Type}{q:α→Bool}:∀{xs:List α}{i:Nat}(hi:i<xs.length),q xs[i]=true→(∀j (hj:j<xs.length),j≠i→q xs[j]=false)→xs.filter q=[xs[i]]
 | x::xs,0,hi,h,ho=>by
  have h2:xs.filter q=[]:=List.filter_eq_nil_iff.2 fun y hy=>by
   obtain⟨j,hj,rfl⟩:=List.mem_iff_getElem.1 hy
   have:=ho (j+1) (by rw[List.length_cons];omega) oM
   rw[List.getElem_cons_succ]at this
   rw[this];exact Bool.false_ne_true
  rw[List.getElem_cons_zero]at h ⊢
  rw[List.filter_cons,if_pos h,h2]
 | x::xs,i+1,hi,h,ho=>by
  have h1:=ho 0 (by rw[List.length_cons];omega) oM
  rw[List.getElem_cons_zero]at h1
  rw[List.filter_cons,h1,if_neg Bool.false_ne_true]
  rw[List.getElem_cons_succ]at h ⊢
  exact NR (by rw[List.length_cons]at hi;omega) h fun j hj hne=>by
   have:=ho (j+1) (by rw[List.length_cons];omega) oM
   rw[List.getElem_cons_succ]at this;exact this
theorem rU(t:VA)(l:List pA)(k:vA):dE t l k=(PC t l).filter fun r=>r.Vals.getD 0 wA==k:=by
 unfold dE
 refine yD (fun j (p:List nB)=>p=((PC t l).take j).filter fun r=>r.Vals.getD 0 wA==k) (fun(v:List nB)=>v=(PC t l).filter fun r=>r.Vals.getD 0 wA==k) rfl (fun s h=>by rw[h,List.take_of_length_le oM]) ?_
 intro j s _ hj hs
 have hj':j<(PC t l).length:=by omega
 unfold tG
 dsimp only
 rw[List.take_succ_eq_append_getElem hj',List.filter_append,←hs,←yE (d:=XC) hj',List.filter_cons]
 cases (((PC t l).getD j XC).Vals.getD 0 wA==k)<;>simp
theorem JX{t:VA}{l:List pA}(hg:FB t=true)(hr:KF l=true):(PC t l).Pairwise fun a b=>a.Vals.getD 0 wA≠b.Vals.getD 0 wA:=by
 have hg':AD t=true:=by rw[oF];exact hg
 rw[←yQ hg,GX,List.pairwise_map,List.pairwise_filter]
 refine(oX hr).imp fun{a b} hab ha hb e=>hab ?_
 obtain⟨a1,a2⟩:=jS hg' ha
 obtain⟨b1,b2⟩:=jS hg' hb
 rw[←a2,←b2,nR,nR,e]
theorem DO{t:VA}{l:List pA}(hg:FB t=true)(hr:KF l=true)(k:vA):dE t l k=bif(dD t l k).2 then[(dD t l k).1]else[]:=by
 rw[rU]
 unfold dD
 rw[yQ hg,YO]
 have hq:(fun y0=>wF y0 k)=fun r:nB=>r.Vals.getD 0 wA==k:=rfl
 rw[hq]
 have hp:=JX hg hr
 generalize PC t l=xs at *
 rcases lM (fun r:nB=>r.Vals.getD 0 wA==k) XC xs with⟨h,h2⟩ | ⟨i,hi,h,h2,_⟩
 ·rw[h]
  show _=[]
  exact List.filter_eq_nil_iff.2 fun y hy=>by rw[h2 y hy];exact Bool.false_ne_true
 ·rw[h,decide_eq_false oM]
  show _=[xs.getD ((i:Int).toNat) XC]
  rw[show((i:Int).toNat)=i from rfl,yE hi]
  refine NR hi h2 fun j hj hne=>?_
  rw[List.pairwise_iff_getElem]at hp
  have hi2:=eq_of_beq h2
  refine beq_eq_false_iff_ne.2 fun e=>?_
  rcases Nat.lt_or_ge j i with hlt | hge
  ·exact hp j i hj hi hlt (e.trans hi2.symm)
  ·exact hp i j hi hj oM (hi2.trans e.symm)
theorem IY{t:VA}{l:List pA}{s:iD}(h:qI t s.Idx=true)(hr:KF l=true){T:Type}(fr:List nB×Bool→T)(fd:List RE→T):ED (UA (BE t l s) ((lB t s.Idx l).length-0) 0 ([]:List RE)) fr fd=fd (((tB t s.Idx l).map (Jb t s.Idx)).filter (Ha s)):=by
 have he:=hX h (zM hr)
 have hw:=(IN (zM hr)).2
 have hk:∀e∈lB t s.Idx l,uB t s.Idx e=tC t s.Idx e:=fun e hm=>by
  rw[OS]at hm
  obtain⟨w,hw1,rfl⟩:=List.mem_map.1 hm
  obtain⟨j,hj,rfl⟩:=List.mem_iff_getElem.1 (List.mem_filter.1 hw1).1
  have:=(hw j hj).1
  rw[yE hj]at this
  exact vY (qS h) oM
 rw[←he]
 refine yD (fun k (p:List RE)=>p=(((lB t s.Idx l).take k).map (Jb t s.Idx)).filter (Ha s)) (fun(v:T)=>v=fd (((lB t s.Idx l).map (Jb t s.Idx)).filter (Ha s))) rfl (fun x hx=>by rw[hx,List.take_of_length_le oM]) ?_
 intro j x _ hj hx
 have hj':j<(lB t s.Idx l).length:=by omega
 unfold BE
 dsimp only
 rw[hk _ (JG hj'),List.take_succ_eq_append_getElem hj',List.map_append,List.filter_append,←hx,←yE (d:=wA) hj',List.map_cons,List.map_nil,List.filter_cons]
 unfold Ha
 have e3:(⟨(tC t s.Idx ((lB t s.Idx l).getD j wA)).1,(tC t s.Idx ((lB t s.Idx l).getD j wA)).2.1⟩:RE)=Jb t s.Idx ((lB t s.Idx l).getD j wA):=rfl
 have e1:(tC t s.Idx ((lB t s.Idx l).getD j wA)).1=(Jb t s.Idx ((lB t s.Idx l).getD j wA)).val:=rfl
 rw[e3,e1]
 generalize Jb t s.Idx ((lB t s.Idx l).getD j wA)=e
 cases eJ e.val s.Low<;>cases iN e.val s.High<;>simp
theorem JY{t:VA}{l:List pA}(hg:FB t=true)(hr:KF l=true)(s:iD)(x:List RE){T:Type}(fr:List nB×Bool→T)(fd:List nB→T):ED (UA (cF t l s x) (x.length-0) 0 ([]:List nB)) fr fd=fd ((TB x).flatMap fun e=>dE t l e.primary):=by
 have hl:=AT x
 refine yD (fun k (p:List nB)=>p=((TB x).take k).flatMap fun e=>dE t l e.primary) (fun(v:T)=>v=fd ((TB x).flatMap fun e=>dE t l e.primary)) rfl (fun p hp=>by rw[hp,List.take_of_length_le oM]) ?_
 intro j p _ hj hp
 have hj':j<(TB x).length:=by omega
 unfold cF
 dsimp only
 rw[List.take_succ_eq_append_getElem hj',List.flatMap_append,←hp,←yE (d:=EJ) hj',List.flatMap_cons,List.flatMap_nil,List.append_nil,DO hg hr]
 cases (dD t l ((TB x).getD j EJ).primary).2
 ·exact(List.append_nil _).symm
 ·rfl
theorem fT(t:VA)(l:List pA)(s:iD){T:Type}(fr:List nB×Bool→T)(fd:List nB→T):ED (UA (kH t l s) ((SB t s.Idx l).length-0) 0 ([]:List nB)) fr fd=fd ((((SB t s.Idx l).map eR).filter (Ha s)).flatMap fun e=>dE t l e.primary):=by
 refine yD (fun k (p:List nB)=>p=((((SB t s.Idx l).take k).map eR).filter (Ha s)).flatMap fun e=>dE t l e.primary) (fun(v:T)=>v=fd ((((SB t s.Idx l).map eR).filter (Ha s)).flatMap fun e=>dE t l e.primary)) rfl (fun p hp=>by rw[hp,List.take_of_length_le oM]) ?_
 intro j p _ hj hp
 have hj':j<(SB t s.Idx l).length:=by omega
 unfold kH
 dsimp only
 rw[List.take_succ_eq_append_getElem hj',List.map_append,List.filter_append,List.flatMap_append,←hp,←yE (d:=XC) hj',List.map_cons,List.map_nil,List.filter_cons]
 unfold Ha
 have e1:((SB t s.Idx l).getD j XC).Vals.getD 1 wA=(eR ((SB t s.Idx l).getD j XC)).val:=rfl
 have e2:((SB t s.Idx l).getD j XC).Vals.getD 0 wA=(eR ((SB t s.Idx l).getD j XC)).primary:=rfl
 rw[e1,e2]
 generalize eR ((SB t s.Idx l).getD j XC)=e
 cases eJ e.val s.Low<;>cases iN e.val s.High<;>simp
theorem bO{t:VA}{s:iD}{l:List pA}(h:SG t s=true)(hr:KF l=true):IB t l s=HD t l s:=by
 have hg:=vL h
 unfold IB HD
 rw[DO hg hr]
 cases h1:decide (s.Kind=2)
 ·cases h2:decide (s.Kind=3)
  ·rfl
  ·have hk:=of_decide_eq_true h2
   have hi:=hY h hk
   have h24:=EO (l:=l) (by rw[vI];exact hr)
   have hst:=Ke hg (k:=(JE t s.Idx).toNat) (by have:=iR h hk;omega)
   simp only[cond_true,cond_false]
   rw[nU,IY hi hr,JY hg hr,fT,US t s.Idx s h24]
   by_cases h3:(t.Idxs.getD (JE t s.Idx).toNat MA).Stage=3
   ·rw[decide_eq_true h3,decide_eq_false oM];rfl
   ·rw[decide_eq_false h3,decide_eq_true oM];rfl
 ·simp only[cond_true]
  cases (dD t l s.Low).2<;>rfl
theorem mX{t:VA}{l:List pA}(hg:FB t=true)(hr:KF l=true)(x:List RE):(x.flatMap fun e=>dE t l e.primary).length≤x.length∧∀y∈x.flatMap fun e=>dE t l e.primary,y∈PC t l:=by
 refine⟨?_,fun y hy=>?_⟩
 ·induction x with
  | nil=>exact Nat.le_refl _
  | cons e x ih=>
   rw[List.flatMap_cons,List.length_append,List.length_cons,DO hg hr]
   cases (dD t l e.primary).2
   ·show 0+_≤_;omega
   ·show 1+_≤_;omega
 ·obtain⟨e,_,he⟩:=List.mem_flatMap.1 hy
  exact wT he
theorem mV{t:VA}{s:iD}{l:List pA}(h:SG t s=true)(hr:KF l=true):(HD t l s).1.length≤l.length∧∀y∈(HD t l s).1,y∈PC t l:=by
 have hg:=vL h
 have h24:=EO (l:=l) (by rw[vI];exact hr)
 unfold HD
 rw[fT]
 cases decide (s.Kind=2)
 ·cases decide (s.Kind=3)
  ·exact⟨Nat.zero_le _,fun _ h=>by cases h⟩
  ·cases decide ((t.Idxs.getD (JE t s.Idx).toNat MA).Stage<3)
   ·obtain⟨h1,h2⟩:=mX hg hr (((SB t s.Idx l).map eR).filter (Ha s))
    refine⟨Nat.le_trans h1 (Nat.le_trans (List.length_filter_le _ _) ?_),h2⟩
    rw[List.length_map]
    exact vW t s.Idx l h24
   ·exact⟨Nat.zero_le _,fun _ h=>by cases h⟩
 ·exact⟨SR t l s.Low,fun y hy=>wT hy⟩
theorem PW{i j:Int}(h0:0≤i)(h1:i<j)(h2:j≤2147483648):IntKind.wrap .i64 (Int.fdiv (IntKind.wrap .u64 (IntKind.wrap .i64 (i+j))) 2)=(i+j) / 2:=by
 rw[show IntKind.wrap .i64 (i+j)=i+j from JH oM,show IntKind.wrap .u64 (i+j)=i+j by simp[IntKind.wrap,IntKind.bits,IntKind.signed];omega,Int.fdiv_eq_ediv_of_nonneg _ oM]
 exact JH oM
theorem Zd(l:List pA)(k:vA)(f:pA→vA→Int)(hl:l.length≤2147483648):(0≤(zC l k f).1∧(zC l k f).1≤(l.length:Int))∧((zC l k f).2=true→(zC l k f).1<(l.length:Int)):=by
 unfold zC
 refine nM (body:=pC l k f) (fun(p:Int×Int)=>0≤p.1∧p.1≤p.2∧p.2≤(l.length:Int)) (fun p=>(p.2-p.1).toNat) (fun(v:Int×Bool)=>(0≤v.1∧v.1≤(l.length:Int))∧(v.2=true→v.1<(l.length:Int))) ?_ _ (0,(l.length:Int)) ⟨oM,(by show(0:Int)≤(l.length:Int);omega),Int.le_refl _⟩ (by show((l.length:Int)-0).toNat<_;omega)
 rintro⟨a,b⟩ ⟨h0,h1,h2⟩
 dsimp only at h0 h1 h2
 unfold pC
 dsimp only
 cases hd:decide (a<b)
 ·dsimp only[cond_false]
  show(0≤(bif decide (a<(l.length:Int))then _ else _:Int×Bool).1∧_)∧_
  cases hd2:decide (a<(l.length:Int))
  ·exact⟨⟨h0,by show a≤_;omega⟩,fun h=>by cases h⟩
  ·have:=of_decide_eq_true hd2
   exact⟨⟨h0,by show a≤_;omega⟩,fun _=>this⟩
 ·have hlt:=of_decide_eq_true hd
  have hm:=PW h0 hlt oM
  rw[hm]
  have hw:IntKind.wrap .i64 ((a+b) / 2+1)=(a+b) / 2+1:=JH oM
  dsimp only[cond_true]
  show aI.sat _ _ _ (bif _ then _ else _)
  cases decide (f (l.getD ((a+b) / 2).toNat zA) k<0)
  ·exact⟨⟨h0,by show a≤(a+b) / 2;omega,by show(a+b) / 2≤_;omega⟩,by show((a+b) / 2-a).toNat<(b-a).toNat;omega⟩
  ·rw[hw]
   exact⟨⟨by show 0≤(a+b) / 2+1;omega,by show(a+b) / 2+1≤b;omega,h2⟩,by show(b-((a+b) / 2+1)).toNat<(b-a).toNat;omega⟩
theorem DL(l:List pA)(k:vA)(hl:l.length≤2147483648):(0≤(RC l k).1∧(RC l k).1≤(l.length:Int))∧((RC l k).2=true→(RC l k).1<(l.length:Int)):=Zd l k _ hl
theorem qO{l:List pA}{k:vA}(h:(RC l k).2=true)(hl:l.length≤2147483648):(RC l k).1<(l.length:Int):=(DL l k hl).2 h
theorem kT(l:List pA):(YC l).length=l.length:=rfl
theorem yP{l:List pA}(h:KF l=true):l.length≤24:=(IN (zM h)).1
theorem fZ{l:List rE}(hl:l.length≤100)(h:∀y∈l,y.Kind≠4):∀x∈([l]:List (List rE)),x.length≤100∧∀y∈x,y.Kind≠4:=fun x hx=>by rw[List.mem_singleton.1 hx];exact⟨hl,h⟩
theorem gM(l:List pA)(w:pA):(bF l w).length≤l.length+1:=by
 unfold bF
 cases (RC l w.Key).2
 ·show(l.take _++w::l.drop _).length≤_
  rw[List.length_append,List.length_cons,List.length_take,List.length_drop];omega
 ·show(l.set _ _).length≤_
  rw[List.length_set];omega
theorem KV{buf:List pA}{got:List aF}{k:vA}(h:(NE k buf got).2.2=false):(got.any fun g=>g.Key==k)=false:=by
 revert h
 unfold NE
 cases (RC buf k).2
 ·rw[cond_false]
  refine yD (fun j _=>((got.take j).any fun g=>g.Key==k)=false) (fun(v:vA×Bool×Bool)=>v.2.2=false→(got.any fun g=>g.Key==k)=false) rfl (fun s hs _=>?_) (fun j s _ hj hs=>?_)
  ·rw[List.take_of_length_le oM]at hs;exact hs
  ·have hj':j<got.length:=by omega
   unfold BH
   dsimp only
   cases h1:((got.getD j GH).Key==k)
   ·show((got.take (j+1)).any fun g=>g.Key==k)=false
    have hs:((got.take j).any fun g=>g.Key==k)=false:=hs
    rw[List.take_succ_eq_append_getElem hj',List.any_append,hs,←yE (d:=GH) hj',List.any_cons,h1];rfl
   ·exact fun h=>by cases h
 ·exact fun h=>by cases h
theorem RX{l:List rE}{got:List aF}(h:(GD l got).1=1):∃o∈l,(GD l got).2.1=o.Key∧(got.any fun g=>g.Key==o.Key)=false:=by
 revert h
 unfold GD
 refine yD (fun _ _=>True) (fun(v:Int×vA×List pA)=>v.1=1→∃o∈l,v.2.1=o.Key∧(got.any fun g=>g.Key==o.Key)=false) trivial (fun _ _ h=>?_) (fun j s _ hj _=>?_)
 ·cases h
 ·have hm:l.getD j EC∈l:=JG (d:=EC) oM
  unfold KD
  dsimp only
  cases decide ((l.getD j EC).Kind=2)
  ·cases decide ((l.getD j EC).Kind=3)
   ·cases hk:(NE (l.getD j EC).Key s got).2.2
    ·exact fun _=>⟨_,hm,rfl,KV hk⟩
    ·cases CE (l.getD j EC) ((NE (l.getD j EC).Key s got).1) ((NE (l.getD j EC).Key s got).2.1)
     ·exact fun h=>by cases h
     ·trivial
   ·trivial
  ·trivial
theorem WY(rows:List pA)(k:vA):(nH rows k).Key=k:=by
 unfold nH
 cases (RC rows k).2<;>rfl
theorem eT{rows:List pA}{l:List rE}{got:List aF}(_:∀y∈l,y.Kind≠4)(h:(GD l got).1=1):(l.filter fun o=>!((got++([(nH rows ((GD l got).2.1))]:List aF)).any fun g=>g.Key==o.Key)).length<(l.filter fun o=>!(got.any fun g=>g.Key==o.Key)).length:=by
 obtain⟨o,ho,hk,hn⟩:=RX h
 refine rO (fun x hx=>?_) ⟨o,ho,by rw[hn];rfl,?_⟩
 ·rw[List.any_append,Bool.not_or,Bool.and_eq_true]at hx;exact hx.1
 ·rw[List.any_append,hk]
  simp[WY]
theorem BX(r w:List pA):(vH r w).1.length≤24:=by
 unfold vH
 refine yD (fun _ _=>True) (fun(v:List pA×Bool)=>v.1.length≤24) trivial (fun s _=>?_) (fun j s _ _ _=>?_)
 ·cases hd:decide (24<((JD s fun y0=>NI y0).length:Int))
  ·have:=of_decide_eq_false hd
   show(JD s fun y0=>NI y0).length≤24
   omega
  ·exact Nat.zero_le _
 ·trivial
theorem KX(s:List pA)(o:List rE):(gH s o).1.length≤s.length∨(gH s o).1.length≤24:=by
 unfold gH
 cases (sF s o).2.2
 ·exact .inl (Nat.le_refl _)
 ·cases (vH s (sF s o).2.1).2
  ·exact .inl (Nat.le_refl _)
  ·exact .inr (BX _ _)
def Up(l:List pA):Prop:=l.Pairwise fun a b=>eJ a.Key b.Key=true
structure YU (l:List pA) (k:vA) (i:Nat):Prop where
 le:i≤l.length
 lo:∀j (h:j<l.length),j<i→eJ l[j].Key k=true
 hi:∀j (h:j<l.length),i≤j→eJ l[j].Key k=false
theorem YU.uniq{l:List pA}{k:vA}{i i':Nat}(h:YU l k i)(h':YU l k i'):i=i':=by
 rcases Nat.lt_trichotomy i i' with h1 | h1 | h1
 ·have hl:i<l.length:=by have:=h'.le;omega
  have a:=h'.lo i hl h1
  rw[h.hi i hl (Nat.le_refl _)]at a;cases a
 ·exact h1
 ·have hl:i'<l.length:=by have:=h.le;omega
  have a:=h.lo i' hl h1
  rw[h'.hi i' hl (Nat.le_refl _)]at a;cases a
theorem Up.lt{l:List pA}(h:Up l){i j:Nat}(hi:i<l.length)(hj:j<l.length)(hij:i<j):eJ l[i].Key l[j].Key=true:=List.pairwise_iff_getElem.1 h i j hi hj hij
theorem Up.down{l:List pA}(h:Up l){m:Nat}{k:vA}(hm:m<l.length)(hk:eJ l[m].Key k=true):∀j (h:j<l.length),j≤m→eJ l[j].Key k=true:=fun j hj hjm=>by
 rcases Nat.lt_or_ge j m with hlt | hge
 ·exact pM (h.lt hj hm hlt) hk
 ·obtain rfl:j=m:=by omega
  exact hk
theorem Up.up{l:List pA}(h:Up l){m:Nat}{k:vA}(hm:m<l.length)(hk:eJ l[m].Key k=false):∀j (h:j<l.length),m≤j→eJ l[j].Key k=false:=fun j hj hjm=>by
 cases hh:eJ l[j].Key k
 ·rfl
 ·rw[h.down hj hh m hm hjm]at hk;cases hk
def SU(l:List pA)(k:vA)(i:Nat):Bool:=decide (i<l.length)&&((l.getD i zA).Key==k)
theorem JN{l:List pA}{k:vA}{i:Nat}:SU l k i=true↔∃h:i<l.length,l[i].Key=k:=by
 unfold SU
 rw[Bool.and_eq_true,decide_eq_true_eq]
 constructor
 ·rintro⟨h,e⟩;refine⟨h,?_⟩;rw[yE h]at e;exact eq_of_beq e
 ·rintro⟨h,e⟩;refine⟨h,?_⟩;rw[yE h,e];exact beq_self_eq_true _
theorem YU.fnd_at{l:List pA}(hu:Up l){k:vA}{j:Nat}(hj:j<l.length)(e:l[j].Key=k):YU l k j where
 le:=by omega
 lo i hi hij:=e▸hu.lt hi hj hij
 hi i hi hij:=hu.up hj (by rw[e];exact zY k) i hi hij
theorem Ae(x y:vA):qC x y=cS x y:=by
 unfold qC CF cS
 rw[beq_self_eq_true,beq_self_eq_true];rfl
theorem LO{l:List pA}(hu:Up l)(hl:l.length≤2147483648)(k:vA):∃i,YU l k i∧RC l k=((i:Int),SU l k i):=by
 have hf:(fun y0 y1=>cJ y0 y1)=fun(y0:pA) (y1:vA)=>cS y0.Key y1:=by funext y0 y1;exact Ae _ _
 unfold RC
 rw[hf]
 suffices h:∃i,YU l k i∧zC l k (fun y0 y1=>cS y0.Key y1)=((i:Int),SU l k i)by
  obtain⟨i,h1,h2⟩:=h;exact⟨i,h1,by rw[h2]⟩
 unfold zC
 refine nM (body:=pC l k fun y0 y1=>cS y0.Key y1) (fun(p:Int×Int)=>(0≤p.1∧p.1≤p.2∧p.2≤(l.length:Int))∧(∀j (h:j<l.length),(j:Int)<p.1→eJ l[j].Key k=true)∧∀j (h:j<l.length),p.2≤(j:Int)→eJ l[j].Key k=false) (fun p=>(p.2-p.1).toNat) (fun(v:Int×Bool)=>∃i,YU l k i∧v=((i:Int),SU l k i)) ?_ _ (0,(l.length:Int)) ⟨⟨by omega,(by show(0:Int)≤(l.length:Int);omega),Int.le_refl _⟩,fun j _ h=>by dsimp only at h;omega,fun j h h2=>by dsimp only at h2;omega⟩ (by show((l.length:Int)-0).toNat<_;omega)
 rintro⟨a,b⟩ ⟨⟨h0,h1,h2⟩,h3,h4⟩
 dsimp only at h0 h1 h2 h3 h4
 unfold pC
 dsimp only
 cases hd:decide (a<b)
 ·have hge:=of_decide_eq_false hd
  have hp:YU l k a.toNat:=⟨by omega,fun j h hj=>h3 j h oM,fun j h hj=>h4 j h oM⟩
  dsimp only[cond_false]
  show ∃i,YU l k i∧(bif decide (a<(l.length:Int))then(a,decide (cS (l.getD a.toNat zA).Key k=0))else(a,false))=((i:Int),SU l k i)
  refine⟨a.toNat,hp,?_⟩
  rw[show((a.toNat:Nat):Int)=a by omega]
  unfold SU
  by_cases hl2:a<(l.length:Int)
  ·rw[decide_eq_true hl2,decide_eq_true (show a.toNat<l.length by omega),jY]
   show(a,_)=(a,_)
   congr 1
   rw[Bool.eq_iff_iff,decide_eq_true_eq,Bool.true_and]
   exact⟨fun e=>by rw[e];exact beq_self_eq_true _,eq_of_beq⟩
  ·rw[decide_eq_false hl2,decide_eq_false (show ¬a.toNat<l.length by omega)];rfl
 ·have hlt:=of_decide_eq_true hd
  have hm:=PW h0 hlt oM
  rw[hm,QW]
  have hw:IntKind.wrap .i64 ((a+b) / 2+1)=(a+b) / 2+1:=JH oM
  have hml:((a+b) / 2).toNat<l.length:=by omega
  rw[yE hml]
  dsimp only[cond_true]
  show aI.sat _ _ _ (bif _ then _ else _)
  cases hs:eJ l[((a+b) / 2).toNat].Key k
  ·exact⟨⟨⟨h0,by show a≤(a+b) / 2;omega,by show(a+b) / 2≤_;omega⟩,h3,fun j h hj=>hu.up hml hs j h (by dsimp only at hj;omega)⟩,by show((a+b) / 2-a).toNat<(b-a).toNat;omega⟩
  ·rw[hw]
   exact⟨⟨⟨by show 0≤(a+b) / 2+1;omega,by show(a+b) / 2+1≤b;omega,h2⟩,fun j h hj=>hu.down hml hs j h (by dsimp only at hj;omega),h4⟩,by show(b-((a+b) / 2+1)).toNat<(b-a).toNat;omega⟩
theorem Xa{l:List pA}(hu:Up l)(hl:l.length≤2147483648)(k:vA):∃i,YU l k i:=by
 obtain⟨i,h,_⟩:=LO hu hl k;exact⟨i,h⟩
def fR(l:List pA)(w:pA)(i:Nat):List pA:=bif SU l w.Key i then l.set i w else l.take i++w::l.drop i
theorem EX{l:List pA}(hu:Up l)(hl:l.length≤2147483648)(w:pA){i:Nat}(hp:YU l w.Key i):bF l w=fR l w i:=by
 obtain⟨i',h,e⟩:=LO hu hl w.Key
 obtain rfl:=hp.uniq h
 unfold bF fR
 rw[e];rfl
theorem DX{l:List pA}(hu:Up l)(hl:l.length≤1000000)(w:pA){i:Nat}(hp:YU l w.Key i):VD l w=fR l w i:=by
 unfold VD
 refine nM (body:=GG l w) (fun(x:Int)=>(0≤x∧x≤(l.length:Int))∧∀j (h:j<l.length),x≤(j:Int)→eJ w.Key l[j].Key=true) (fun x=>x.toNat) (fun(v:List pA)=>v=fR l w i) ?_ _ _ ⟨⟨by omega,Int.le_refl _⟩,fun j h h2=>by omega⟩ oM
 rintro x ⟨⟨h0,h1⟩,h2⟩
 unfold GG
 dsimp only
 have hi:=hp.le
 have key:(0<x→∀h:x.toNat-1<l.length,iN l[x.toNat-1].Key w.Key=true)→((bif decide (0<x)then(bif(l.getD (IntKind.wrap .i64 (x-1)).toNat zA).Key==w.Key then((([]:List pA)++l).set (IntKind.wrap .i64 (x-1)).toNat w)else(((([]:List pA)++(l.take x.toNat))++([w]:List pA))++(([]:List pA)++(l.drop x.toNat))))else(((([]:List pA)++(l.take x.toNat))++([w]:List pA))++(([]:List pA)++(l.drop x.toNat)))):List pA)=fR l w i:=fun hx=>by
  have hins:∀q:Nat,(((([]:List pA)++(l.take q))++([w]:List pA))++(([]:List pA)++(l.drop q)))=l.take q++w::l.drop q:=fun q=>by simp
  rw[hins]
  by_cases hx0:0<x
  ·rw[decide_eq_true hx0,cond_true,JH oM,show(x-1).toNat=x.toNat-1 by omega]
   have hxl:x.toNat-1<l.length:=by omega
   have hle:=hx hx0 hxl
   rw[yE hxl]
   unfold iN at hle
   cases he:(l[x.toNat-1].Key==w.Key)
   ·rw[he,Bool.or_false]at hle
    have e:i=x.toNat:=hp.uniq ⟨by omega,fun j h hj=>hu.down hxl hle j h oM,fun j h hj=>zW (h2 j h oM)⟩
    have hnf:SU l w.Key i=false:=by
     rw[←Bool.not_eq_true,JN]
     rintro⟨h,h3⟩
     have:=h2 i h oM
     rw[h3]at this;exact VK _ this
    unfold fR
    rw[hnf,e];rfl
   ·have e:i=x.toNat-1:=hp.uniq (YU.fnd_at hu hxl (eq_of_beq he))
    have hf:SU l w.Key i=true:=JN.2 ⟨by omega,by subst e;exact eq_of_beq he⟩
    unfold fR
    rw[hf,e];rfl
  ·rw[decide_eq_false hx0,cond_false]
   have e:i=x.toNat:=hp.uniq ⟨by omega,fun j h hj=>by omega,fun j h hj=>zW (h2 j h oM)⟩
   have hnf:SU l w.Key i=false:=by
    rw[←Bool.not_eq_true,JN]
    rintro⟨h,h3⟩
    have:=h2 i h oM
    rw[h3]at this;exact VK _ this
   unfold fR
   rw[hnf,e];rfl
 cases hd:decide (0<x)
 ·exact key fun h=>absurd h (of_decide_eq_false hd)
 ·have hx0:=of_decide_eq_true hd
  have hxl:x.toNat-1<l.length:=by omega
  rw[cond_true,JH oM,show(x-1).toNat=x.toNat-1 by omega,yE hxl]
  cases hs:iN l[x.toNat-1].Key w.Key
  ·rw[cond_false]
   rw[oR]at hs
   have hs:eJ w.Key l[x.toNat-1].Key=true:=by simpa using hs
   refine⟨⟨⟨by omega,by omega⟩,fun j h hj=>?_⟩,by omega⟩
   rcases Nat.lt_or_ge j x.toNat with hlt | hge
   ·obtain rfl:j=x.toNat-1:=by omega
    exact hs
   ·exact h2 j h oM
  ·rw[cond_true]
   exact key fun _ _=>hs
theorem DU{l:List pA}(hu:Up l)(hl:l.length≤1000000)(w:pA):bF l w=VD l w:=by
 obtain⟨i,hp⟩:=Xa hu oM w.Key
 rw[EX hu oM w hp,DX hu hl w hp]
theorem Za{l:List pA}{w y:pA}{i:Nat}(h:y∈fR l w i):y∈l∨y=w:=by
 unfold fR at h
 cases hf:SU l w.Key i
 ·rw[hf,cond_false]at h
  rcases List.mem_append.1 h with h | h
  ·exact .inl (List.mem_of_mem_take h)
  ·rcases List.mem_cons.1 h with h | h
   ·exact .inr h
   ·exact .inl (List.mem_of_mem_drop h)
 ·rw[hf,cond_true]at h
  exact List.mem_or_eq_of_mem_set h
theorem Yc{l:List pA}(hu:Up l){w:pA}{i:Nat}(hp:YU l w.Key i):Up (fR l w i):=by
 unfold fR
 cases hf:SU l w.Key i
 ·rw[cond_false]
  have hne:∀h:i<l.length,l[i].Key≠w.Key:=fun h e=>by rw[JN.2 ⟨h,e⟩]at hf;cases hf
  unfold Up
  have h0:=hu
  unfold Up at h0
  rw[←List.take_append_drop i l,List.pairwise_append]at h0
  obtain⟨h1,h2,h3⟩:=h0
  rw[List.pairwise_append,List.pairwise_cons]
  have hd:∀y∈l.drop i,eJ w.Key y.Key=true:=fun y hy=>by
   obtain⟨j,hj,rfl⟩:=List.mem_iff_getElem.1 hy
   rw[List.length_drop]at hj
   rw[List.getElem_drop]
   have hil:i+j<l.length:=by omega
   cases hs:eJ w.Key l[i+j].Key
   ·have e:=GU hs (hp.hi (i+j) hil oM)
    rcases Nat.eq_zero_or_pos j with h0 | h0
    ·subst h0;exact absurd e.symm (hne oM)
    ·have h4:=hu.lt (show i<l.length by omega) hil oM
     rw[←e,hp.hi i oM (Nat.le_refl _)]at h4;cases h4
   ·rfl
  have ht:∀x∈l.take i,eJ x.Key w.Key=true:=fun x hx=>by
   obtain⟨j,hj,rfl⟩:=List.mem_iff_getElem.1 hx
   rw[List.length_take]at hj
   rw[List.getElem_take]
   exact hp.lo j oM oM
  refine⟨h1,⟨hd,h2⟩,fun a ha b hb=>?_⟩
  rcases List.mem_cons.1 hb with rfl | hb
  ·exact ht a ha
  ·exact h3 a ha b hb
 ·rw[cond_true]
  obtain⟨h,e⟩:=JN.1 hf
  unfold Up
  have hm:(l.set i w).map (·.Key)=l.map (·.Key):=by
   rw[List.map_set]
   apply List.ext_getElem (by simp)
   intro j h1 h2
   rw[List.getElem_set]
   split
   ·rename_i hij;subst hij;rw[List.getElem_map];exact e.symm
   ·rfl
  have h1:((l.set i w).map (·.Key)).Pairwise fun a b=>eJ a b=true:=by rw[hm];exact List.pairwise_map.2 hu
  exact List.pairwise_map.1 h1
theorem CU{l:List pA}(hu:Up l)(hl:l.length≤1000000)(w:pA):Up (VD l w)∧(∀y∈VD l w,y∈l∨y=w)∧(VD l w).length≤l.length+1:=by
 obtain⟨i,hp⟩:=Xa hu oM w.Key
 refine⟨by rw[DX hu hl w hp];exact Yc hu hp,fun y hy=>by rw[DX hu hl w hp]at hy;exact Za hy,?_⟩
 rw[←DU hu hl w];exact gM l w
theorem OT{l:List pA}(hu:Up l)(k:vA){ρ:Type}{body:Nat→Unit→aI ρ Unit}(f:pA→ρ)(e:ρ){i:Nat}(hp:YU l k i)(hb:∀j,body j ()=bif(l.getD j zA).Key==k then .ret (f (l.getD j zA))else .cont ()) :
  ED (UA body (l.length-0) 0 ()) (fun r=>r) (fun _=>e)=bif SU l k i then f (l.getD i zA)else e:=by
 refine yD (fun j _=>∀q (h:q<l.length),q<j→l[q].Key≠k) (fun v=>v=bif SU l k i then f (l.getD i zA)else e) (fun q _ h=>absurd h (Nat.not_lt_zero _)) (fun s hs=>?_) (fun j s _ hj hs=>?_)
 ·have:SU l k i=false:=by
   rw[←Bool.not_eq_true,JN]
   rintro⟨h,h3⟩
   exact hs i h oM h3
  rw[this];rfl
 ·have hj':j<l.length:=by omega
  cases s
  rw[hb]
  cases hk:((l.getD j zA).Key==k)
  ·intro q h hq hqk
   rcases Nat.lt_or_ge q j with hlt | hge
   ·exact hs q h hlt hqk
   ·obtain rfl:q=j:=by omega
    rw[yE hj',hqk,beq_self_eq_true]at hk;cases hk
  ·rw[yE hj']at hk
   have e1:=hp.uniq (YU.fnd_at hu hj' (eq_of_beq hk))
   subst e1
   show f (l.getD i zA)=_
   rw[JN.2 ⟨hj',eq_of_beq hk⟩];rfl
theorem fX{buf:List pA}(hu:Up buf)(hl:buf.length≤1000000)(got:List aF)(k:vA):NE k buf got=lC buf got k:=by
 obtain⟨i,hp,e⟩:=LO hu oM k
 unfold NE lC
 rw[e,OT hu k (body:=uG buf got k) (fun w=>(w.Val,!w.Gone,true)) _ hp fun j=>rfl]
 cases hf:SU buf k i
 ·rfl
 ·rfl
theorem Ca{rows:List pA}(hu:Up rows)(hl:rows.length≤1000000)(k:vA):nH rows k=eG rows k:=by
 obtain⟨i,hp,e⟩:=LO hu oM k
 unfold nH eG
 rw[e,OT hu k (body:=FH rows k) (fun w=>(⟨k,w.Val,true⟩:aF)) _ hp fun j=>rfl]
 cases hf:SU rows k i<;>rfl
def FM(l:List rE):Prop:=∀y∈l,y.Kind=2∨y.Kind=3∨y.Kind=6∨y.Kind=7
theorem rT{o:rE}(h:o.Kind=2∨o.Kind=3)(v:vA)(th:Bool):mE o v th=false:=by
 unfold mE
 rw[decide_eq_false (show ¬o.Kind=4 by omega),decide_eq_false (show ¬o.Kind=5 by omega),decide_eq_false (show ¬o.Kind=6 by omega),decide_eq_false (show ¬o.Kind=7 by omega)];rfl
theorem Fa{o:rE}(h:o.Kind=6∨o.Kind=7)(v:vA)(th:Bool):CE o v th=!mE o v th:=by
 unfold CE mE
 rw[decide_eq_false (show ¬o.Kind=4 by omega),decide_eq_false (show ¬o.Kind=5 by omega)]
 rcases h with h | h
 ·rw[decide_eq_true h];rfl
 ·rw[decide_eq_false (show ¬o.Kind=6 by omega),decide_eq_true h]
  cases th
  ·rfl
  ·cases v==o.Val<;>rfl
theorem ON{ρ σ:Type}{b b':Nat→σ→aI ρ σ}(I:Nat→σ→Prop):∀(n k:Nat) (s:σ),I k s→(∀j s,k≤j→j<k+n→I j s→b j s=b' j s∧∀s',b j s=.cont s'→I (j+1) s')→UA b n k s=UA b' n k s
 | 0,_,_,_,_=>rfl
 | n+1,k,s,h0,h=>by
  obtain⟨h1,h2⟩:=h k s (Nat.le_refl _) oM h0
  simp only[UA]
  rw[←h1]
  cases hb:b k s with
  | ret r=>rfl
  | brk s=>rfl
  | cont s'=>exact ON I n (k+1) s' (h2 s' hb) fun j s h3 h4=>h j s oM oM
theorem PT{l:List rE}(hk:FM l)(hl:l.length≤1000)(got:List aF){j:Nat}(hj:j<l.length){x:List pA}(hu:Up x)(hx:x.length≤j) :
  KD l got j x=gD l got j x∧∀s',KD l got j x=.cont s'→(Up s'∧s'.length≤j+1)∧∀y∈s',y∈x∨(y.Key=(l.getD j EC).Key∧((y.Val=(l.getD j EC).Val∧y.Gone=false∧(l.getD j EC).Kind=2)∨(y.Val=[]∧y.Gone=true∧(l.getD j EC).Kind=3))):=by
 have hko:=hk _ (JG (d:=EC) hj)
 unfold KD gD
 dsimp only
 generalize l.getD j EC=o at *
 have hc:=fX hu oM got o.Key
 rw[hc]
 rcases hko with h2 | h3 | h67
 ·have hg:=rT (.inl h2) (lC x got o.Key).1 (lC x got o.Key).2.1
  have hp:=CU hu oM (⟨o.Key,o.Val,false⟩:pA)
  rw[decide_eq_true h2,hg,cond_true,DU hu oM]
  refine⟨by cases (lC x got o.Key).2.2<;>rfl,fun s' hs=>?_⟩
  cases hs
  refine⟨⟨hp.1,by omega⟩,fun y hy=>?_⟩
  rcases hp.2.1 y hy with h | rfl
  ·exact .inl h
  ·exact .inr ⟨rfl,.inl ⟨rfl,rfl,h2⟩⟩
 ·have hg:=rT (.inr h3) (lC x got o.Key).1 (lC x got o.Key).2.1
  have hp:=CU hu oM (⟨o.Key,[],true⟩:pA)
  rw[decide_eq_false (show ¬o.Kind=2 by omega),decide_eq_true h3,hg,cond_true,cond_false,DU hu oM]
  refine⟨by cases (lC x got o.Key).2.2<;>rfl,fun s' hs=>?_⟩
  cases hs
  refine⟨⟨hp.1,by omega⟩,fun y hy=>?_⟩
  rcases hp.2.1 y hy with h | rfl
  ·exact .inl h
  ·exact .inr ⟨rfl,.inr ⟨rfl,rfl,h3⟩⟩
 ·rw[decide_eq_false (show ¬o.Kind=2 by omega),decide_eq_false (show ¬o.Kind=3 by omega),decide_eq_false (show ¬o.Kind=4 by omega),Fa h67]
  cases (lC x got o.Key).2.2
  ·exact⟨rfl,fun s' hs=>by cases hs⟩
  ·cases mE o (lC x got o.Key).1 (lC x got o.Key).2.1
   ·exact⟨rfl,fun s' hs=>by cases hs;exact⟨⟨hu,by omega⟩,fun y hy=>.inl hy⟩⟩
   ·exact⟨rfl,fun s' hs=>by cases hs⟩
theorem BY{l:List rE}(hk:FM l)(hl:l.length≤1000)(got:List aF):GD l got=MD l got:=by
 unfold GD MD
 have h:=ON (b:=KD l got) (b':=gD l got) (fun j (x:List pA)=>Up x∧x.length≤j) (l.length-0) 0 [] ⟨List.Pairwise.nil,Nat.le_refl _⟩ fun j s _ hj hI=>by
  obtain⟨h1,h2⟩:=PT hk hl got (j:=j) oM hI.1 hI.2
  exact⟨h1,fun s' hs=>(h2 s' hs).1⟩
 rw[h]
def Dc(l:List rE)(x:List pA):Prop:=Up x∧x.length≤l.length∧∀y∈x,∃o∈l,y.Key=o.Key∧((y.Val=o.Val∧y.Gone=false∧o.Kind=2)∨(y.Val=[]∧y.Gone=true∧o.Kind=3))
theorem Dc.nil(l:List rE):Dc l []:=⟨List.Pairwise.nil,Nat.zero_le _,fun _ h=>by cases h⟩
theorem Gb{l:List rE}(hk:FM l)(hl:l.length≤1000)(got:List aF):Dc l (MD l got).2.2:=by
 rw[←BY hk hl got]
 unfold GD
 refine yD (fun j (x:List pA)=>Up x∧x.length≤j∧∀y∈x,∃o∈l,y.Key=o.Key∧((y.Val=o.Val∧y.Gone=false∧o.Kind=2)∨(y.Val=[]∧y.Gone=true∧o.Kind=3))) (fun(v:Int×vA×List pA)=>Dc l v.2.2) ⟨List.Pairwise.nil,Nat.le_refl _,fun _ h=>by cases h⟩ (fun s hs=>⟨hs.1,by have:=hs.2.1;show s.length≤_;omega,hs.2.2⟩) (fun j s _ hj hI=>?_)
 have hj':j<l.length:=by omega
 obtain⟨_,h2⟩:=PT hk hl got hj' hI.1 hI.2.1
 have hr:∀r,KD l got j s=.ret r→r.2.2=[]:=fun r hr=>by
  unfold KD at hr
  dsimp only at hr
  revert hr
  cases decide ((l.getD j EC).Kind=2)
  ·cases decide ((l.getD j EC).Kind=3)
   ·cases (NE (l.getD j EC).Key s got).2.2
    ·intro h;cases h;rfl
    ·cases CE (l.getD j EC) ((NE (l.getD j EC).Key s got).1) ((NE (l.getD j EC).Key s got).2.1)
     ·intro h;cases h;rfl
     ·intro h;cases h
   ·intro h;cases h
  ·intro h;cases h
 have hbk:∀r,KD l got j s≠.brk r:=fun r hr=>by
  unfold KD at hr
  dsimp only at hr
  revert hr
  cases decide ((l.getD j EC).Kind=2)
  ·cases decide ((l.getD j EC).Kind=3)
   ·cases (NE (l.getD j EC).Key s got).2.2
    ·intro h;cases h
    ·cases CE (l.getD j EC) ((NE (l.getD j EC).Key s got).1) ((NE (l.getD j EC).Key s got).2.1)
     ·intro h;cases h
     ·intro h;cases h
   ·intro h;cases h
  ·intro h;cases h
 cases hb:KD l got j s with
 | ret r=>show Dc l r.2.2;rw[hr r hb];exact Dc.nil l
 | brk s'=>exact absurd hb (hbk s')
 | cont s'=>
  obtain⟨⟨a,b⟩,c⟩:=h2 s' hb
  refine⟨a,b,fun y hy=>?_⟩
  rcases c y hy with h | h
  ·exact hI.2.2 y h
  ·exact⟨_,JG (d:=EC) hj',h⟩
theorem RZ{rows:List pA}(hu:Up rows)(hr:rows.length≤1000000){l:List rE}(hk:FM l)(hl:l.length≤1000):sF rows l=bD rows l:=by
 have hb:bH rows l=EG rows l:=by
  funext x
  unfold bH EG
  dsimp only
  rw[BY hk hl x,Ca hu hr]
 unfold sF bD
 rw[hb]
theorem HY(rows:List pA){l:List rE}(hk:FM l)(hl:l.length≤1000):Dc l (bD rows l).2.1:=by
 unfold bD
 refine nM (body:=EG rows l) (fun _=>True) (fun(x:List aF)=>(l.filter fun o=>!(x.any fun g=>g.Key==o.Key)).length) (fun(v:List aF×List pA×Bool)=>Dc l v.2.1) ?_ _ _ trivial (Nat.lt_succ_self _)
 intro x _
 unfold EG
 dsimp only
 cases hd:decide ((MD l x).1=1)
 ·exact Gb hk hl x
 ·exact⟨trivial,zR (rows:=rows) (of_decide_eq_true hd)⟩
theorem lU:∀(w rows:List pA),Up rows→rows.length+w.length≤1000000→Up (w.foldl VD rows)∧(∀y∈w.foldl VD rows,y∈rows∨y∈w)∧w.foldl bF rows=w.foldl VD rows
 | [],rows,h,_=>⟨h,fun y hy=>.inl hy,rfl⟩
 | x::w,rows,h,hl=>by
  rw[List.length_cons]at hl
  obtain⟨a,b,c⟩:=CU h oM x
  obtain⟨a2,b2,c2⟩:=lU w (VD rows x) a oM
  refine⟨a2,fun y hy=>?_,?_⟩
  ·rcases b2 y hy with h | h
   ·rcases b y h with h | h
    ·exact .inl h
    ·exact .inr (by rw[h];exact List.mem_cons_self ..)
   ·exact .inr (List.mem_cons_of_mem _ h)
  ·rw[List.foldl_cons,List.foldl_cons,DU h oM,c2]
theorem qT{T:Type}(f:List pA→pA→List pA){body:Nat→List pA→aI T (List pA)}(w rows:List pA)(hb:∀j x,body j x=.cont (f x (w.getD j zA))){U:Type}(fr:T→U)(fd:List pA→U):ED (UA body (w.length-0) 0 rows) fr fd=fd (w.foldl f rows):=by
 refine yD (fun k (p:List pA)=>p=(w.take k).foldl f rows) (fun v=>v=fd (w.foldl f rows)) rfl (fun s hs=>by rw[hs,List.take_of_length_le oM]) (fun j s _ hj hs=>?_)
 have hj':j<w.length:=by omega
 rw[hb]
 show f s (w.getD j zA)=_
 rw[List.take_succ_eq_append_getElem hj',List.foldl_append,←hs,←yE (d:=zA) hj'];rfl
theorem wO(rows w:List pA):SC rows w=(w.foldl VD rows).filter fun y=>!y.Gone:=by
 unfold SC
 rw[qT VD (body:=zI rows w) w _ fun j x=>rfl]
 rw[List.nil_append]
 generalize w.foldl VD rows=l
 refine yD (fun k (p:List pA)=>p=(l.take k).filter fun y=>!y.Gone) (fun(v:List pA)=>v=l.filter fun y=>!y.Gone) rfl (fun s h=>by rw[h,List.take_of_length_le oM]) ?_
 intro j s _ hj hs
 have hj':j<l.length:=by omega
 unfold lH
 dsimp only
 rw[List.take_succ_eq_append_getElem hj',List.filter_append,←hs,←yE (d:=zA) hj',List.filter_cons]
 cases (l.getD j zA).Gone<;>simp
theorem CX{rows w:List pA}(hu:Up rows)(hl:rows.length+w.length≤1000000):vH rows w=bif decide (24<((SC rows w).length:Int))then([],false)else(SC rows w,true):=by
 unfold vH
 rw[qT bF (body:=uJ rows w) w _ fun j x=>rfl]
 have hc:YC rows=rows:=rfl
 rw[hc,(lU w rows hu hl).2.2,wO];rfl
theorem Ad{l:List pA}(h:fD l=true):Up l:=by
 have h1:=zM (vI l▸h)
 rw[qK,Bool.and_eq_true,List.all_eq_true]at h1
 have h24:l.length≤24:=by have:=of_decide_eq_true h1.2;omega
 have step:∀i (hi:i+1<l.length),eJ l[i].Key l[i+1].Key=true:=fun i hi=>by
  have h3:=h1.1 (i+1) (List.mem_range.2 hi)
  rw[Bool.and_eq_true]at h3
  have h4:=h3.2
  unfold UK at h4
  rw[decide_eq_true oM,cond_true,JH oM,show(((i+1:Nat):Int)-1).toNat=i by omega,yE (by rw[List.length_map];omega),yE (by rw[List.length_map];exact hi),List.getElem_map,List.getElem_map]at h4
  exact h4
 have all:∀d i (hj:i+d+1<l.length),eJ l[i].Key l[i+d+1].Key=true:=by
  intro d
  induction d with
  | zero=>exact fun i hj=>step i hj
  | succ d ih=>exact fun i hj=>pM (ih i oM) (step (i+d+1) oM)
 refine List.pairwise_iff_getElem.2 fun i j hi hj hij=>?_
 obtain⟨d,rfl⟩:∃d,j=i+d+1:=⟨j-i-1,by omega⟩
 exact all d i hj
theorem SP(l:List pA):fD l=true↔(∀y∈l,HE y.Key y.Val y.Gone=true)∧(∀y∈l,y.Gone=false)∧Up l∧l.length≤24:=by
 constructor
 ·intro h
  have hu:=Ad h
  rw[vI,MO,Bool.and_eq_true,qK,Bool.and_eq_true,List.all_eq_true,List.all_eq_true]at h
  refine⟨fun y hy=>?_,fun y hy=>by simpa using h.2 y hy,hu,by have:=of_decide_eq_true h.1.2;omega⟩
  obtain⟨j,hj,rfl⟩:=List.mem_iff_getElem.1 hy
  have h1:=h.1.1 j (List.mem_range.2 hj)
  rw[Bool.and_eq_true,yE hj]at h1
  exact h1.1
 ·rintro⟨h1,h2,hu,h4⟩
  rw[vI,MO,Bool.and_eq_true,qK,Bool.and_eq_true,List.all_eq_true,List.all_eq_true]
  refine⟨⟨fun j hj=>?_,decide_eq_true oM⟩,fun y hy=>by rw[h2 y hy];rfl⟩
  have hj:=List.mem_range.1 hj
  rw[Bool.and_eq_true,yE hj]
  refine⟨h1 _ (List.getElem_mem hj),?_⟩
  unfold UK
  by_cases h0:0<j
  ·rw[decide_eq_true oM,cond_true,JH oM,yE (by rw[List.length_map];omega),yE (by rw[List.length_map];exact hj),List.getElem_map,List.getElem_map]
   exact hu.lt _ _ oM
  ·rw[decide_eq_false oM];rfl
theorem wP{l:List rE}(h:sI l=true):(∀o∈l,XE o=true)∧l.length≤8:=by
 unfold sI at h
 rw[NW EC XE (r:=false) fun k=>by unfold jI;rfl]at h
 obtain⟨h1,h2⟩:=rD h
 exact⟨List.all_eq_true.1 h1,by have:=of_decide_eq_true h2;omega⟩
theorem FZ{l:List rE}(hg:∀o∈l,XE o=true){x:List pA}(h:Dc l x):∀y∈x,HE y.Key y.Val y.Gone=true:=fun y hy=>by
 obtain⟨o,ho,hk,h2⟩:=h.2.2 y hy
 have hg:=hg o ho
 unfold XE at hg
 obtain⟨g1,g2⟩:=rD hg
 unfold HE
 rw[hk,g1]
 rcases h2 with⟨hv,hn,h2⟩ | ⟨hv,hn,_⟩
 ·rw[decide_eq_true h2,cond_true]at g2
  rw[hv,hn,(rD g2).1];rfl
 ·rw[hv,hn];rfl
theorem BU{rows w:List pA}(hr:fD rows=true)(hw:∀y∈w,HE y.Key y.Val y.Gone=true)(hl:w.length≤1000):fD (SC rows w)=decide ((SC rows w).length≤24):=by
 obtain⟨h1,h2,h3,h4⟩:=(SP rows).1 hr
 obtain⟨a,b,_⟩:=lU w rows h3 oM
 by_cases hlen:(SC rows w).length≤24
 ·rw[decide_eq_true hlen,SP]
  rw[wO]at hlen ⊢
  refine⟨fun y hy=>?_,fun y hy=>?_,List.Pairwise.filter _ a,hlen⟩
  ·rcases b y (List.mem_filter.1 hy).1 with h | h
   ·exact h1 y h
   ·exact hw y h
  ·simpa using(List.mem_filter.1 hy).2
 ·rw[decide_eq_false hlen,←Bool.not_eq_true,SP]
  exact fun h=>hlen h.2.2.2
theorem qZ{rows:List pA}{l:List rE}(hr:fD rows=true)(hg:sI l=true)(hk:FM l):gH rows l=UH rows l∧fD (UH rows l).1=true:=by
 obtain⟨h1,h2,h3,h4⟩:=(SP rows).1 hr
 obtain⟨g1,g2⟩:=wP hg
 have hw:=HY rows hk oM
 have hx:=FZ g1 hw
 have hgood:=BU hr hx (by have:=hw.2.1;omega)
 have hput:=CX (w:=(bD rows l).2.1) h3 (by have:=hw.2.1;omega)
 have hrun:=Bd hr hg (show bD rows l=((bD rows l).1,(bD rows l).2.1,(bD rows l).2.2)from rfl)
 unfold gH UH
 rw[RZ h3 oM hk oM,hput,hrun,hgood]
 by_cases hlen:(SC rows (bD rows l).2.1).length≤24
 ·rw[decide_eq_false (show ¬(24:Int)<_ by omega)]
  rw[decide_eq_true hlen]at hgood ⊢
  cases (bD rows l).2.2
  ·exact⟨rfl,hr⟩
  ·exact⟨rfl,hgood⟩
 ·rw[decide_eq_true (show(24:Int)<_ by omega),decide_eq_false hlen]
  cases (bD rows l).2.2<;>exact⟨rfl,hr⟩
theorem HW{t:VA}(h:FB t=true):rC t.Name 1=true:=by
 rw[mL]at h
 simp only[Bool.and_eq_true,List.all_eq_true,List.mem_range]at h
 exact h.1.1.1
theorem FU{t:VA}{r:nB}(h:YG t r=true):IF (LA t r).Key=true∧kG (LA t r).Val=true:=by
 obtain⟨hg,hr,hf,hl,hc⟩:=NL h
 have hn1:=HW hg
 have ln1:=PL hn1
 have f0:=kX h (k:=0) oM
 have l0:=uL f0
 have hc4:=(mK.of hg).cols
 refine⟨?_,?_⟩
 ·rw[nR]
  refine VR (by simp only[lN];omega) (by simp only[lN];omega) fun b hb=>?_
  simp only[List.mem_append,List.mem_singleton]at hb
  rcases hb with(hb | hb) | hb
  ·exact LN hn1 b hb
  ·rw[hb];decide
  ·exact tN f0 b hb _
 ·show kG (xD (r.Vals.drop 1) ([44]:vA))=true
  unfold xD
  have hs:∀x∈r.Vals.drop 1,UD x=true:=fun x hx=>hf x (List.mem_of_mem_drop hx)
  have h1:=wL (r.Vals.drop 1) fun x hx=>by have:=uL (hs x hx);omega
  rw[List.length_drop]at h1
  refine fW oM fun b hb=>?_
  rcases uO _ b hb with hb | ⟨x,hx,hb⟩
  ·rw[hb];decide
  ·exact tN (hs x hx) b hb _
theorem Xc{k:vA}(hk:IF k=true):XE ⟨6,k,[],0⟩=true:=by
 unfold XE
 rw[hk];rfl
structure FP (t:VA) (a:MB):Prop where
 tbl:FB t=true
 act:HC t a=true
 kind:a.Kind=1∨a.Kind=2∨a.Kind=3
 old:a.Kind≠1→YG t a.Old=true
 new:a.Kind≠2→YG t a.New=true
 same:a.Kind=3→a.Old.Vals.getD 0 wA=a.New.Vals.getD 0 wA
theorem FP.of{t:VA}{a:MB}(h:jJ t a=true):FP t a:=by
 have hg:=(UM h).1
 have h':=h
 unfold jJ at h
 have h2:=(rD h).2
 have row:∀r,wC t r=true→YG t r=true:=fun r hr=>by unfold YG;rw[oF,hg,hr];rfl
 have h3:=h2
 unfold HC at h3
 by_cases k1:a.Kind=1
 ·rw[decide_eq_true k1,cond_true]at h3
  have h4:=(rD h3).2
  exact⟨hg,h2,.inl k1,fun h=>absurd k1 h,fun _=>row _ h4,fun h=>by omega⟩
 ·rw[decide_eq_false k1,cond_false]at h3
  by_cases k2:a.Kind=2
  ·rw[decide_eq_true k2,cond_true]at h3
   have h4:=(rD h3).1
   exact⟨hg,h2,.inr (.inl k2),fun _=>row _ h4,fun h=>absurd k2 h,fun h=>by omega⟩
  ·rw[decide_eq_false k2,cond_false]at h3
   by_cases k3:a.Kind=3
   ·rw[decide_eq_true k3,cond_true]at h3
    obtain⟨h4,h5⟩:=rD h3
    obtain⟨h5,h6⟩:=rD h5
    exact⟨hg,h2,.inr (.inr k3),fun _=>row _ h4,fun _=>row _ h5,fun _=>eq_of_beq h6⟩
   ·rw[decide_eq_false k3]at h3;cases h3
def Bc(y:rE):Prop:=XE y=true∧(y.Kind=2∨y.Kind=3∨y.Kind=6∨y.Kind=7)
theorem Nc{t:VA}{x:AF}{a:MB}{y:rE}(h:y∈tD t x a):(a.Kind≠1∧y=⟨3,LB t x a.Old,[],0⟩)∨(a.Kind≠2∧y=⟨2,LB t x a.New,[],0⟩):=by
 unfold tD at h
 try rw[show(([]:vA)==([]:vA))=true from rfl]at h
 generalize LB t x a.Old=eO at h ⊢
 generalize LB t x a.New=eN at h ⊢
 by_cases k1:a.Kind=1
 ·have k2:¬a.Kind=2:=by omega
  rw[decide_eq_true k1,decide_eq_false k2]at h
  refine .inr ⟨k2,?_⟩
  revert h
  cases eN==[]<;>cases decide (2≤x.Stage)<;>simp
 ·rw[decide_eq_false k1]at h
  by_cases k2:a.Kind=2
  ·rw[decide_eq_true k2]at h
   refine .inl ⟨k1,?_⟩
   revert h
   cases eO==[]<;>cases decide (1≤x.Stage)<;>simp
  ·rw[decide_eq_false k2]at h
   have:y=⟨3,eO,[],0⟩∨y=⟨2,eN,[],0⟩:=by
    revert h
    cases eO==[]<;>cases eN==[]<;>cases eO==eN<;>cases decide (1≤x.Stage)<;>cases decide (2≤x.Stage)<;>simp<;>intro h<;>first | exact .inl h | exact .inr h | exact h
   rcases this with h | h
   ·exact .inl ⟨k1,h⟩
   ·exact .inr ⟨k2,h⟩
theorem nT{t:VA}{r:nB}(h:YG t r=true){k:Nat}(hk:k<t.Idxs.length):IF (LB t (t.Idxs.getD k MA) r)=true:=by
 have hg:=(NL h).1
 have hi:qI t (t.Idxs.getD k MA).Name=true:=(KN _ _).2 ⟨hg,by have:=UQ (t:=t) (k:=k) hk;rw[zJ]at this;exact this.1⟩
 have:=(pZ h hi).2.2
 rw[qU (mK.of hg) hk]at this
 exact this
theorem iS{t:VA}{a:MB}(h:FP t a):sI (dG t a)=true∧FM (dG t a):=by
 have key:∀y∈dG t a,Bc y:=by
  unfold dG
  refine yD (fun _ (x:List rE)=>∀y∈x,Bc y) (fun(v:List rE)=>∀y∈v,Bc y) ?_ (fun s hs=>hs) ?_
  ·intro y hy
   unfold IG at hy
   by_cases k1:a.Kind=1
   ·rw[decide_eq_true k1,cond_true]at hy
    obtain⟨hk,hv⟩:=FU (h.new oM)
    rw[TL]at hk hv
    rcases List.mem_cons.1 hy with rfl | hy
    ·exact⟨Xc hk,.inr (.inr (.inl rfl))⟩
    ·rw[List.mem_singleton.1 hy];exact⟨xX hk hv,.inl rfl⟩
   ·rw[decide_eq_false k1,cond_false]at hy
    obtain⟨hk,hv⟩:=FU (h.old k1)
    rw[TL]at hk hv
    by_cases k2:a.Kind=2
    ·rw[decide_eq_true k2,cond_true]at hy
     rcases List.mem_cons.1 hy with rfl | hy
     ·exact⟨Ud hk hv,.inr (.inr (.inr rfl))⟩
     ·rw[List.mem_singleton.1 hy];exact⟨tY hk,.inr (.inl rfl)⟩
    ·rw[decide_eq_false k2,cond_false]at hy
     obtain⟨hk3,hv3⟩:=FU (h.new k2)
     rw[TL]at hk3 hv3
     rcases List.mem_cons.1 hy with rfl | hy
     ·exact⟨Ud hk hv,.inr (.inr (.inr rfl))⟩
     ·rw[List.mem_singleton.1 hy];exact⟨xX hk hv3,.inl rfl⟩
  ·intro j x _ hj hx
   show ∀y∈x++tD t (t.Idxs.getD j MA) a,Bc y
   intro y hy
   rcases List.mem_append.1 hy with hy | hy
   ·exact hx y hy
   ·rcases Nc hy with⟨k1,rfl⟩ | ⟨k2,rfl⟩
    ·exact⟨tY (nT (h.old k1) oM),.inr (.inl rfl)⟩
    ·exact⟨xX (nT (h.new k2) oM) Ed,.inl rfl⟩
 have hl:=pX t a
 have h3:=(mK.of h.tbl).idxs
 exact⟨Ba _ (List.all_eq_true.2 fun y hy=>(key y hy).1) oM,fun y hy=>(key y hy).2⟩
theorem QP{t:VA}{a:MB}(h:BL t a=true):∀y∈dG t a,y.Kind≠4:=fun y hy=>by
 have:=(iS (FP.of (OK t a▸h))).2 y hy
 omega
theorem ZR{t:VA}{a:MB}(h:BL t a=true):(dG t a).length≤100:=by
 have:=(wP (iS (FP.of (OK t a▸h))).1).2
 omega
theorem xU{t:VA}{a:MB}(h:jJ t a=true):∀y∈ZD t a,y.Kind≠4:=by
 have ha:=FP.of h
 rw[OO ha.tbl ha.act]
 exact QP (OK t a▸h)
theorem qX{t:VA}{a:MB}(h:jJ t a=true):(ZD t a).length≤100:=by
 have ha:=FP.of h
 rw[OO ha.tbl ha.act]
 exact ZR (OK t a▸h)
theorem Wc{l:List rE}(h:sI l=true):jG dL l:=by
 obtain⟨h1,h2⟩:=wP h
 refine CB oM fun y hy=>?_
 have hg:=h1 y hy
 unfold XE at hg
 obtain⟨g1,g2⟩:=rD hg
 have hk:=xT g1
 have hv:y.Val.length≤24:=by
  have e0:∀{c:Bool},(bif y.Val==([]:vA)then c else false)=true→y.Val.length≤24:=fun h=>by rw[eq_of_beq (rD h).1];exact Nat.zero_le _
  revert g2
  cases decide (y.Kind=2)
  ·cases decide (y.Kind=7)
   ·cases decide (y.Kind=4)
    ·cases decide (y.Kind=5)
     ·cases decide (y.Kind=1)
      ·cases decide (y.Kind=3)
       ·intro g2;first | exact e0 g2 | exact e0 (rD g2).2 | exact e0 (rD g2).1 | (revert g2;cases decide (y.Kind=6)<;>intro g2<;>first | exact e0 g2 | cases g2)
       ·exact e0
      ·exact e0
     ·exact e0
    ·exact e0
   ·exact fun g2=>rQ (rD g2).1
  ·exact fun g2=>rQ (rD g2).1
 exact⟨by show _≤_;omega,by show _≤_;omega⟩
theorem jZ{t:VA}{a:MB}(h:jJ t a=true):jG dL (ZD t a):=by
 have ha:=FP.of h
 rw[OO ha.tbl ha.act]
 exact Wc (iS ha).1
theorem Nb(s:List pA)(o:List (List rE)):(UC s o).1.length≤s.length∨(UC s o).1.length≤24:=by
 unfold UC
 cases fD s
 ·exact .inr (Nat.zero_le _)
 ·cases decide (20<(o.length:Int))
  ·refine yD (fun _ (_:Unit)=>True) (fun(v:List pA×List Bool×Bool)=>v.1.length≤s.length∨v.1.length≤24) trivial (fun _ _=>?_) (fun j _ _ _ _=>?_)
   ·refine yD (fun _ (x:List pA×List Bool)=>x.1.length≤s.length∨x.1.length≤24) (fun(v:List pA×List Bool×Bool)=>v.1.length≤s.length∨v.1.length≤24) (.inl (Nat.le_refl _)) (fun _ h=>h) (fun j x _ _ h=>?_)
    obtain⟨x,y⟩:=x
    unfold VE
    dsimp only
    cases (bD x (o.getD j tI)).2.2
    ·exact h
    ·cases hr:fD (SC x (bD x (o.getD j tI)).2.1)
     ·exact h
     ·exact .inr (NN hr)
   ·unfold jF
    cases sI (o.getD j tI)
    ·exact .inr (Nat.zero_le _)
    ·trivial
  ·exact .inr (Nat.zero_le _)
theorem dZ(s:List pA)(o:List rE):(UH s o).1.length≤s.length∨(UH s o).1.length≤24:=by
 have h:=Nb s [o]
 unfold UH
 cases decide ((((UC s [o]).2.1).length:Int)=1)<;>exact h
theorem kU{t:VA}{s:vA}(hg:FB t=true)(h:(XB t s).2=true):SG t (XB t s).1=true:=by
 rw[CY]at h ⊢
 cases hq:nD t (aB (PA s 32))
 ·rw[hq]at h;cases h
 ·show(bif FB t then nD t _ else false)=true
  rw[hg];exact hq
theorem Kc{t:VA}{s:vA}(hg:FB t=true)(h:(FA t s).2=true):EI t (FA t s).1=true:=by
 rw[KT]at h ⊢
 cases hq:(XB t s).2
 ·rw[hq]at h;cases h
 ·rw[nJ];exact kU hg hq
theorem HM{t:VA}{s:iD}(h:SG t s=true)(hk:s.Kind=1):BL t s.Act=true:=by
 have hg:=vL h
 have h':nD t s=true:=by unfold SG at h;rw[hg]at h;exact h
 unfold nD at h';rw[decide_eq_true hk]at h'
 cases hq:GF t s.Act
 ·rw[hq]at h';cases h'
 ·show(bif FB t then GF t s.Act else false)=true
  rw[hg];exact hq
theorem qM{t:VA}{s:iD}(h:EI t s=true)(hk:s.Kind=1):jJ t s.Act=true:=by
 rw[OK];exact HM (nJ t s▸h) hk
theorem jR{t:VA}{s:iD}{l:List pA}(h:SG t s=true)(hr:fD l=true):(HD t l s).1.length≤24:=
 Nat.le_trans (mV h (vI l▸hr)).1 (EO hr)
theorem iY{t:VA}{s:iD}{l:List pA}(h:SG t s=true)(hr:fD l=true){k:Nat}(hk:k<(HD t l s).1.length):((HD t l s).1.getD k XC).Vals.length≤4∧MF ((HD t l s).1.getD k XC):=by
 have h2:=(mV h (vI l▸hr)).2 _ (JG (d:=XC) hk)
 obtain⟨h3,h4⟩:=sJ ((wN t l).2 _ h2)
 have:=(mK.of (vL h)).cols
 exact⟨by omega,h4⟩
theorem yR{t:VA}{s:iD}{l:List pA}(h:EI t s=true)(hr:KF l=true):(IB t l s).1.length≤24:=by
 rw[bO (nJ t s▸h) hr];exact jR (nJ t s▸h) (vI l▸hr)
theorem TZ{t:VA}{s:iD}{l:List pA}(h:EI t s=true)(hr:KF l=true){k:Nat}(hk:k<(IB t l s).1.length):((IB t l s).1.getD k XC).Vals.length≤4∧MF ((IB t l s).1.getD k XC):=by
 rw[bO (nJ t s▸h) hr]at hk ⊢;exact iY (nJ t s▸h) (vI l▸hr) hk
theorem Va{r:nB}(h:r.Vals.length≤4∧MF r):QE (eE r):=by
 have:=(SL h.1 h.2).1;unfold QE;omega
def EK(l:List vA):Prop:=∀y∈l,y.length≤16
theorem EK.nil:EK []:=fun _ h=>by cases h
theorem EK.app{l:List vA}{x:vA}(h:EK l)(hx:x.length≤16):EK (l++[x]):=fun y hy=>by
 rcases List.mem_append.1 hy with hy | hy
 ·exact h y hy
 ·rw[List.mem_singleton.1 hy];exact hx
theorem EK.s{l:List vA}{r:nB}(h:EK l)(hr:r.Vals.length≤4∧MF r):EK (l++[eE r]):=h.app (SL hr.1 hr.2).1
theorem EK.i{l:List vA}{r:nB}(h:EK l)(hr:r.Vals.length≤4∧MF r):EK (l++[BD r]):=h.app (SL hr.1 hr.2).2
theorem mY(sep:vA)(hs:sep.length=1):∀xs:List vA,EK xs→(sep.intercalate xs).length≤17*xs.length
 | [],_=>Nat.zero_le _
 | [x],h=>by have:=h x (by simp);rw[mM,List.length_singleton];omega
 | x::y::zs,h=>by
  have h1:=h x (by simp)
  have h2:=mY sep hs (y::zs) fun z hz=>h z (List.mem_cons_of_mem _ hz)
  rw[pK,List.length_append,List.length_append,List.length_cons (as:=y::zs)]
  simp only[List.length_cons]at h2 ⊢
  omega
theorem Ka{xs:List vA}(h:EK xs)(hl:xs.length≤24):(xD xs ([32]:vA)).length≤1073741824:=by
 have:=mY ([32]:vA) rfl xs h
 unfold xD;omega
theorem iZ{xs:List vA}(h:EK xs)(hl:xs.length≤24):QE (UI xs ([32]:vA)):=by
 rw[BN];exact Ka h hl
theorem Td{xs:List vA}(h:EK xs)(hl:xs.length≤24):jG QE xs:=⟨by omega,fun y hy=>by have:=h y hy;unfold QE;omega⟩
theorem xY{t:VA}{a:MB}{l:List pA}(h:BL t a=true)(hr:fD l=true):gH l (ZD t a)=UH l (dG t a)∧fD (UH l (dG t a)).1=true:=by
 have ha:=FP.of (OK t a▸h)
 rw[OO ha.tbl ha.act]
 exact qZ hr (iS ha).1 (iS ha).2
theorem YK{t:VA}{l:List pA}{s:vA}(hg:FB t=true)(hr:fD l=true):fD (CD t l s).1=true:=by
 unfold CD
 cases h:(XB t s).2
 ·exact hr
 ·have hs:=kU hg h
  simp only[cond_true]
  cases hk:decide ((XB t s).1.Kind=1)
  ·simp only[cond_false]
   cases (HD t l (XB t s).1).2
   ·exact hr
   ·simp only[cond_true]
    cases decide ((((HD t l ((XB t s).1)).1).length:Int)=0)
    ·simp only[cond_false]
     exact yD (fun _ _=>True) (fun(v:List pA×vA)=>fD v.1=true) trivial (fun _ _=>hr) fun _ _ _ _ _=>trivial
    ·exact hr
  ·have h2:=(xY (HM hs (of_decide_eq_true hk)) hr).2
   simp only[cond_true]
   cases (UH l (dG t (XB t s).1.Act)).2
   ·exact h2
   ·exact h2
theorem mT{t:VA}{l:List pA}{s:vA}(hg:FB t=true)(hr:fD l=true):LC t l s=CD t l s:=by
 have hq:=KT t s
 cases h:(XB t s).2
 ·rw[h]at hq
  have hq':FA t s=(AO,false):=hq
  unfold LC CD
  rw[hq',h];rfl
 ·rw[h]at hq
  have hq':FA t s=((XB t s).1,true):=hq
  have hs:=kU hg h
  have ha:=bO hs (vI l▸hr)
  have hB:sG t l s=OH t l s:=by
   funext k x
   unfold sG OH
   rw[hq',ha,CP]
  unfold LC CD
  rw[hB,hq',h]
  simp only[cond_true]
  cases hk:decide ((XB t s).1.Kind=1)
  ·simp only[cond_false]
   rw[ha]
   simp only[BN]
  ·simp only[cond_true]
   rw[(xY (HM hs (of_decide_eq_true hk)) hr).1]
theorem oO{t:VA}{l:List pA}{s:vA}(hg:FB t=true)(hr:KF l=true):KF (LC t l s).1=true:=by
 rw[←vI]at hr ⊢
 rw[mT hg hr];exact YK hg hr
theorem OW(t:VA)(l:List pA)(s:vA)(hg:FB t=true)(hr:fD l=true):(CD t l s).1.length≤24:=EO (YK hg hr)
theorem gX(t:VA)(l:List pA)(s:vA)(hg:FB t=true)(hr:KF l=true):(LC t l s).1.length≤24:=yP (oO hg hr)
theorem tR(t:VA)(l:List pA)(x:List vA):iC t l x=GE t l x:=by
 unfold iC GE
 rw[oF,←vI]
 cases hg:FB t
 ·rfl
 ·cases hr:fD l
  ·rfl
  ·have hb:UA (PI t l x) (x.length-0) 0 (YC l,([]:List vA))=UA (eI t l x) (x.length-0) 0 (([]:List pA)++l,([]:List vA)):=by
    refine ON (fun _ s=>fD s.1=true) _ _ _ hr ?_
    rintro j ⟨a,b⟩ _ _ hI
    have he:=mT (s:=x.getD j wA) hg hI
    refine⟨?_,?_⟩
    ·unfold PI eI
     dsimp only
     rw[he]
    ·intro s' hs'
     have hs2:aI.cont ((LC t a (x.getD j wA)).1,b++([(LC t a (x.getD j wA)).2]:List vA))=(aI.cont s':aI ((List pA)×(List vA)×Bool) _):=hs'
     cases hs2
     show fD (LC t a (x.getD j wA)).1=true
     rw[he];exact YK hg hI
   simp only[cond_true]
   rw[hb]
theorem XU(t:VA)(l:List pA)(x:List vA):(iC t l x).1.length≤24∧(iC t l x).2.1.length≤12:=by
 rw[tR]
 unfold GE
 cases hg:FB t
 ·exact⟨Nat.zero_le _,Nat.zero_le _⟩
 ·cases hr:fD l
  ·exact⟨Nat.zero_le _,Nat.zero_le _⟩
  ·cases hl:decide (12<(x.length:Int))
   ·have hx:=of_decide_eq_false hl
    simp only[cond_true,cond_false]
    refine yD (fun j (s:List pA×List vA)=>fD s.1=true∧s.2.length=j) (fun(v:List pA×List vA×Bool)=>v.1.length≤24∧v.2.1.length≤12) ⟨hr,rfl⟩ (fun s h=>⟨EO h.1,by have:=h.2;show s.2.length≤12;omega⟩) ?_
    rintro j ⟨a,b⟩ _ _ hI
    unfold eI
    dsimp only
    exact⟨YK hg hI.1,by rw[List.length_append,hI.2];rfl⟩
   ·exact⟨Nat.zero_le _,Nat.zero_le _⟩
theorem MU(t:VA)(l:List pA)(x:List vA)(hw:HO t)(hw2:(TU xN) l)(hw3:(TU eQ) x):IC t l x=true:=by
 unfold IC
 cases h1:decide (xF t 1048576<0)
 case true=>rfl
 cases h2:decide (zG l (xF t 1048576)<0)
 case true=>rfl
 cases h3:decide (fF x (zG l (xF t 1048576))<0)
 case true=>rfl
 have hl:=EW hw (of_decide_eq_false h1)
 have hz:=nF hw (by decide) (of_decide_eq_false h1)
 have hz2:=BG hw2 hz.2 (of_decide_eq_false h2)
 have ho:l.length≤2147483648:=hz2.1.1
 have hx:x.length≤2147483648:=(OI hw3 hz2.2 (of_decide_eq_false h3)).1.1
 obtain⟨hc,hc2⟩:=XU t l x
 obtain⟨_,m1⟩:=Ta t 1 (by decide) oM
 obtain⟨_,m2,_⟩:=ET l (ZE t 1).1 oM oM
 obtain⟨_,m3,_⟩:=AP x (CC l (ZE t 1).1).1 oM oM
 obtain⟨m4,m5,_⟩:=ET (iC t l x).1 1 (by decide) oM
 obtain⟨m6,m7,_⟩:=AP (iC t l x).2.1 (CC (iC t l x).1 1).1 oM oM
 simp only[cond_false,←tR,YZ,SY,LR,beq_self_eq_true,cond_true,m4,m6]
 rw[m3,decide_eq_false oM,cond_false,m7,m5,decide_eq_false oM,cond_false,decide_eq_false oM,cond_false,decide_true];rfl
end Go.Proofs.YtoimdjojffkefaaGreatDoor
