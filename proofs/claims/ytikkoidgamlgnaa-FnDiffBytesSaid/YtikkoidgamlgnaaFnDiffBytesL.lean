/- Fn Diff Bytes: plain laws of the models. -/
import Derived.Test.YtikkoidgamlgnaaFnDiffBytesT
set_option linter.unusedVariables false
set_option linter.unusedSimpArgs false
namespace Go.Proofs.Ytikkoidgamlgnaa
open Go.RowKit Go.X
theorem LG(xs:List nA)(f:nA→Bool):QC xs f=xs.any f:=ZN f aA xs
theorem zJ:yE=gD:=rfl
theorem NG{n lo hi:Int}(h:gD n lo hi=true):lo≤n∧n≤hi:=by
 unfold gD at h
 obtain⟨h1,h2⟩:=BE h
 exact⟨of_decide_eq_true h1,of_decide_eq_true h2⟩
theorem zI{n lo hi:Int}(h:yE n lo hi=true):lo≤n∧n≤hi:=NG h
theorem IK(l:List UInt8)(c:UInt8):decide (Lib.indexByte l c<0)=!(l.contains c):=by
 induction l with
 | nil=>rfl
 | cons b l ih=>
  have hge:=Lib.indexByte_ge l c
  rw[Bool.eq_iff_iff]at ih ⊢
  simp only[decide_eq_true_eq,Bool.not_eq_true',List.contains_cons]at ih ⊢
  unfold Lib.indexByte
  by_cases hb:b=c
  ·subst hb;simp
  ·have hb1:(b==c)=false:=by simpa using hb
   have hb2:(c==b)=false:=by simpa using fun h=>hb h.symm
   rw[hb1,hb2]
   simp only[Bool.false_or,Bool.false_eq_true,if_false]
   split
   ·rename_i h
    have:Lib.indexByte l c=-1:=by simpa using h
    rw[←ih];omega
   ·rename_i h
    have:Lib.indexByte l c≠-1:=by simpa using h
    constructor
    ·intro h;omega
    ·intro h;have:=ih.2 h;omega
theorem byte_back(b:UInt8):((b.toNat:Int)).toNat.toUInt8=b:=by simp
theorem YN(s:uB)(b:UInt8):decide (XN s (b.toNat:Int)<0)=!(s.contains b):=by
 unfold XN
 rw[byte_back,IK]
def qI(more:uB)(b:UInt8):Bool:=oC (b.toNat:Int)||more.contains b
theorem IJ(s more:uB):NF s more=s.all (qI more):=by
 unfold NF
 rw[HO (0:UInt8) (qI more) (r:=false) fun k=>by
  unfold wD qI sE bD
  rw[YN]
  cases oC ((s.getD k 0).toNat:Int)<;>cases more.contains (s.getD k 0)<;>rfl]
 cases s.all (qI more)<;>rfl
theorem sO(a b:UInt8):decide ((a.toNat:Int)=(b.toNat:Int))=(a==b):=by
 rw[Bool.eq_iff_iff,decide_eq_true_iff,beq_iff_eq]
 constructor
 ·intro h;exact UInt8.toNat.inj oM
 ·intro h;rw[h]
theorem kQ{T:Type}(s more:uB)(k:Nat)(x0:Bool)(fr:Bool→T)(fd:Bool→T):qD (kB (cB s more k) (more.length-0) 0 x0) fr fd=fd (x0||more.contains (s.getD k 0)):=by
 rw[sQ (0:UInt8) (fun b=>(s.getD k 0)==b) fun j x=>by
  unfold cB
  rw[sO]
  cases x<;>rfl]
 rw[List.contains_eq_any_beq]
theorem rK(s more:uB):fE s more=s.all (qI more):=by
 unfold fE
 rw[HO (0:UInt8) (qI more) (r:=false) fun k=>by
  unfold BB qI oC
  simp only[kQ]
  cases decide (97≤((s.getD k 0).toNat:Int))<;>cases decide (((s.getD k 0).toNat:Int)≤122)<;>cases decide (48≤((s.getD k 0).toNat:Int))<;>cases decide (((s.getD k 0).toNat:Int)≤57)<;>cases more.contains (s.getD k 0)<;>rfl]
 cases s.all (qI more)<;>rfl
theorem iM(s:uB):iG s=AF s:=by
 unfold iG AF
 rw[IJ,rK,zJ]
theorem jM(s:uB):jG s=aG s:=by
 unfold jG aG
 rw[IJ,rK]
theorem JO{α:Type}(l:List α)(p q:α→Bool):(l.all p&&l.all q)=l.all fun x=>p x&&q x:=by
 induction l with
 | nil=>rfl
 | cons x l ih=>
  simp only[List.all_cons,←ih]
  cases p x<;>cases q x<;>cases l.all p<;>rfl
theorem JJ(v:uB)(g:Bool):bF v g=(aG v&&(!g||v==([]:uB))):=by
 unfold bF
 rw[jM]
 cases aG v<;>cases g<;>cases (v==([]:uB))<;>rfl
theorem sK(k v:uB)(g:Bool):SC k v g=(AF k&&bF v g):=by
 rw[JJ]
 unfold SC
 cases AF k<;>cases aG v<;>cases g<;>cases (v==([]:uB))<;>rfl
theorem lI(x y:Int):jB x y=if x<y then -1 else if y<x then 1 else 0:=by
 unfold jB GD
 simp only[decide_true,Bool.not_true,cond_false]
 by_cases h1:x<y
 ·simp[h1]
 ·by_cases h2:y<x
  ·simp[h1,h2]
  ·simp[h1,h2]
theorem ZI(x y:uB):rB x y=if x<y then -1 else if x=y then 0 else 1:=by
 unfold rB dD
 simp only[beq_self_eq_true,Bool.not_true,cond_false]
 by_cases h1:x<y
 ·rw[(VJ x y).2 h1,if_pos h1];rfl
 ·have h0:fL x y=false:=by cases h:fL x y;rfl;exact absurd ((VJ x y).1 h) h1
  rw[h0,cond_false,if_neg h1]
  unfold CO
  rw[h0,Bool.false_or]
  by_cases h2:x=y
  ·subst h2;rw[beq_self_eq_true,if_pos rfl];rfl
  ·rw[beq_false_of_ne h2,if_neg h2];rfl
theorem EO(a b c:Int):mF [a,b,c]=if a=0 then(if b=0 then c else b)else a:=by
 unfold mF
 have b0:PC [a,b,c] 0 ()=bif decide (a=0)then .cont ()else .ret a:=rfl
 have b1:PC [a,b,c] 1 ()=bif decide (b=0)then .cont ()else .ret b:=rfl
 have b2:PC [a,b,c] 2 ()=bif decide (c=0)then .cont ()else .ret c:=rfl
 show qD (kB (PC [a,b,c]) 3 0 ()) _ _=_
 simp only[kB,Nat.zero_add,Nat.reduceAdd,b0,b1,b2]
 by_cases h1:a=0
 ·by_cases h2:b=0
  ·by_cases h3:c=0
   ·simp[h1,h2,h3,qD]
   ·simp[h1,h2,h3,qD]
  ·simp[h1,h2,qD]
 ·simp[h1,qD]
theorem LN(a b:nA):decide (0≤VD a b)=!(fC a b):=by
 unfold VD fC
 rw[EO,lI,lI,ZI]
 by_cases h1:a.Time=b.Time
 ·rw[if_neg (by omega:¬a.Time<b.Time),if_neg (by omega:¬b.Time<a.Time),if_pos rfl,decide_eq_true h1,cond_true]
  by_cases h2:a.Group=b.Group
  ·rw[if_neg (by omega:¬a.Group<b.Group),if_neg (by omega:¬b.Group<a.Group),if_pos rfl,decide_eq_true h2,cond_true]
   by_cases h3:a.Key<b.Key
   ·rw[if_pos h3,(VJ _ _).2 h3];rfl
   ·have h0:fL a.Key b.Key=false:=by cases h:fL a.Key b.Key;rfl;exact absurd ((VJ _ _).1 h) h3
    rw[if_neg h3,h0]
    by_cases h4:a.Key=b.Key
    ·rw[if_pos h4];rfl
    ·rw[if_neg h4];rfl
  ·rw[decide_eq_false h2,cond_false]
   by_cases h3:a.Group<b.Group
   ·simp only[if_pos h3,decide_eq_true h3];rfl
   ·simp only[if_neg h3,if_pos (show b.Group<a.Group by omega),decide_eq_false h3];rfl
 ·rw[decide_eq_false h1,cond_false]
  by_cases h3:a.Time<b.Time
  ·simp only[if_pos h3,decide_eq_true h3];rfl
  ·simp only[if_neg h3,if_pos (show b.Time<a.Time by omega),decide_eq_false h3];rfl
def iH(l:List nA)(k:Nat):Bool:=bif decide (0<(k:Int))then fC (l.getD ((IntKind.wrap .i64 ((k:Int)-1)).toNat) aA) (l.getD k aA)else true
theorem pN(l:List nA):DG l=((List.range l.length).all (iH l)&&decide ((l.length:Int)≤400)):=by
 unfold DG
 rw[dO (iH l) (r:=false) fun k _=>by
  unfold YD iH
  rw[LN]
  cases decide (0<(k:Int))<;>cases fC (l.getD ((IntKind.wrap .i64 ((k:Int)-1)).toNat) aA) (l.getD k aA)<;>rfl]
 cases (List.range l.length).all (iH l)<;>rfl
theorem DL(c:nA):SE c=FC c:=by
 unfold SE FC JH mH
 rw[zJ,iM,sK]
 cases gD c.Time 1 100000<;>cases gD c.Group 0 3<;>cases AF c.Key<;>rfl
theorem pK(l:List nA):uE l=((l.all FC&&(List.range l.length).all (iH l))&&decide ((l.length:Int)≤400)):=by
 unfold uE
 by_cases hl:l.length≤400
 ·rw[dO (fun k=>FC (l.getD k aA)&&iH l k) (r:=false) fun k hk=>by
   unfold AC iH
   rw[decide_eq_true (show(k:Int)≤400 by omega)]
   cases FC (l.getD k aA)<;>cases decide (0<(k:Int))<;>cases fC (l.getD ((IntKind.wrap .i64 ((k:Int)-1)).toNat) aA) (l.getD k aA)<;>rfl]
  rw[←dL aA FC l,JO]
  cases (List.range l.length).all fun k=>FC (l.getD k aA)&&iH l k<;>rfl
 ·have h2:decide ((l.length:Int)≤400)=false:=decide_eq_false oM
  rw[h2,Bool.and_false]
  refine UF (fun _ _=>True) (fun v=>v=false) trivial (fun _ _=>rfl) ?_
  intro k _ _ _ _
  unfold AC
  cases decide ((k:Int)≤400)<;>cases FC (l.getD k aA)<;>cases decide (0<(k:Int))<;>cases fC (l.getD ((IntKind.wrap .i64 ((k:Int)-1)).toNat) aA) (l.getD k aA)<;>first | trivial | rfl
theorem BJ(l:List nA):MF l=uE l:=by
 unfold MF
 rw[pN,LG,List.not_any_eq_all_not,pK]
 have:(l.all fun x=>!tF x)=l.all FC:=by
  congr 1;funext x;unfold tF;rw[DL,Bool.not_not]
 rw[this]
 cases (List.range l.length).all (iH l)<;>cases l.all FC<;>cases decide ((l.length:Int)≤400)<;>rfl
def BI(d:PB)(c:nA):Bool:=decide (c.Group=0)&&decide (d.From<c.Time)&&decide (c.Time≤d.To)
theorem qK(d:PB)(hw:LI d.From):YC d=(gD d.From 0 d.To&&decide (d.To≤100000)&&decide ((d.List.length:Int)≤60)&&uE d.List&&d.List.all (BI d)):=by
 unfold YC
 rw[HO aA (fun c=>decide (c.Group=0)&&gD c.Time (IntKind.wrap .i64 (d.From+1)) d.To) (r:=false) fun k=>by
  unfold lD
  cases decide ((d.List.getD k aA).Group=0)<;>cases gD ((d.List.getD k aA).Time) (IntKind.wrap .i64 (d.From+1)) d.To<;>rfl]
 cases h1:gD d.From 0 d.To
 ·cases (d.List.all fun c=>decide (c.Group=0)&&gD c.Time (IntKind.wrap .i64 (d.From+1)) d.To)<;>rfl
 ·by_cases h2:d.To≤100000
  ·have h3:=NG h1
   have h4:(d.List.all fun c=>decide (c.Group=0)&&gD c.Time (IntKind.wrap .i64 (d.From+1)) d.To)=d.List.all (BI d):=by
    congr 1;funext c
    unfold BI
    rw[uC oM]
    unfold gD
    by_cases h5:d.From+1≤c.Time
    ·rw[decide_eq_true h5,decide_eq_true (show d.From<c.Time by omega)];cases decide (c.Group=0)<;>rfl
    ·rw[decide_eq_false h5,decide_eq_false (show ¬d.From<c.Time by omega)];cases decide (c.Group=0)<;>rfl
   rw[h4,decide_eq_true h2]
   cases d.List.all (BI d)<;>cases decide ((d.List.length:Int)≤60)<;>cases uE d.List<;>rfl
  ·rw[decide_eq_false h2]
   cases (d.List.all fun c=>decide (c.Group=0)&&gD c.Time (IntKind.wrap .i64 (d.From+1)) d.To)<;>rfl
theorem mI(d:PB)(hw:LI d.From):kC d=wH d:=by
 unfold wH
 rw[qK d hw]
 unfold kC EG
 rw[zJ,BJ,LG,List.not_any_eq_all_not]
 have:(d.List.all fun x=>!UD x d)=d.List.all (BI d):=by
  congr 1;funext c
  unfold UD BI
  by_cases h1:c.Time≤d.From
  ·rw[decide_eq_true h1,decide_eq_false (show ¬d.From<c.Time by omega)];cases decide (c.Group=0)<;>rfl
  ·rw[decide_eq_false h1,decide_eq_true (show d.From<c.Time by omega)]
   by_cases h2:d.To<c.Time
   ·rw[decide_eq_true h2,decide_eq_false (show ¬c.Time≤d.To by omega)];cases decide (c.Group=0)<;>rfl
   ·rw[decide_eq_false h2,decide_eq_true (show c.Time≤d.To by omega)];cases decide (c.Group=0)<;>rfl
 rw[this]
 have e:(bif gD d.From 0 100000 then bif gD d.To 0 100000 then decide (d.From≤d.To)else false else false)=(gD d.From 0 d.To&&decide (d.To≤100000)):=by
  rw[Bool.eq_iff_iff]
  constructor
  ·intro h
   obtain⟨a,h⟩:=BE h
   obtain⟨b,c⟩:=BE h
   have a:=NG a
   have b:=NG b
   have c:=of_decide_eq_true c
   unfold gD
   rw[decide_eq_true a.1,decide_eq_true c,decide_eq_true b.2];rfl
  ·intro h
   rw[Bool.and_eq_true]at h
   have a:=NG h.1
   have b:=of_decide_eq_true h.2
   unfold gD
   rw[decide_eq_true a.1,decide_eq_true (show d.From≤100000 by omega),decide_eq_true (show 0≤d.To by omega),decide_eq_true b,decide_eq_true a.2];rfl
 rw[←e]
 cases gD d.From 0 100000<;>cases gD d.To 0 100000<;>cases decide (d.From≤d.To)<;>cases decide ((d.List.length:Int)≤60)<;>cases uE d.List<;>cases d.List.all (BI d)<;>rfl
theorem yJ(n:Int):IntKind.wrap .u8 n=n % 256:=by
 simp[IntKind.wrap,IntKind.bits,IntKind.signed]
theorem tP{a b:Int}(h:a % 256=b % 256):IntKind.wrap .u8 a=IntKind.wrap .u8 b:=by rw[yJ,yJ,h]
theorem EM(n m:Int):HC n=DE m:=by
 funext ⟨a,x⟩
 unfold HC DE
 dsimp only
 have:IntKind.wrap .u8 ((IntKind.wrap .u8 (Int.tmod a 128))+128)=IntKind.wrap .u8 (IntKind.wrap .i64 ((Int.tmod a 128)+128)):=by
  simp only[yJ,IntKind.wrap_i64];omega
 rw[this]
theorem xG(n:Int):OA n=SB n:=by
 unfold OA SB
 rw[EM n n]
theorem cI(s:uB):KB s=KD s:=by
 unfold KB KD
 rw[xG]
theorem KF(n:Int)(h:0≤n∧n≤1073741824):(OA n).length≤5:=by
 unfold OA
 refine nH (fun(p:Int×List Int)=>0≤p.1∧((p.2.length=0∧p.1≤1073741824)∨(p.2.length=1∧p.1≤8388608)∨(p.2.length=2∧p.1≤65536)∨(p.2.length=3∧p.1≤512)∨(p.2.length=4∧p.1≤4))) (fun(p:Int×List Int)=>p.1.toNat) (fun(v:uB)=>v.length≤5) ?_ _ _ ⟨h.1,.inl ⟨rfl,h.2⟩⟩ (Nat.lt_succ_self _)
 rintro⟨a,x⟩ ⟨h1,h2⟩
 unfold HC
 dsimp only at h1 h2 ⊢
 by_cases h3:128≤a
 ·have h4:=LP (n:=a) (c:=128) (by decide) oM oM
  simp only[decide_eq_true h3,cond_true,zG.sat,lN]
  omega
 ·simp only[decide_eq_false h3,cond_false,zG.sat,bE,lN]
  omega
theorem MH(n:Int)(h:0≤n∧n≤1073741824):(SB n).length≤5:=xG n▸KF n h
theorem aI(s:uB)(h:s.length≤1073741824):(KB s).length≤s.length+5:=by
 have:=KF (s.length:Int) oM
 unfold KB
 rw[List.length_append];omega
theorem vK(s:uB)(h:s.length≤1073741824):(KD s).length≤s.length+5:=cI s▸aI s h
theorem LJ(b:Bool):(uD b).length=1:=by cases b<;>rfl
theorem xN(b:Bool):(oF b).length=1:=by cases b<;>rfl
theorem RG(b:uB):(IE b).length=b.length+3:=by unfold IE;rw[List.length_append,bE];rfl
theorem wN(b:uB):(ZG b).length=b.length+3:=by unfold ZG lG;rw[List.length_append,bE];rfl
theorem pO(b:uB):vD b=DH b:=rfl
theorem uL(b:uB):0≤vD b∧vD b<16000057:=by
 unfold vD
 refine UF (fun _ (x:Int)=>0≤x∧x<16000057) (fun v=>0≤v∧v<16000057) ⟨by decide,by decide⟩ (fun s h=>h) ?_
 intro j x _ _ hx
 unfold HF
 have h1:0≤((b.getD j 0).toNat:Int)∧((b.getD j 0).toNat:Int)<256:=⟨by omega,by have:=(b.getD j 0).toNat_lt;omega⟩
 dsimp only
 rw[uC (n:=31*x) oM,uC (n:=((b.getD j 0).toNat:Int)) oM,uC (n:=31*x+_) oM,uC oM]
 exact⟨Int.tmod_nonneg _ oM,Int.tmod_lt_of_pos _ (by decide)⟩
theorem cP(b:uB):IE b=ZG b:=by
 unfold IE ZG lG
 rw[←pO]
 have h:=uL b
 generalize vD b=n at h
 have t1:Int.tdiv n 65536=n / 65536:=Int.tdiv_eq_ediv_of_nonneg oM
 have t2:Int.tdiv n 256=n / 256:=Int.tdiv_eq_ediv_of_nonneg oM
 have f1:Int.fdiv n 65536=n / 65536:=Int.fdiv_eq_ediv_of_nonneg _ (by decide)
 have f2:Int.fdiv n 256=n / 256:=Int.fdiv_eq_ediv_of_nonneg _ (by decide)
 rw[t1,t2,f1,f2,uC (n:=n / 65536) oM,uC (n:=n / 256) oM]
 have m1:Int.tmod (n / 256) 256=(n / 256) % 256:=Int.tmod_eq_emod_of_nonneg oM
 have m2:Int.tmod n 256=n % 256:=Int.tmod_eq_emod_of_nonneg oM
 rw[m1,m2]
 rw[tP (a:=n / 256) (b:=n / 256 % 256) oM,tP (a:=n) (b:=n % 256) oM]
theorem qN{s:uB}(h:AF s=true):s.length≤12:=by
 unfold AF at h
 have:=NG (BE h).1
 omega
theorem rN{s:uB}(h:aG s=true):s.length≤24:=by
 unfold aG at h
 have:=of_decide_eq_true (BE h).1
 omega
theorem VL{k v:uB}{g:Bool}(h:SC k v g=true):k.length≤12∧v.length≤24:=by
 rw[sK,JJ]at h
 simp only[Bool.and_eq_true]at h
 exact⟨qN h.1,rN h.2.1⟩
def tJ(d:PB):Prop:=∀k,k<d.List.length→(0≤(d.List.getD k aA).Time∧(d.List.getD k aA).Time≤100000)∧(d.List.getD k aA).Key.length≤12∧(d.List.getD k aA).Val.length≤24
theorem XH{d:PB}(h:kC d=true):(d.List.length≤60∧0≤d.From∧d.From≤100000∧0≤d.To∧d.To≤100000)∧tJ d:=by
 unfold kC EG at h
 obtain⟨h1,h⟩:=BE h
 obtain⟨h2,h⟩:=BE h
 obtain⟨_,h⟩:=BE h
 obtain⟨h4,h⟩:=BE h
 obtain⟨h5,_⟩:=BE h
 have h1:=zI h1
 have h2:=zI h2
 have h4:=of_decide_eq_true h4
 rw[BJ,pK,Bool.and_eq_true,Bool.and_eq_true]at h5
 refine⟨⟨by omega,h1.1,h1.2,h2.1,h2.2⟩,fun k hk=>?_⟩
 have h6:=List.all_eq_true.1 h5.1.1 _ (vH (d:=aA) hk)
 unfold FC at h6
 obtain⟨a,h6⟩:=BE h6
 obtain⟨_,h6⟩:=BE h6
 have a:=NG a
 exact⟨⟨by omega,a.2⟩,VL h6⟩
theorem yI{d:PB}(h:YC d=true):(d.List.length≤60∧0≤d.From∧d.From≤100000∧0≤d.To∧d.To≤100000)∧tJ d:=by
 have hf:LI d.From:=by
  unfold YC at h
  rw[HO aA (fun c=>decide (c.Group=0)&&gD c.Time (IntKind.wrap .i64 (d.From+1)) d.To) (r:=false) fun k=>by
   unfold lD
   cases decide ((d.List.getD k aA).Group=0)<;>cases gD ((d.List.getD k aA).Time) (IntKind.wrap .i64 (d.From+1)) d.To<;>rfl]at h
  obtain⟨_,h⟩:=BE h
  obtain⟨h1,h⟩:=BE h
  obtain⟨h2,_⟩:=BE h
  have h1:=NG h1
  have h2:=of_decide_eq_true h2
  unfold LI;omega
 have:=mI d hf
 unfold wH at this
 rw[h]at this
 exact XH this
theorem PO(b:Bool):uD b=oF b:=rfl
def SF(c:nA):uB:=(((OA c.Time)++(KB c.Key))++(uD c.Gone))++(KB c.Val)
theorem iL(d:PB)(hw:LI d.From):LA d=FD d:=by
 unfold LA FD
 rw[mI d hw]
 unfold wH
 cases YC d
 ·rfl
 ·simp only[cond_true]
  have hi:YB d=IE ((((OA d.From)++(OA d.To))++(OA (d.List.length:Int)))++(d.List.map SF).flatten):=by
   unfold YB
   rw[yP (body:=vE d) (xs:=d.List) aA SF fun k x _=>rfl]
  rw[yP (body:=wE d) (xs:=d.List) aA SF fun k x _=>by unfold wE SF;rw[←cI,←cI,←xG,←PO];simp only[List.append_assoc]]
  rw[←xG,←xG,←xG,hi,RG,←cP]
  generalize (((OA d.From)++(OA d.To))++(OA (d.List.length:Int)))++(d.List.map SF).flatten=s
  by_cases h:5997<s.length
  ·rw[decide_eq_true (show(6000:Int)<((s.length+3:Nat):Int)by omega),decide_eq_true (show(5997:Int)<(s.length:Int)by omega),cond_true]
  ·rw[decide_eq_false (show ¬(6000:Int)<((s.length+3:Nat):Int)by omega),decide_eq_false (show ¬(5997:Int)<(s.length:Int)by omega),cond_false]
theorem UO{a f m:Int}(h1:0≤a)(h2:a≤127)(h3:0≤f)(h4:f≤m):0≤a*f∧a*f≤127*m:=
 ⟨Int.mul_nonneg h1 h3,Int.le_trans (Int.mul_le_mul_of_nonneg_right h2 h3) (Int.mul_le_mul_of_nonneg_left h4 (by decide))⟩
theorem UK(p:uB){f:Int}(h1:0≤f)(h2:f≤34359738368):0≤IntKind.wrap .i64 ((IntKind.wrap .i64 (Int.tmod ((p.getD 0 0).toNat:Int) 128))*f)∧IntKind.wrap .i64 ((IntKind.wrap .i64 (Int.tmod ((p.getD 0 0).toNat:Int) 128))*f)≤4363686772736:=by
 have h:=Int.tmod_eq_emod_of_nonneg (a:=((p.getD 0 0).toNat:Int)) (b:=128) oM
 have hw:IntKind.wrap .i64 (Int.tmod ((p.getD 0 0).toNat:Int) 128)=((p.getD 0 0).toNat:Int) % 128:=by rw[h];exact uC oM
 rw[hw]
 have hm:=UO (a:=((p.getD 0 0).toNat:Int) % 128) (f:=f) (m:=34359738368) oM oM h1 h2
 rw[uC oM];exact⟨hm.1,by omega⟩
theorem QG(b:uB)(s:Int×Bool):(mB b s).1=s.1:=rfl
theorem bI{b:uB}(o:aF b)(s:Int×Bool)(n:Int)(h:0≤s.1∧s.1≤(b.length:Int)∧0≤n∧n≤1073741824) :
  (kA b s n=([],(s.1,true))∧(s.2=true∨(b.length:Int)<s.1+n))∨(kA b s n=((b.drop s.1.toNat).take n.toNat,(s.1+n,false))∧s.2=false∧s.1+n≤(b.length:Int)):=by
 unfold aF at o
 unfold kA mB
 cases h2:s.2 with
 | true=>exact .inl ⟨rfl,.inl rfl⟩
 | false=>
  simp only[cond_false]
  rw[uC (n:=(b.length:Int)-s.1) oM]
  by_cases h3:(b.length:Int)-s.1<n
  ·rw[decide_eq_true h3];exact .inl ⟨rfl,.inr oM⟩
  ·rw[decide_eq_false h3]
   refine .inr ⟨?_,trivial,by omega⟩
   simp only[cond_false]
   rw[uC (n:=s.1+n) oM,uC (n:=s.1+n-n) oM,List.drop_take,show s.1+n-n=s.1 by omega,show(s.1+n).toNat-s.1.toNat=n.toNat by omega]
theorem iJ{b:uB}(o:aF b)(s:Int×Bool)(n:Int)(h:0≤s.1∧s.1≤(b.length:Int)∧0≤n∧n≤1073741824):s.1≤(kA b s n).2.1∧(kA b s n).2.1≤(b.length:Int):=by
 rcases bI o s n h with⟨e,_⟩ | ⟨e,_,h2⟩<;>rw[e]<;>dsimp only<;>omega
theorem TN{b:uB}{s:Int×Bool}{n:Int}(hf:(kA b s n).2.2=false)(o:aF b)(h:0≤s.1∧s.1≤(b.length:Int)∧0≤n∧n≤1073741824):(kA b s n).2.1=s.1+n∧((kA b s n).1.length:Int)=n∧s.1+n≤(b.length:Int):=by
 rcases bI o s n h with⟨e,_⟩ | ⟨e,_,h2⟩<;>rw[e]at hf ⊢
 ·cases hf
 ·dsimp only;rw[List.length_take,List.length_drop];omega
theorem ZH{b:uB}(o:aF b)(s:Int×Bool)(h:0≤s.1∧s.1≤(b.length:Int)):s.1≤(dA b s).2.1∧(dA b s).2.1≤(b.length:Int)∧0≤(dA b s).1∧(dA b s).1≤1000000000:=by
 have ho:b.length≤1073741824:=o
 unfold dA
 refine nH (fun(p:Int×Int×Int×Bool)=>s.1≤p.2.2.1∧p.2.2.1≤(b.length:Int)∧0≤p.1∧p.1≤1000000000∧p.2.2.1-s.1≤5∧0≤p.2.1∧((p.2.2.1-s.1=0∧p.2.1=1)∨(p.2.2.1-s.1=1∧p.2.1=128)∨(p.2.2.1-s.1=2∧p.2.1=16384)∨(p.2.2.1-s.1=3∧p.2.1=2097152)∨(p.2.2.1-s.1=4∧p.2.1=268435456)∨(p.2.2.1-s.1=5∧p.2.1=34359738368))) (fun(p:Int×Int×Int×Bool)=>(6-(p.2.2.1-s.1)).toNat) (fun(v:Int×(Int×Bool))=>s.1≤v.2.1∧v.2.1≤(b.length:Int)∧0≤v.1∧v.1≤1000000000) ?_ _ _ ⟨Int.le_refl _,h.2,by dsimp only;omega,by dsimp only;omega,by dsimp only;omega,by dsimp only;omega,.inl ⟨by dsimp only;omega,rfl⟩⟩ (by dsimp only;omega)
 rintro⟨n,f,a,g⟩ hI
 dsimp only at hI
 unfold CB
 dsimp only
 have hr:=iJ o (a,g) 1 ⟨by dsimp only;omega,hI.2.1,by decide,by decide⟩
 dsimp only at hr
 cases ht:(kA b (a,g) 1).2.2 with
 | true=>simp only[cond_true,zG.sat];exact⟨by omega,hr.2,oM,by omega⟩
 | false=>
  have hd:=TN ht o ⟨by dsimp only;omega,hI.2.1,by decide,by decide⟩
  dsimp only at hd
  have hm:=UK (kA b (a,g) 1).1 (f:=f) hI.2.2.2.2.2.1 oM
  simp only[cond_false]
  generalize IntKind.wrap .i64 ((IntKind.wrap .i64 (Int.tmod (((kA b (a,g) 1).1.getD 0 0).toNat:Int) 128))*f)=z at hm
  rw[uC (n:=n+z) oM,uC (n:=(kA b (a,g) 1).2.1-s.1) oM]
  by_cases h1:(1000000000:Int)<n+z
  ·simp only[decide_eq_true h1,cond_true,zG.sat,QG];exact⟨by omega,hr.2,oM,by omega⟩
  ·simp only[decide_eq_false h1,cond_false]
   by_cases h2:(5:Int)<(kA b (a,g) 1).2.1-s.1
   ·simp only[decide_eq_true h2,cond_true,zG.sat,QG];exact⟨by omega,hr.2,oM,by omega⟩
   ·simp only[decide_eq_false h2,cond_false]
    cases decide (((((kA b (a,g) 1).1).getD 0 0).toNat:Int)<128)with
    | true=>
     simp only[cond_true,zG.sat]
     cases hq:(OA (n+z))==((b.take ((kA b (a,g) 1).2.1).toNat).drop s.1.toNat)
     ·simp only[cond_false,QG];exact⟨by omega,hr.2,oM,by omega⟩
     ·simp only[cond_true];exact⟨by omega,hr.2,oM,by omega⟩
    | false=>
     simp only[cond_false,zG.sat]
     rw[uC (n:=f*128) oM]
     refine⟨⟨by omega,hr.2,oM,by omega,oM,by omega,?_⟩,by omega⟩
     omega
theorem TM{b:uB}(o:aF b)(s:Int×Bool)(h:0≤s.1∧s.1≤(b.length:Int)):s.1≤(CA b s).2.1∧(CA b s).2.1≤(b.length:Int):=by
 have hn:=ZH o s h
 unfold CA
 by_cases h1:60<(dA b s).1
 ·simp only[decide_eq_true h1,cond_true,QG];omega
 ·simp only[decide_eq_false h1,cond_false]
  have ht:=iJ o (dA b s).2 (dA b s).1 ⟨by omega,oM,by omega,by omega⟩
  omega
def WL:Nat→Nat→uB
 | 0,n=>[n.toUInt8]
 | f+1,n=>if n<128 then[n.toUInt8]else(n % 128+128).toUInt8::WL f (n / 128)
theorem RI(a:Int):∀(f n m:Nat) (x:List Int),n<128 ^ (f+1)→n≤1073741824→n<m→qD (GC (HC a) m ((n:Int),x)) (fun r=>r) (fun(x27,x28)=>NI (x28++([IntKind.wrap .u8 x27]:List Int)))=NI x++WL f n
 | f,n,0,x,_,_,h=>absurd h (Nat.not_lt_zero _)
 | f,n,m+1,x,h,hb,hm=>by
  have hs:∀y:List Int,NI (x++y)=NI x++NI y:=fun y=>List.map_append ..
  by_cases h1:(128:Int)≤(n:Int)
  ·have hf:∃g,f=g+1:=by cases f with | zero=>simp at h;omega | succ g=>exact⟨g,rfl⟩
   obtain⟨g,rfl⟩:=hf
   have hq:IntKind.wrap .i64 (Int.tdiv (n:Int) 128)=((n / 128:Nat):Int):=by
    rw[Int.tdiv_eq_ediv_of_nonneg oM,uC oM];omega
   have hB:HC a ((n:Int),x)=.cont (((n / 128:Nat):Int),(x++([IntKind.wrap .u8 ((IntKind.wrap .u8 (Int.tmod (n:Int) 128))+128)]:List Int))):=by
    unfold HC;dsimp only;rw[decide_eq_true h1,hq];rfl
   rw[tD hm hB,Nat.add_sub_cancel,RI a g (n / 128) m _ (by rw[Nat.div_lt_iff_lt_mul (by decide)];rw[Nat.pow_succ]at h;exact h) oM oM,hs]
   have hd:NI [IntKind.wrap .u8 ((IntKind.wrap .u8 (Int.tmod (n:Int) 128))+128)]=[(n % 128+128).toUInt8]:=by
    rw[Int.tmod_eq_emod_of_nonneg oM,yJ,yJ]
    show[UInt8.ofNat _]=[UInt8.ofNat _]
    congr 2;omega
   rw[hd,List.append_assoc]
   congr 1
   show _=WL (g+1) n
   conv=>rhs;unfold WL
   rw[if_neg oM];rfl
  ·have hB:HC a ((n:Int),x)=.brk ((n:Int),x):=by
    unfold HC;dsimp only;rw[decide_eq_false h1];rfl
   rw[ED hm hB]
   show NI (x++[IntKind.wrap .u8 (n:Int)])=_
   rw[hs]
   have hd:NI [IntKind.wrap .u8 (n:Int)]=[n.toUInt8]:=by
    rw[yJ]
    show[UInt8.ofNat _]=[UInt8.ofNat _]
    congr 2;omega
   rw[hd]
   congr 1
   cases f with
   | zero=>rfl
   | succ g=>unfold WL;rw[if_pos oM]
theorem KJ{n:Nat}(h:n≤1000000000):OA (n:Int)=WL 4 n:=by
 unfold OA
 rw[RI _ 4 n _ [] oM oM oM];rfl
theorem FP(f n:Nat):0<(WL f n).length:=by
 cases f with
 | zero=>exact Nat.one_pos
 | succ f=>unfold WL;split<;>simp
theorem VK{b:uB}{a:Nat}{c:UInt8}{r:uB}(h:b.drop a=c::r):a<b.length∧b.drop (a+1)=r∧b.getD a 0=c:=by
 have hl:a<b.length:=by
  have:=congrArg List.length h
  rw[List.length_drop,List.length_cons]at this;omega
 rw[List.drop_eq_getElem_cons hl]at h
 injection h with h1 h2
 exact⟨hl,h2,by rw[←h1];simp[List.getD,List.getElem?_eq_getElem hl]⟩
theorem cM{b:uB}(o:aF b){a:Nat}{c:UInt8}{r:uB}(h:b.drop a=c::r):kA b ((a:Int),false) 1=([c],(((a+1:Nat):Int),false)):=by
 have hd:=VK h
 rcases bI o ((a:Int),false) 1 ⟨by dsimp only;omega,by dsimp only;omega,by decide,by decide⟩with⟨_,h2⟩ | ⟨e,_,_⟩
 ·rcases h2 with h2 | h2
  ·cases h2
  ·dsimp only at h2;omega
 ·rw[e];dsimp only
  rw[Int.toNat_natCast,h];rfl
theorem xM{m F:Nat}:m*F=(m % 128)*F+(m / 128)*(F*128):=by
 conv=>lhs;rw[←Nat.div_add_mod m 128]
 rw[Nat.add_mul,Nat.add_comm,Nat.mul_comm 128,Nat.mul_assoc,Nat.mul_comm 128]
theorem VO(f m:Nat):∃c r,WL f m=c::r:=by
 cases h:WL f m with
 | nil=>have:=FP f m;rw[h]at this;cases this
 | cons c r=>exact⟨c,r,rfl⟩
theorem WO{f m:Nat}{c:UInt8}{r:uB}(h:m<128)(hc:WL f m=c::r):c.toNat=m∧r=[]:=by
 have hcm:c=m.toUInt8∧r=[]:=by
  cases f with
  | zero=>injection hc with h1 h2;exact⟨h1.symm,h2.symm⟩
  | succ g=>unfold WL at hc;rw[if_pos h]at hc;injection hc with h1 h2;exact⟨h1.symm,h2.symm⟩
 refine⟨?_,hcm.2⟩
 rw[hcm.1];simp[Nat.toUInt8];omega
theorem XO{g m:Nat}{c:UInt8}{r:uB}(h:¬m<128)(hc:WL (g+1) m=c::r):c.toNat=m % 128+128∧r=WL g (m / 128):=by
 unfold WL at hc;rw[if_neg h]at hc;injection hc with h1 h2
 refine⟨?_,h2.symm⟩
 rw[←h1];simp[Nat.toUInt8];omega
theorem wM{m F n N:Nat}(h:n+m*F=N)(hm:¬m<128)(hN:N≤1000000000):F*128≤1000000000∧n+(m % 128)*F+(m / 128)*(F*128)=N∧n+(m % 128)*F≤N:=by
 have hst:=xM (m:=m) (F:=F)
 have h1:1≤m / 128:=by omega
 have h2:1*(F*128)≤(m / 128)*(F*128):=Nat.mul_le_mul_right _ h1
 omega
theorem XL{b:uB}(o:aF b)(s:Int×Bool){post:uB}{N:Nat}(hN:N≤1000000000):∀(f m F i a n mu:Nat),n+m*F=N→F≤1000000000→b.drop a=WL f m++post→m<128 ^ (f+1)→s.1=((a-i:Nat):Int)→i≤a→i+f≤4→f<mu→∃F':Int,GC (CB b s) mu ((n:Int),(F:Int),(a:Int),false)=.done ((N:Int),F',((a+(WL f m).length:Nat):Int),false)
 | f,m,F,i,a,n,0,_,_,_,_,_,_,_,h=>absurd h (Nat.not_lt_zero _)
 | f,m,F,i,a,n,mu+1,hn,hF,hb,hm,hs,hia,hi,hmu=>by
  have ho:b.length≤1073741824:=o
  obtain⟨c,r,hc⟩:=VO f m
  have hb2:b.drop a=c::(r++post):=by rw[hb,hc];rfl
  have ht:=cM o hb2
  have hd:=VK hb2
  have hg:([c]:uB).getD 0 0=c:=rfl
  have hc8:=c.toNat_lt
  have hw:IntKind.wrap .i64 (Int.tmod (c.toNat:Int) 128)=((c.toNat % 128:Nat):Int):=by
   rw[Int.tmod_eq_emod_of_nonneg oM,uC oM];omega
  have e2:¬(5:Int)<((a+1:Nat):Int)-s.1:=by rw[hs];omega
  by_cases h128:m<128
  ·obtain⟨hcn,hr⟩:=WO h128 hc
   have hmul:((c.toNat % 128:Nat):Int)*(F:Int)=((m*F:Nat):Int):=by
    rw[hcn,Nat.mod_eq_of_lt h128];exact(Int.natCast_mul ..).symm
   have e1:¬(1000000000:Int)<(n:Int)+((m*F:Nat):Int):=by omega
   have e3:((c.toNat:Nat):Int)<128:=by omega
   have hB:CB b s ((n:Int),(F:Int),(a:Int),false)=.brk ((n:Int)+((m*F:Nat):Int),(F:Int),((a+1:Nat):Int),false):=by
    unfold CB
    dsimp only
    rw[ht]
    dsimp only[cond_false]
    rw[hg,hw,hmul,uC (n:=((m*F:Nat):Int)) oM,uC (n:=(n:Int)+_) oM,uC (n:=(((a+1:Nat):Int))-s.1) (by rw[hs];omega),decide_eq_false e1,decide_eq_false e2,decide_eq_true e3]
    rfl
   refine⟨(F:Int),?_⟩
   rw[ED hmu hB,hc,hr]
   congr 2
   omega
  ·have hg':∃g,f=g+1:=by
    cases f with
    | zero=>simp at hm;omega
    | succ g=>exact⟨g,rfl⟩
   obtain⟨g,rfl⟩:=hg'
   obtain⟨hcn,hr⟩:=XO h128 hc
   obtain⟨n1,n2,n3⟩:=wM hn h128 hN
   have hmul:((c.toNat % 128:Nat):Int)*(F:Int)=(((m % 128)*F:Nat):Int):=by
    rw[hcn,show(m % 128+128) % 128=m % 128 by omega];exact(Int.natCast_mul ..).symm
   have e1:¬(1000000000:Int)<(n:Int)+(((m % 128)*F:Nat):Int):=by omega
   have e3:¬((c.toNat:Nat):Int)<128:=by omega
   have hB:CB b s ((n:Int),(F:Int),(a:Int),false)=.cont (((n+(m % 128)*F:Nat):Int),((F*128:Nat):Int),((a+1:Nat):Int),false):=by
    unfold CB
    dsimp only
    rw[ht]
    dsimp only[cond_false]
    rw[hg,hw,hmul,uC (n:=(((m % 128)*F:Nat):Int)) oM,uC (n:=(n:Int)+_) oM,uC (n:=(((a+1:Nat):Int))-s.1) (by rw[hs];omega),uC (n:=(F:Int)*128) oM,decide_eq_false e1,decide_eq_false e2,decide_eq_false e3]
    dsimp only[cond_false]
    congr 2
   obtain⟨F',ih⟩:=XL o s (post:=post) hN g (m / 128) (F*128) (i+1) (a+1) (n+(m % 128)*F) mu n2 n1 (by rw[hd.2.1,hr]) (by rw[Nat.div_lt_iff_lt_mul (by decide)];rw[Nat.pow_succ]at hm;exact hm) (by rw[hs];congr 1;omega) oM oM oM
   refine⟨F',?_⟩
   rw[tD hmu hB,Nat.add_sub_cancel,ih,hc,hr]
   congr 4
   rw[List.length_cons];omega
theorem BN{b x post:uB}{a:Nat}(h:b.drop a=x++post):(b.take (a+x.length)).drop a=x:=by
 rw[List.drop_take,h,Nat.add_sub_cancel_left,List.take_left']
 rfl
theorem EI{b:uB}(o:aF b){post:uB}{N a:Nat}(hN:N≤1000000000)(h:b.drop a=OA (N:Int)++post):dA b ((a:Int),false)=((N:Int),(((a+(OA (N:Int)).length:Nat):Int),false)):=by
 rw[KJ hN]at h ⊢
 obtain⟨F',hl⟩:=XL o ((a:Int),false) hN 4 N 1 0 a 0 7 oM oM h oM rfl (Nat.zero_le _) oM oM
 unfold dA
 rw[show((6-(((a:Int),false).1-((a:Int),false).1)).toNat+1)=7 by dsimp only;omega]
 dsimp only
 rw[show((0:Int),(1:Int),(a:Int),false)=(((0:Nat):Int),((1:Nat):Int),(a:Int),false)from rfl,hl,PA]
 dsimp only
 rw[Int.toNat_natCast,Int.toNat_natCast,BN h,KJ hN,beq_self_eq_true]
 rfl
theorem vG{b x post:uB}{a:Nat}(h:b.drop a=x++post):b.drop (a+x.length)=post:=by
 rw[←List.drop_drop,h,List.drop_left']
 rfl
theorem gL{b:uB}(o:aF b){post t:uB}{a:Nat}(ht:t.length≤60)(hl:a+(KB t).length≤b.length)(h:b.drop a=KB t++post):CA b ((a:Int),false)=(t,(((a+(KB t).length:Nat):Int),false)):=by
 have ho:b.length≤1073741824:=o
 unfold KB at h hl ⊢
 rw[List.append_assoc]at h
 rw[List.length_append]at hl
 have hn:=EI o oM h
 have hd:=vG h
 unfold CA
 rw[hn]
 dsimp only
 rw[decide_eq_false oM,cond_false]
 rcases bI o (((a+(OA (t.length:Int)).length:Nat):Int),false) (t.length:Int) ⟨by dsimp only;omega,by dsimp only;omega,oM,by omega⟩with⟨_,h2⟩ | ⟨e,_,_⟩
 ·rcases h2 with h2 | h2
  ·cases h2
  ·dsimp only at h2;omega
 ·rw[e];dsimp only
  rw[Int.toNat_natCast,Int.toNat_natCast,hd,List.take_left' rfl,List.length_append]
  congr 2;omega
theorem pL{b:uB}(o:aF b):aF (cA b).1:=by
 unfold aF at *
 unfold cA
 cases yE (b.length:Int) 3 6000
 ·exact Nat.zero_le _
 ·dsimp only[cond_true]
  cases (IE (b.take ((IntKind.wrap .i64 ((b.length:Int)-3)).toNat)))==b
  ·exact Nat.zero_le _
  ·dsimp only[cond_true];rw[List.length_take];omega
theorem AN(x:uB):(IE x).take x.length=x:=by
 unfold IE
 exact List.take_left' rfl
theorem DK{x:uB}(h:x.length≤5997):cA (IE x)=(x,true):=by
 unfold cA
 have hl:=RG x
 have hw:yE ((IE x).length:Int) 3 6000=true:=by
  unfold yE
  rw[hl,decide_eq_true oM,cond_true,decide_eq_true oM]
 rw[hw,cond_true,uC oM,show(((IE x).length:Int)-3).toNat=x.length by omega,AN,beq_self_eq_true,cond_true]
def uI(d:PB):uB:=(((OA d.From)++(OA d.To))++(OA (d.List.length:Int)))++(d.List.map SF).flatten
theorem HE(d:PB):YB d=IE (uI d):=by
 unfold YB uI
 rw[yP (body:=vE d) (xs:=d.List) aA SF fun k x _=>rfl]
def mK(c:nA):Prop:=0≤c.Time∧c.Time≤100000∧c.Key.length≤12∧c.Val.length≤24∧c.Group=0
theorem tH{d:PB}(h:kC d=true):(d.List.length≤60∧0≤d.From∧d.From≤100000∧0≤d.To∧d.To≤100000)∧∀c∈d.List,mK c:=by
 have h1:=XH h
 refine⟨h1.1,fun c hc=>?_⟩
 obtain⟨k,hk,rfl⟩:=List.getElem_of_mem hc
 have h2:=h1.2 k hk
 rw[YH hk]at h2
 refine⟨h2.1.1,h2.1.2,h2.2.1,h2.2.2,?_⟩
 have hw:LI d.From:=by have:=h1.1;unfold LI;omega
 have h3:=mI d hw
 unfold wH at h3
 rw[h,qK d hw]at h3
 have h4:=h3.symm
 simp only[Bool.and_eq_true]at h4
 have h5:=List.all_eq_true.1 h4.2 _ hc
 unfold BI at h5
 simp only[Bool.and_eq_true,decide_eq_true_eq]at h5
 exact h5.1.1
theorem AM{x:uB}{c:nA}{cs:List nA}{a:Nat}(hc:mK c)(h:x.drop a=((c::cs).map SF).flatten)(hl:a+((c::cs).map SF).flatten.length≤x.length) :
  ∃T a1 a2 a4:Nat,c.Time=(T:Int)∧T≤100000∧a1=a+(OA (T:Int)).length∧a2=a1+(KB c.Key).length∧a4=a2+1+(KB c.Val).length ∧
  x.drop a=OA (T:Int)++(KB c.Key++(uD c.Gone++(KB c.Val++(cs.map SF).flatten)))∧x.drop a1=KB c.Key++(uD c.Gone++(KB c.Val++(cs.map SF).flatten))∧x.drop a2=(bif c.Gone then 1 else 0:UInt8)::(KB c.Val++(cs.map SF).flatten)∧x.drop (a2+1)=KB c.Val++(cs.map SF).flatten∧x.drop a4=(cs.map SF).flatten ∧
  a4+(cs.map SF).flatten.length≤x.length∧a4+(cs.map SF).flatten.length=a+((c::cs).map SF).flatten.length:=by
 unfold mK at hc
 have e:((c::cs).map SF).flatten=OA c.Time++(KB c.Key++(uD c.Gone++(KB c.Val++(cs.map SF).flatten))):=by
  rw[List.map_cons,List.flatten_cons];unfold SF;simp only[List.append_assoc]
 have hT:c.Time=((c.Time.toNat:Nat):Int):=by omega
 rw[e]at h hl
 rw[hT]at h hl e
 have h1:=vG h
 have h2:=vG h1
 have h3:=vG h2
 have h4:=vG h3
 have hf:=LJ c.Gone
 rw[hf]at h3 h4
 simp only[List.length_append,hf]at hl
 have hfl:∀r:uB,uD c.Gone++r=(bif c.Gone then 1 else 0:UInt8)::r:=by intro r;cases c.Gone<;>rfl
 refine⟨c.Time.toNat,_,_,_,hT,oM,rfl,rfl,rfl,h,h1,by rw[h2,hfl],h3,h4,oM,by rw[e];simp only[List.length_append,hf];omega⟩
theorem nK{b x:uB}(o:aF x)(hx:(cA b).1=x):∀(cs:List nA) (a mu:Nat) (acc:List nA),(∀c∈cs,mK c)→x.drop a=(cs.map SF).flatten→a+(cs.map SF).flatten.length≤x.length→cs.length<mu→cs.length≤1000 →
  GC (CC b) mu ((cs.length:Int),(a:Int),false,acc)=.done (0,((a+(cs.map SF).flatten.length:Nat):Int),false,acc++cs)
 | cs,a,0,acc,_,_,_,h,_=>absurd h (Nat.not_lt_zero _)
 | [],a,mu+1,acc,_,_,_,hm,_=>by
  have hB:CC b (((0:Nat):Int),(a:Int),false,acc)=.brk (0,(a:Int),false,acc):=by
   unfold CC;dsimp only;rw[decide_eq_false oM];rfl
  have:=ED (n:=0) hm hB
  rw[List.length_nil,this]
  simp
 | c::cs,a,mu+1,acc,hw,hd,hl,hm,hn=>by
  have hk:=hw c (by simp)
  obtain⟨T,a1,a2,a4,hT,hT2,e1,e2,e4,d1,d2,d3,d4,d5,l1,l2⟩:=AM hk hd hl
  unfold mK at hk
  have t1:=EI o oM d1
  rw[←e1]at t1
  have t2:=gL o (t:=c.Key) oM oM d2
  rw[←e2]at t2
  have t3:=cM o d3
  have t4:=gL o (t:=c.Val) oM oM d4
  rw[←e4]at t4
  have hg:(([(bif c.Gone then 1 else 0:UInt8)]:uB)==([1]:uB))=c.Gone:=by cases c.Gone<;>rfl
  have hB:CC b (((c::cs).length:Int),(a:Int),false,acc)=.cont ((cs.length:Int),(a4:Int),false,acc++[c]):=by
   unfold CC
   dsimp only
   rw[decide_eq_true (by rw[List.length_cons];omega),cond_true,hx,t1]
   dsimp only
   rw[t2]
   dsimp only
   rw[t3]
   dsimp only
   rw[t4,uC oM,List.length_cons,hg]
   dsimp only[cond_false]
   rw[show((cs.length+1:Nat):Int)-1=(cs.length:Int)by omega]
   have:(⟨(T:Int),0,c.Key,c.Val,c.Gone⟩:nA)=c:=by rw[←hT,←hk.2.2.2.2]
   rw[this]
  rw[tD hm hB,Nat.add_sub_cancel,nK o hx cs _ mu _ (fun y hy=>hw y (by simp[hy])) d5 l1 (by rw[List.length_cons]at hm;omega) (by rw[List.length_cons]at hn;omega),l2,List.append_assoc]
  rfl
theorem mN{d:PB}(h:kC d=true):∃F T:Nat,d.From=(F:Int)∧d.To=(T:Int)∧F≤1000000000∧T≤1000000000:=⟨d.From.toNat,d.To.toNat,by have:=(tH h).1;omega,by have:=(tH h).1;omega,by have:=(tH h).1;omega,by have:=(tH h).1;omega⟩
theorem kN{d:PB}{F T:Nat}(hF:d.From=(F:Int))(hT:d.To=(T:Int)):(uI d).drop 0=OA (F:Int)++(OA (T:Int)++(OA (d.List.length:Int)++(d.List.map SF).flatten)) ∧
  (uI d).length=(OA (F:Int)).length+(OA (T:Int)).length+(OA (d.List.length:Int)).length+(d.List.map SF).flatten.length:=by
 rw[List.drop_zero,←hF,←hT];unfold uI
 exact⟨by simp only[List.append_assoc],by simp only[List.length_append]⟩
theorem jN{d:PB}(h:kC d=true)(hl:(YB d).length≤6000):FB (YB d)=(d,true):=by
 obtain⟨h1,h2⟩:=tH h
 obtain⟨F,T,hF,hT,hF2,hT2⟩:=mN h
 rw[HE,RG]at hl
 have hO:cA (YB d)=(uI d,true):=by rw[HE];exact DK oM
 have o:aF (uI d):=by unfold aF;omega
 obtain⟨d0,hlen⟩:=kN hF hT
 have n1:=EI o hF2 d0
 rw[Nat.zero_add]at n1
 have d1:=vG d0
 rw[Nat.zero_add]at d1
 have n2:=EI o hT2 d1
 have d2:=vG d1
 have n3:=EI o oM d2
 have d3:=vG d2
 have hr:=nK (b:=YB d) o (by rw[hO]) d.List _ (d.List.length+1) [] h2 d3 oM oM oM
 have z:((0:Int),false)=(((0:Nat):Int),false):=rfl
 unfold FB
 rw[hO]
 dsimp only[cond_true]
 rw[z,n1]
 dsimp only
 rw[n2]
 dsimp only
 rw[n3]
 dsimp only
 rw[Int.toNat_natCast,hr,PA,List.nil_append,←hT,←hF]
 dsimp only[cond_false]
 rw[show(⟨d.From,d.To,d.List⟩:PB)=d from rfl,h,cond_true,beq_self_eq_true,cond_true]
def GN(b:uB)(v:PB×Bool):Prop:=v=(⟨0,0,[]⟩,false)∨(v.2=true∧kC v.1=true∧YB v.1=b∧b.length≤6000)
theorem jL{b:uB}(h:(cA b).2=true):b.length≤6000:=by
 unfold cA at h
 cases hw:yE (b.length:Int) 3 6000
 ·rw[hw]at h;cases h
 ·have:=zI hw;omega
theorem nI{b:uB}(o:aF b):GN b (FB b):=by
 have o1:=pL o
 have r1:=ZH o1 (0,false) ⟨by decide,by dsimp only;omega⟩
 have r2:=ZH o1 (dA (cA b).1 (0,false)).2 ⟨by omega,by omega⟩
 have r3:=ZH o1 (dA (cA b).1 (dA (cA b).1 (0,false)).2).2 ⟨by omega,by omega⟩
 unfold FB
 cases hb:(cA b).2
 ·exact .inl rfl
 ·have hbl:=jL hb
  dsimp only[cond_true]
  refine nH (fun(p:Int×Int×Bool×List nA)=>0≤p.1∧p.1≤1000000000) (fun p=>p.1.toNat) (GN b) ?_ _ _ ⟨r3.2.2.1,r3.2.2.2⟩ (Nat.lt_succ_self _)
  have hend:∀(F T:Int) (x:List nA) (g:Bool),GN b (bif g then((⟨0,0,[]⟩:PB),false)else bif kC (⟨F,T,x⟩:PB)then bif(YB (⟨F,T,x⟩:PB))==b then((⟨F,T,x⟩:PB),true)else((⟨0,0,[]⟩:PB),false)else((⟨0,0,[]⟩:PB),false)):=by
   intro F T x g
   cases g
   ·dsimp only[cond_false]
    cases hg:kC (⟨F,T,x⟩:PB)
    ·exact .inl rfl
    ·cases hb:(YB (⟨F,T,x⟩:PB))==b
     ·exact .inl rfl
     ·exact .inr ⟨rfl,hg,eq_of_beq hb,hbl⟩
   ·exact .inl rfl
  rintro⟨n,a,g,x⟩ ⟨h1,h2⟩
  unfold CC
  dsimp only at h1 h2 ⊢
  by_cases hn:0<n
  ·rw[decide_eq_true hn]
   cases g
   ·dsimp only[cond_true,cond_false,zG.sat]
    rw[uC oM];omega
   ·exact hend _ _ x true
  ·rw[decide_eq_false hn]
   exact hend _ _ x g
theorem CH(a:Int):0≤IntKind.wrap .i64 (SJ .u64 a 255)∧IntKind.wrap .i64 (SJ .u64 a 255)≤255:=by
 have:=WN a
 rw[uC oM];exact this
theorem VN{l:List uB}{m:Nat}(h:∀y∈l,y.length≤m)(k:Nat):(l.getD k ZF).length≤m:=by
 rcases Nat.lt_or_ge k l.length with hk | hk
 ·exact h _ (vH hk)
 ·rw[List.getD,List.getElem?_eq_none hk];exact Nat.zero_le _
theorem eO(m:Nat)(c:List Int)(s:Int×Int)(l:List uB)(h:∀y∈l,y.length≤m):(PG c s l).1.length≤m:=by
 unfold PG
 exact VN h _
theorem kM{α β:Type}(d:α)(f:α→β)(l:List α){body:Nat→List β→zG (List β) (List β)}(hb:∀k x,body k x=.cont (x++[f (l.getD k d)])):qD (kB body (l.length-0) 0 []) (fun r=>r) (fun x=>x)=l.map f:=by
 refine UF (fun k (x:List β)=>x=(l.take k).map f) (fun v=>v=l.map f) rfl (fun s hs=>by rw[hs,List.take_of_length_le oM]) (fun j s _ hj hs=>?_)
 have hj':j<l.length:=by omega
 rw[hb]
 show s++[f (l.getD j d)]=_
 rw[List.take_succ_eq_append_getElem hj',List.map_append,←hs,←YH (d:=d) hj'];rfl
def wK(h:Int)(c:UInt8):Int:=(31*h+(c.toNat:Int)+1) % 16000057
theorem nJ(h:Int)(c:UInt8):0≤wK h c∧wK h c<16000057:=by unfold wK;omega
theorem TL:∀(b:uB) (h:Int),0≤h∧h<16000057→0≤b.foldl wK h∧b.foldl wK h<16000057
 | [],_,hh=>hh
 | c::b,h,_=>TL b (wK h c) (nJ h c)
theorem bM(b:uB):vD b=b.foldl wK 7:=by
 unfold vD
 refine UF (fun k (x:Int)=>x=(b.take k).foldl wK 7∧0≤x∧x<16000057) (fun v=>v=b.foldl wK 7) ⟨rfl,by decide,by decide⟩ (fun s h=>by rw[h.1,List.take_of_length_le oM]) ?_
 intro j x _ hj hx
 have hj':j<b.length:=by omega
 unfold HF
 have h1:0≤((b.getD j 0).toNat:Int)∧((b.getD j 0).toNat:Int)<256:=⟨by omega,by have:=(b.getD j 0).toNat_lt;omega⟩
 dsimp only
 rw[uC (n:=31*x) oM,uC (n:=((b.getD j 0).toNat:Int)) oM,uC (n:=31*x+_) oM,uC oM,Int.tmod_eq_emod_of_nonneg oM]
 refine⟨?_,oM,by omega⟩
 rw[List.take_succ_eq_append_getElem hj',List.foldl_append,←hx.1,←YH (d:=0) hj']
 rfl
theorem SL:∀(r:uB) (h1 h2:Int),0≤h1∧h1<16000057→0≤h2∧h2<16000057→r.foldl wK h1=r.foldl wK h2→h1=h2
 | [],_,_,_,_,h=>h
 | c::r,h1,h2,r1,r2,h=>by
  have:=SL r (wK h1 c) (wK h2 c) (nJ _ _) (nJ _ _) h
  unfold wK at this
  omega
theorem qO{p r:uB}{c d:UInt8}(hc:c≠d):(p++c::r).foldl wK 7≠(p++d::r).foldl wK 7:=by
 intro h
 rw[List.foldl_append,List.foldl_append]at h
 have hr:=TL p 7 (by decide)
 have:=SL r _ _ (nJ _ _) (nJ _ _) (show r.foldl wK (wK (p.foldl wK 7) c)=r.foldl wK (wK (p.foldl wK 7) d)from h)
 unfold wK at this
 have h1:=c.toNat_lt
 have h2:=d.toNat_lt
 exact hc (UInt8.toNat_inj.1 oM)
def WP(n:Int):uB:=NI ([IntKind.wrap .u8 (Int.fdiv n 65536),IntKind.wrap .u8 (Int.fdiv n 256),IntKind.wrap .u8 n]:List Int)
theorem NH(x:uB):IE x=x++WP (vD x):=rfl
theorem JM{a b:Int}(h:UInt8.ofNat (IntKind.wrap .u8 a).toNat=UInt8.ofNat (IntKind.wrap .u8 b).toNat):a % 256=b % 256:=by
 have:=congrArg UInt8.toNat h
 rw[UInt8.toNat_ofNat',UInt8.toNat_ofNat']at this
 have e:∀x:Int,IntKind.wrap .u8 x=x % 256:=fun x=>by
  unfold IntKind.wrap
  rfl
 rw[e,e]at this
 omega
theorem gP{n m:Int}(hn:0≤n∧n<16000057)(hm:0≤m∧m<16000057)(h:WP n=WP m):n=m:=by
 unfold WP NI at h
 simp only[List.map_cons,List.map_nil,List.cons.injEq,and_true]at h
 obtain⟨h1,h2,h3⟩:=h
 have a1:=JM h1
 have a2:=JM h2
 have a3:=JM h3
 rw[Int.fdiv_eq_ediv_of_nonneg _ (by decide),Int.fdiv_eq_ediv_of_nonneg _ (by decide)]at a1 a2
 omega
theorem zN{x y:uB}{n:Nat}{c:UInt8}(hn:n<(IE x).length)(hc:c≠(IE x)[n])(h:IE y=(IE x).set n c):False:=by
 have hl:y.length=x.length:=by
  have:=congrArg List.length h
  rw[List.length_set,RG,RG]at this
  omega
 rcases Nat.lt_or_ge n x.length with hx | hx
 ·rw[NH,NH,List.set_append_left _ _ hx]at h
  obtain⟨h1,h2⟩:=List.append_inj h (by rw[List.length_set];exact hl)
  have h3:=gP (uL y) (uL x) h2
  have hd:x[n]≠c:=fun e=>hc (by
   simp only[NH]
   rw[List.getElem_append_left hx,e])
  refine qO (p:=x.take n) (r:=x.drop (n+1)) hd ?_
  rw[bM,bM,h1,List.set_eq_take_append_cons_drop,if_pos hx]at h3
  rw[←List.drop_eq_getElem_cons hx,List.take_append_drop,h3]
 ·rw[NH,NH,List.set_append_right _ _ hx]at h
  obtain⟨h1,h2⟩:=List.append_inj h hl
  subst h1
  have hn':n-y.length<(WP (vD y)).length:=by
   rw[RG]at hn
   show _<3
   omega
  refine hc ?_
  have e:(IE y)[n]=(WP (vD y))[n-y.length]:=by
   simp only[NH]
   rw[List.getElem_append_right hx]
  rw[e]
  have:=congrArg (fun l:uB=>l[n-y.length]?) h2
  simp only[List.getElem?_set_self hn',List.getElem?_eq_getElem hn']at this
  exact(Option.some.inj this).symm
theorem kO(l:List iB):BF l=l:=by
 unfold BF
 rw[kM (body:=bG l) xA (fun c=>(⟨c.Key,c.Vers⟩:iB)) l fun k x=>rfl]
 exact List.map_id l
theorem aP(l:List iB):(BF l).length=l.length:=by rw[kO]
theorem MN(l:List iB)(k:uB):-1≤TE l k∧TE l k<(l.length:Int):=by
 unfold TE
 refine UF (fun _ (_:Unit)=>True) (fun(v:Int)=>-1≤v∧v<(l.length:Int)) trivial (fun _ _=>⟨by decide,by omega⟩) ?_
 intro j s _ hj _
 unfold qF
 cases ((l.getD j xA).Key==k)
 ·trivial
 ·exact⟨by omega,by omega⟩
def ND(m:Nat)(l:List iB):Prop:=l.length≤m∧∀y∈l,0<y.Vers.length∧y.Vers.length≤m
theorem ND.at{m:Nat}{l:List iB}(h:ND m l){i:Nat}(hi:i<l.length):0<(l.getD i xA).Vers.length∧(l.getD i xA).Vers.length≤m:=h.2 _ (vH hi)
theorem ND.own{m:Nat}{l:List iB}(h:ND m l):ND m (BF l):=by rw[kO];exact h
theorem ND.mono{m n:Nat}{l:List iB}(h:ND m l)(hn:m≤n):ND n l:=⟨Nat.le_trans h.1 hn,fun y hy=>⟨(h.2 y hy).1,Nat.le_trans (h.2 y hy).2 hn⟩⟩
theorem ND.nil(m:Nat):ND m []:=⟨Nat.zero_le _,fun _ h=>by cases h⟩
theorem ND.put{m:Nat}{l:List iB}(h:ND m l){i:Nat}(hi:i<l.length){k:uB}{v:eC}:ND (m+1) (l.set i (⟨k,(l.getD i xA).Vers++([v]:List eC)⟩:iB)):=by
 refine⟨by rw[List.length_set];exact Nat.le_succ_of_le h.1,fun y hy=>?_⟩
 rcases List.mem_or_eq_of_mem_set hy with hy | rfl
 ·exact⟨(h.2 y hy).1,Nat.le_succ_of_le (h.2 y hy).2⟩
 ·have:=h.at hi
  show 0<((l.getD i xA).Vers++[v]).length∧((l.getD i xA).Vers++[v]).length≤m+1
  rw[List.length_append,List.length_singleton];omega
theorem ND.ins{m:Nat}{l:List iB}(h:ND m l)(i:Nat){k:uB}{v:eC}:ND (m+1) (((l.take i)++([(⟨k,([v]:List eC)⟩:iB)]:List iB))++(l.drop i)):=by
 refine⟨by have:=h.1;simp only[List.length_append,List.length_take,List.length_drop,List.length_cons,List.length_nil];omega,fun y hy=>?_⟩
 rcases List.mem_append.1 hy with hy | hy
 ·rcases List.mem_append.1 hy with hy | hy
  ·have:=h.2 y (List.mem_of_mem_take hy);exact⟨this.1,by omega⟩
  ·rw[List.mem_singleton.1 hy];exact⟨Nat.succ_pos 0,Nat.succ_le_succ (Nat.zero_le _)⟩
 ·have:=h.2 y (List.mem_of_mem_drop hy);exact⟨this.1,by omega⟩
def GM(w:List RD)(t:Int)(j:Nat)(x:List iB)(k:Int):zG ((List iB)×Bool) (List iB):=
 bif decide (0<k)then bif((x.getD ((IntKind.wrap .i64 (k-1)).toNat) xA).Key)==((w.getD j tA).Key)then bif decide (t≤IG x (w.getD j tA).Key)then zG.ret (([]:List iB),false)else .cont (x.set ((IntKind.wrap .i64 (k-1)).toNat) (⟨(x.getD ((IntKind.wrap .i64 (k-1)).toNat) xA).Key,((x.getD ((IntKind.wrap .i64 (k-1)).toNat) xA).Vers++([(⟨t,(w.getD j tA).Val,(w.getD j tA).Gone⟩:eC)]:List eC))⟩:iB))else .cont (((x.take ((k).toNat))++([(⟨(w.getD j tA).Key,([(⟨t,(w.getD j tA).Val,(w.getD j tA).Gone⟩:eC)]:List eC)⟩:iB)]:List iB))++(x.drop ((k).toNat)))else .cont (((x.take ((k).toNat))++([(⟨(w.getD j tA).Key,([(⟨t,(w.getD j tA).Val,(w.getD j tA).Gone⟩:eC)]:List eC)⟩:iB)]:List iB))++(x.drop ((k).toNat)))
def OO(a b:Nat):zG ((List iB)×Bool) (List iB)→Prop
 | .ret r=>ND a r.1
 | .brk s'=>ND a s'
 | .cont s'=>ND b s'
theorem SM{w:List RD}{t:Int}{j m:Nat}{x:List iB}(hx:ND m x){k:Int}(hk:0≤k∧k≤(x.length:Int))(hm:x.length≤1000000)(a:Nat):OO a (m+1) (GM w t j x k):=by
 unfold GM
 cases hd:decide (0<k)
 ·exact hx.ins _
 ·have hk0:=of_decide_eq_true hd
  have hw:IntKind.wrap .i64 (k-1)=k-1:=uC oM
  rw[hw]
  simp only[cond_true]
  cases ((x.getD ((k-1).toNat) xA).Key)==((w.getD j tA).Key)
  ·exact hx.ins _
  ·cases decide (t≤IG x (w.getD j tA).Key)
   ·exact hx.put oM
   ·exact ND.nil _
theorem bP{m:Nat}{l:List iB}(h:ND m l)(w:List RD)(t:Int)(hm:m+w.length≤1000000):ND (m+w.length) (nF l w t).1:=by
 unfold nF
 refine UF (fun j (x:List iB)=>ND (m+j) x) (fun(v:List iB×Bool)=>ND (m+w.length) v.1) (h.own) (fun s hs=>by rw[Nat.zero_add,Nat.sub_zero]at hs;exact hs) ?_
 intro j x _ hj hx
 have hxl:=hx.1
 have key:OO (m+w.length) (m+j+1) (DD l w t j x):=by
  show OO (m+w.length) (m+j+1) (qD (GC (cE l w t j x) ((((x.length:Int)).toNat)+1) ((x.length:Int))) (fun r=>zG.ret r) (GM w t j x))
  refine nH (fun(k:Int)=>0≤k∧k≤(x.length:Int)) (fun k=>k.toNat) (OO (m+w.length) (m+j+1)) ?_ _ _ ⟨by omega,by omega⟩ oM
  intro k hk
  unfold cE
  dsimp only
  cases hd:decide (0<k)
  ·exact SM hx hk oM _
  ·cases CO ((x.getD ((IntKind.wrap .i64 (k-1)).toNat) xA).Key) ((w.getD j tA).Key)
   ·have hk0:=of_decide_eq_true hd
    have hw:IntKind.wrap .i64 (k-1)=k-1:=uC oM
    show(0≤IntKind.wrap .i64 (k-1)∧IntKind.wrap .i64 (k-1)≤(x.length:Int))∧(IntKind.wrap .i64 (k-1)).toNat<k.toNat
    rw[hw]
    omega
   ·exact SM hx hk oM _
 revert key
 cases DD l w t j x<;>exact fun h=>h
theorem NE{n:Int}{l:List iB}(h:ND (100*(5-n).toNat) l)(hn:0<n∧n≤5){w:List RD}(hw:w.length≤8)(t:Int):ND (100*(5-IntKind.wrap .i64 (n-1)).toNat) (nF l w t).1:=by
 have:=bP h w t oM
 rw[show IntKind.wrap .i64 (n-1)=n-1 from uC oM]
 exact this.mono oM
theorem pE{n:Int}{l:List iB}(h:ND (100*(5-n).toNat) l)(hn:0<n∧n≤5):ND (100*(5-IntKind.wrap .i64 (n-1)).toNat) l:=by
 rw[show IntKind.wrap .i64 (n-1)=n-1 from uC oM]
 exact h.mono oM
theorem XJ(d:PB):LA d=([],false)∨(kC d=true∧(YB d).length≤6000∧LA d=(YB d,true)):=by
 unfold LA
 cases h:kC d
 ·exact .inl rfl
 ·cases h2:decide (6000<((YB d).length:Int))
  ·exact .inr ⟨rfl,by have:=of_decide_eq_false h2;omega,rfl⟩
  ·exact .inl rfl
theorem fO(d:PB):aF (LA d).1:=by
 unfold aF
 rcases XJ d with h | ⟨_,hl,h⟩
 ·rw[h];exact Nat.zero_le _
 ·rw[h];show(YB d).length≤_;omega
theorem IP{d:PB}(h:(LA d).2=true):0<(LA d).1.length:=by
 rcases XJ d with e | ⟨_,hl,e⟩
 ·rw[e]at h;cases h
 ·rw[e]
  show 0<(YB d).length
  rw[HE,RG]
  omega
theorem kK(l:List iB)(f t:Int):(EA l f t).1.List.length≤60:=by
 unfold EA
 cases TF l
 ·exact Nat.zero_le _
 ·dsimp only[cond_true]
  unfold EE
  cases h:YC (⟨f,t,(cF l 0 f t)⟩:PB)
  ·exact Nat.zero_le _
  ·exact(yI h).1.1
theorem BM(l:List nA)(x:nA)(hl:l.length≤1000000):(NC l x).1.length≤l.length+1:=by
 unfold NC
 refine nH (fun(k:Int)=>0≤k∧k≤(l.length:Int)) (fun k=>l.length-k.toNat) (fun(v:List nA×Bool)=>v.1.length≤l.length+1) ?_ _ _ ⟨by omega,by omega⟩ oM
 intro k hk
 unfold ZD
 dsimp only
 have fin:∀k:Int,(((([]:List nA)++(l.take ((k).toNat)))++([x]:List nA))++(l.drop ((k).toNat))).length≤l.length+1:=fun k=>by
  simp only[List.length_append,List.length_nil,List.length_cons,List.length_take,List.length_drop]
  omega
 have fin2:∀k:Int,((bif decide (k<(l.length:Int))then(bif fC x (l.getD ((k).toNat) aA)then((((([]:List nA)++(l.take ((k).toNat)))++([x]:List nA))++(l.drop ((k).toNat))),true)else(l,((decide (((l.getD ((k).toNat) aA).Time)=x.Time))&&((decide (((l.getD ((k).toNat) aA).Group)=x.Group))&&((((l.getD ((k).toNat) aA).Key)==x.Key)&&((((l.getD ((k).toNat) aA).Val)==x.Val)&&(((l.getD ((k).toNat) aA).Gone)==x.Gone)))))))else((((([]:List nA)++(l.take ((k).toNat)))++([x]:List nA))++(l.drop ((k).toNat))),true)):List nA×Bool).1.length≤l.length+1:=fun k=>by
  cases decide (k<(l.length:Int))
  ·exact fin k
  ·cases fC x (l.getD ((k).toNat) aA)
   ·show l.length≤l.length+1;omega
   ·exact fin k
 cases hd:decide (k<(l.length:Int))
 ·dsimp only[cond_false]
  exact fin2 k
 ·have hd:=of_decide_eq_true hd
  cases fC (l.getD ((k).toNat) aA) x
  ·exact fin2 k
  ·have hw:IntKind.wrap .i64 (k+1)=k+1:=uC oM
   show(0≤IntKind.wrap .i64 (k+1)∧IntKind.wrap .i64 (k+1)≤(l.length:Int))∧l.length-(IntKind.wrap .i64 (k+1)).toNat<l.length-k.toNat
   rw[hw]
   omega
theorem aO{l:List nA}{x:nA}(ol:(PF LB) l)(ox:LB x)(hl:l.length≤1000000)(k:Nat):(PF LB) (((([]:List nA)++(l.take k))++([x]:List nA))++(l.drop k)):=
 ⟨by
  simp only[List.length_append,List.length_nil,List.length_cons,List.length_take,List.length_drop]
  omega,fun y hy=>by
  simp only[List.nil_append,List.mem_append,List.mem_singleton]at hy
  rcases hy with(hy | rfl) | hy
  ·exact ol.2 _ (List.mem_of_mem_take hy)
  ·exact ox
  ·exact ol.2 _ (List.mem_of_mem_drop hy)⟩
theorem UN{p:List Int}(h:CI p=false):p.length≤65536:=by
 unfold CI at h
 have:=of_decide_eq_false h
 omega
theorem vL{p:List Int}(h:RE p)(hl:p.length≤281474976710656){k:Int}(hk:0≤k∧k≤1000):0≤qE p k:=by
 unfold qE
 cases decide (k<(p.length:Int))
 ·dsimp only[cond_false]
  rw[uC (n:=k*7) oM,uC oM]
  exact(OH oM oM).1
 ·have:=RK h k.toNat
  dsimp only[cond_true]
  rw[uC oM]
  exact this.1
theorem SO(c:UInt8)(m:Int)(hm:1≤m∧m≤255):UInt8.ofNat (oK .u8 (c.toNat:Int) m).toNat≠c:=by
 obtain⟨k,rfl⟩:=Int.eq_ofNat_of_zero_le (show 0≤m by omega)
 have hk:1≤k∧k≤255:=by omega
 have hc:=c.toNat_lt
 intro h
 have h2:=congrArg UInt8.toNat h
 unfold oK at h2
 have e1:(BitVec.ofInt IntKind.u8.bits (c.toNat:Int) ^^^ BitVec.ofInt IntKind.u8.bits (k:Int)).toNat=c.toNat ^^^ k:=by
  rw[BitVec.toNat_xor]
  have a1:(BitVec.ofInt IntKind.u8.bits (c.toNat:Int)).toNat=c.toNat:=by
   show(BitVec.ofInt 8 (c.toNat:Int)).toNat=c.toNat
   rw[BitVec.toNat_ofInt];omega
  have a2:(BitVec.ofInt IntKind.u8.bits (k:Int)).toNat=k:=by
   show(BitVec.ofInt 8 (k:Int)).toNat=k
   rw[BitVec.toNat_ofInt];omega
  rw[a1,a2]
 rw[e1]at h2
 have hx:c.toNat ^^^ k<256:=Nat.xor_lt_two_pow (n:=8) oM oM
 have e:∀x:Int,IntKind.wrap .u8 x=x % 256:=fun x=>by
  unfold IntKind.wrap
  rfl
 rw[e,UInt8.toNat_ofNat']at h2
 have h3:c.toNat ^^^ k=c.toNat:=by omega
 have h4:k=0:=by
  have:=congrArg (c.toNat ^^^ ·) h3
  simp only[←Nat.xor_assoc,Nat.xor_self,Nat.zero_xor]at this
  exact this
 omega
theorem fP(s:uB)(n:Nat)(v:Int):NI ((MG s).set n v)=s.set n (UInt8.ofNat v.toNat):=by
 have h:=eP s
 unfold NI at h ⊢
 rw[List.map_set,h]
theorem QO{s:uB}{a:Int}{m:Int}(ha:0≤a)(hs:0<s.length)(hm:1≤m∧m≤255) :
  ∃(n:Nat) (hn:n<s.length) (c:UInt8),c≠s[n]∧NI ((MG s).set (Int.tmod a ((MG s).length:Int)).toNat (oK .u8 ((MG s).getD (Int.tmod a ((MG s).length:Int)).toNat AG) m))=s.set n c:=by
 obtain⟨h1,h2⟩:=OH (a:=a) (b:=((MG s).length:Int)) ha (by rw[eG];omega)
 generalize hk:(Int.tmod a ((MG s).length:Int)).toNat=k
 have hk2:k<s.length:=by rw[eG]at h2 hk;omega
 have hg:(MG s).getD k AG=((s[k]).toNat:Int):=by
  rw[List.getD_eq_getElem?_getD,List.getElem?_eq_getElem (by rw[eG];exact hk2)]
  simp[MG]
 refine⟨k,hk2,_,SO (s[k]) m hm,?_⟩
 rw[fP,hg]
theorem ZO{a:Int}(ha:0≤a):1≤IntKind.wrap .u8 (IntKind.wrap .i64 (1+Int.tmod a 255))∧IntKind.wrap .u8 (IntKind.wrap .i64 (1+Int.tmod a 255))≤255:=by
 obtain⟨h1,h2⟩:=OH (a:=a) (b:=255) ha oM
 have e:∀x:Int,IntKind.wrap .u8 x=x % 256:=fun x=>by
  unfold IntKind.wrap
  rfl
 rw[uC oM,e]
 omega
theorem ZL(x:uB):0<(IE x).length:=by rw[RG];omega
theorem dM(l:List nA):mG l l=true:=by
 unfold mG
 rw[decide_eq_true rfl,cond_true]
 refine UF (fun _ _=>True) (fun v=>v=true) trivial (fun _ _=>rfl) ?_
 intro j x _ hj _
 unfold CE
 simp only[beq_self_eq_true,decide_true,Bool.and_self,cond_true]
theorem UM(n:Int):LI (IntKind.wrap .i64 n):=by
 unfold LI
 simp only[IntKind.wrap_i64]
 omega
theorem GL{p:List Int}{c:Int×Int}{l:List Int}(h:∀x∈l,LI x):LI (uA p c l).1:=by
 unfold uA
 dsimp only
 generalize ((wA p c (l.length:Int)).1).toNat=k
 rw[List.getD_eq_getElem?_getD]
 cases hk:l[k]? with
 | none=>exact⟨by decide,by decide⟩
 | some x=>exact h x (List.mem_of_getElem? hk)
theorem dP(p:List Int)(c:Int×Int):LI (fA p c).1:=by
 unfold fA
 exact GL (by intro x hx;simp only[List.mem_cons,List.not_mem_nil,or_false]at hx;unfold LI;omega)
theorem XM:LI 0:=⟨by decide,by decide⟩
theorem TK{l:List iB}{f t:Int}(h:LI f):LI (EA l f t).1.From:=by
 unfold EA
 cases TF l
 ·exact XM
 ·dsimp only[cond_true]
  unfold EE
  cases YC (⟨f,t,(cF l 0 f t)⟩:PB)
  ·exact XM
  ·exact h
theorem rO{p:List Int}{c:Int×Int}(a b:Int):LI (uA p c ([-1,IntKind.wrap .i64 a,IntKind.wrap .i64 b]:List Int)).1:=
 GL (by
  intro x hx
  simp only[List.mem_cons,List.not_mem_nil,or_false]at hx
  rcases hx with rfl | rfl | rfl
  ·exact⟨by decide,by decide⟩
  ·exact UM _
  ·exact UM _)
theorem GP(p:List Int)(c:Int×Int):LI (NB p c).1.From:=by
 unfold NB
 have h0:LI (0:Int):=⟨by decide,by decide⟩
 generalize (EA ((eA p c).1) ((fA p ((eA p c).2)).1) (IntKind.wrap .i64 (((fA p ((eA p c).2)).1)+((uA p ((fA p ((eA p c).2)).2) ([0,3,7,20]:List Int)).1)))).2=b1
 generalize decide (((wA p ((uA p ((fA p ((eA p c).2)).2) ([0,3,7,20]:List Int)).2) 10).1)=0)=b2
 generalize decide (((wA p ((uA p ((fA p ((eA p c).2)).2) ([0,3,7,20]:List Int)).2) 10).1)=1)=b3
 cases b1<;>cases b2<;>cases b3<;>dsimp only[cond_true,cond_false]<;>first | exact rO _ _ | exact TK (dP _ _) | exact TK h0
theorem xJ(p:List Int)(hp:RE p):gC p=true:=by
 unfold gC
 have hw:LI (rA p).From:=GP p (0,0)
 generalize rA p=d at *
 cases hb:CI p
 case true=>rfl
 have hl:=UN hb
 have h50:=vL hp oM (k:=50) oM
 have h51:=vL hp oM (k:=51) oM
 have hm:=ZO h51
 simp only[←iL d hw,beq_self_eq_true,cond_true,cond_false]
 rcases XJ d with e | ⟨hg,hl6,e⟩
 ·rw[e]
  dsimp only[cond_false]
  rcases nI (b:=([]:uB)) (Nat.zero_le _)with h | ⟨_,_,h,_⟩
  ·rw[h];rfl
  ·rw[HE]at h
   have:=ZL (uI (FB ([]:uB)).1)
   rw[h]at this
   exact absurd this (by decide)
 ·rw[e]
  dsimp only[cond_true]
  rw[jN hg hl6]
  obtain⟨n,hn,c,hc,hf⟩:=QO (s:=YB d) (m:=IntKind.wrap .u8 (IntKind.wrap .i64 (1+Int.tmod (qE p 51) 255))) h50 (by rw[HE];exact ZL _) hm
  rw[hf]
  have hr:(FB ((YB d).set n c)).2=false:=by
   rcases nI (b:=(YB d).set n c) (by
    unfold aF
    rw[List.length_set]
    omega)with h | ⟨_,_,h,_⟩
   ·rw[h]
   ·rw[HE,HE]at h
    simp only[HE]at hn hc
    exact(zN hn hc h).elim
  rw[hr]
  have hv:FG d d=true:=by
   unfold FG
   simp only[decide_true,cond_true,dM]
  rw[hv]
  rfl
end Go.Proofs.Ytikkoidgamlgnaa
