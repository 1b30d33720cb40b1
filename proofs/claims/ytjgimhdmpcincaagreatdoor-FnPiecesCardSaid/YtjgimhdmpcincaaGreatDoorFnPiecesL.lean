/- Fn Pieces: plain laws of the models. -/
import Derived.Test.YtjgimhdmpcincaaGreatDoorFnPiecesT
set_option linter.unusedVariables false
set_option linter.unusedSimpArgs false
namespace Go.Proofs.YtjgimhdmpcincaaGreatDoor
open Go.RowKit Go.X
theorem eS(xs:List MG)(f:MG→Bool):BG xs f=TT f AB xs:=rfl
theorem WL(xs:List jA)(f:jA→Bool):eG xs f=xs.any f:=zP f xA xs
theorem tO(xs:List uA)(f:uA→Bool):GG xs f=xs.any f:=zP f IB xs
theorem tN(xs:List uA)(y:uA):IF xs y=xs.any (fun x=>y==x):=zP _ IB xs
theorem rO:OD=FE:=rfl
theorem cM{n lo hi:Int}(h:FE n lo hi=true):lo≤n∧n≤hi:=by
 unfold FE at h
 obtain⟨h1,h2⟩:=WD h
 exact⟨of_decide_eq_true h1,of_decide_eq_true h2⟩
theorem OM{n lo hi:Int}(h:OD n lo hi=true):lo≤n∧n≤hi:=cM h
theorem zS(l:List UInt8)(c:UInt8):decide (Lib.indexByte l c<0)=!(l.contains c):=by
 induction l with
 | nil=>rfl
 | cons b l ih=>
  have hge:=Lib.indexByte_ge l c
  rw[Bool.eq_iff_iff]at ih ⊢
  simp only[decide_eq_true_eq,Bool.not_eq_true',List.contains_cons]at ih ⊢
  unfold Lib.indexByte
  by_cases hb:b=c
  ·subst hb;simp
  ·have hb1:(b==c)=false:=by simpa using hb
   have hb2:(c==b)=false:=by simpa using fun h=>hb h.symm
   rw[hb1,hb2]
   simp only[Bool.false_or,Bool.false_eq_true,if_false]
   split
   ·rename_i h
    have:Lib.indexByte l c=-1:=by simpa using h
    rw[←ih];omega
   ·rename_i h
    have:Lib.indexByte l c≠-1:=by simpa using h
    constructor
    ·intro h;omega
    ·intro h;have:=ih.2 h;omega
theorem byte_back(b:UInt8):((b.toNat:Int)).toNat.toUInt8=b:=by simp
theorem vY(s:uA)(b:UInt8):decide (wX s (b.toNat:Int)<0)=!(s.contains b):=by
 unfold wX
 rw[byte_back,zS]
def ZK(more:uA)(b:UInt8):Bool:=wE (b.toNat:Int)||more.contains b
theorem WN(s more:uA):wJ s more=s.all (ZK more):=by
 unfold wJ
 rw[iS (0:UInt8) (ZK more) (r:=false) fun k=>by
  unfold FG ZK VH OE
  rw[vY]
  cases wE ((s.getD k 0).toNat:Int)<;>cases more.contains (s.getD k 0)<;>rfl]
 cases s.all (ZK more)<;>rfl
theorem IV(a b:UInt8):decide ((a.toNat:Int)=(b.toNat:Int))=(a==b):=by
 rw[Bool.eq_iff_iff,decide_eq_true_iff,beq_iff_eq]
 constructor
 ·intro h;exact UInt8.toNat.inj oM
 ·intro h;rw[h]
theorem Kb{T:Type}(s more:uA)(k:Nat)(x0:Bool)(fr:Bool→T)(fd:Bool→T):rE (iB (GC s more k) (more.length-0) 0 x0) fr fd=fd (x0||more.contains (s.getD k 0)):=by
 rw[Wb (0:UInt8) (fun b=>(s.getD k 0)==b) fun j x=>by
  unfold GC
  rw[IV]
  cases x<;>rfl]
 rw[List.contains_eq_any_beq]
theorem PK(s more:uA):oH s more=s.all (ZK more):=by
 unfold oH
 rw[iS (0:UInt8) (ZK more) (r:=false) fun k=>by
  unfold uD ZK wE
  simp only[Kb]
  cases decide (97≤((s.getD k 0).toNat:Int))<;>cases decide (((s.getD k 0).toNat:Int)≤122)<;>cases decide (48≤((s.getD k 0).toNat:Int))<;>cases decide (((s.getD k 0).toNat:Int)≤57)<;>cases more.contains (s.getD k 0)<;>rfl]
 cases s.all (ZK more)<;>rfl
theorem ZQ(s:uA):WJ s=nF s:=by
 unfold WJ nF
 rw[WN,PK,rO]
theorem zN(f:dE):DH f=pG f:=by
 unfold DH pG
 rw[ZQ]
theorem NV(s:uA):rK s=cH s:=by
 unfold rK cH
 rw[WN,PK]
theorem lU(l:List jA):BI l=l.map (·.Key):=by
 unfold BI
 rw[Lb (body:=II l) (xs:=l) xA (fun w=>w.Key) fun k x _=>rfl]
 rfl
def fL(ks:List uA)(k:Nat):Bool:=bif decide (0<(k:Int))then jJ (ks.getD ((IntKind.wrap .i64 ((k:Int)-1)).toNat) IB) (ks.getD k IB)else true
theorem yT(ks:List uA):AI ks=(List.range ks.length).all fun k=>nF (ks.getD k IB)&&fL ks k:=by
 unfold AI
 rw[jT (fun k=>nF (ks.getD k IB)&&fL ks k) (r:=false) fun k _=>by
  unfold yF fL
  rw[ZQ,qN]
  cases nF (ks.getD k IB)<;>cases decide (0<(k:Int))<;>cases jJ (ks.getD ((IntKind.wrap .i64 ((k:Int)-1)).toNat) IB) (ks.getD k IB)<;>rfl]
 cases (List.range ks.length).all fun k=>nF (ks.getD k IB)&&fL ks k<;>rfl
theorem BL(l:List jA):VG l=(((List.range l.length).all fun k=>TE ((l.getD k xA).Key) ((l.getD k xA).Val) ((l.getD k xA).Gone)&&fL (l.map (·.Key)) k)&&decide ((l.length:Int)≤24)):=by
 have hg:∀k,(l.map (·.Key)).getD k IB=(l.getD k xA).Key:=by
  intro k
  simp only[List.getD_eq_getElem?_getD,List.getElem?_map]
  cases l[k]? <;> rfl
 unfold VG
 rw[jT (fun k=>TE ((l.getD k xA).Key) ((l.getD k xA).Val) ((l.getD k xA).Gone)&&fL (l.map (·.Key)) k) (r:=false) fun k _=>by
  unfold NF fL
  rw[hg,hg]
  cases TE ((l.getD k xA).Key) ((l.getD k xA).Val) ((l.getD k xA).Gone)<;>cases decide (0<(k:Int))<;>cases jJ (l.getD ((IntKind.wrap .i64 ((k:Int)-1)).toNat) xA).Key (l.getD k xA).Key<;>rfl]
 cases ((List.range l.length).all fun k=>TE ((l.getD k xA).Key) ((l.getD k xA).Val) ((l.getD k xA).Gone)&&fL (l.map (·.Key)) k)<;>rfl
theorem kZ{α:Type}(l:List α)(p q:α→Bool):(l.all p&&l.all q)=l.all fun x=>p x&&q x:=by
 induction l with
 | nil=>rfl
 | cons x l ih=>
  simp only[List.all_cons,←ih]
  cases p x<;>cases q x<;>cases l.all p<;>rfl
theorem HQ(v:uA)(g:Bool):EH v g=(cH v&&(!g||v==([]:uA))):=by
 unfold EH
 rw[NV]
 cases cH v<;>cases g<;>cases (v==([]:uA))<;>rfl
theorem ER(k v:uA)(g:Bool):TE k v g=(nF k&&EH v g):=by
 rw[HQ]
 unfold TE
 cases nF k<;>cases cH v<;>cases g<;>cases (v==([]:uA))<;>rfl
theorem dS(l:List jA):TH l=VG l:=by
 have hg:∀k,(l.map (·.Key)).getD k IB=(l.getD k xA).Key:=by
  intro k
  simp only[List.getD_eq_getElem?_getD,List.getElem?_map]
  cases l[k]? <;> rfl
 unfold TH
 rw[lU,yT,BL,WL,List.length_map]
 have h1:(!(l.any fun y=>NI y))=(List.range l.length).all fun k=>EH (l.getD k xA).Val (l.getD k xA).Gone:=by
  rw[List.not_any_eq_all_not,←oT xA]
  unfold NI
  simp only[Bool.not_not]
 rw[h1]
 have h2:((List.range l.length).all fun k=>TE ((l.getD k xA).Key) ((l.getD k xA).Val) ((l.getD k xA).Gone)&&fL (l.map (·.Key)) k)=(((List.range l.length).all fun k=>nF ((l.map (·.Key)).getD k IB)&&fL (l.map (·.Key)) k)&&(List.range l.length).all fun k=>EH (l.getD k xA).Val (l.getD k xA).Gone):=by
  rw[kZ]
  congr 1;funext k
  rw[ER,hg]
  cases nF (l.getD k xA).Key<;>cases EH (l.getD k xA).Val (l.getD k xA).Gone<;>cases fL (l.map (·.Key)) k<;>rfl
 rw[h2]
 cases decide ((l.length:Int)≤24)<;>cases ((List.range l.length).all fun k=>nF ((l.map (·.Key)).getD k IB)&&fL (l.map (·.Key)) k)<;>cases ((List.range l.length).all fun k=>EH (l.getD k xA).Val (l.getD k xA).Gone)<;>rfl
theorem kO(l:List jA):UG l=(VG l&&l.all fun w=>!w.Gone):=by
 unfold UG
 rw[dS,WL,List.not_any_eq_all_not]
 cases VG l<;>rfl
theorem aP:GD=DC:=by
 funext s m
 unfold GD DC
 rfl
theorem eM(s:uA):mJ s=VE s:=by
 unfold mJ VE
 rw[WN,PK,rO]
theorem fM(t:dB)(r:mD):jF t r=(r.Vals.all VE&&decide ((r.Vals.length:Int)=(t.Cols.length:Int))):=by
 unfold jF
 rw[iS IB VE (r:=false) fun k=>rfl]
 cases r.Vals.all VE<;>rfl
theorem BP(t:dB)(r:mD):vE t r=jF t r:=by
 rw[fM]
 unfold vE
 rw[tO,List.not_any_eq_all_not]
 unfold VI
 simp only[Bool.not_not,eM]
 cases decide ((r.Vals.length:Int)=(t.Cols.length:Int))<;>cases (r.Vals.all fun x=>VE x)<;>rfl
theorem eT(l:List uA)(s:uA):decide (0≤EK l s)=l.any fun x=>x==s:=by
 have:EK l s=TT (fun x=>x==s) IB l:=rfl
 rw[this,zP]
def wR(l:List uA)(k:Nat):Bool:=DC (l.getD k IB) 3&&!((l.take k).any fun x=>x==l.getD k IB)
theorem DR(l:List uA):WI l=((List.range l.length).all (wR l)&&FE (l.length:Int) 2 4):=by
 unfold WI
 rw[jT (wR l) (r:=false) fun k _=>by
  unfold IG wR
  rw[eT]
  cases DC (l.getD k IB) 3<;>cases ((l.take k).any fun x=>x==l.getD k IB)<;>rfl]
 cases (List.range l.length).all (wR l)<;>rfl
theorem NG(t:dB):UD t=LC t:=by
 unfold UD LC
 rw[DR,aP,rO]
 rw[jT (wR t.Cols) (r:=false) fun k _=>by
  unfold YF wR
  rw[tN,aP]
  rw[show((t.Cols.take k).any fun x=>t.Cols.getD k IB==x)=((t.Cols.take k).any fun x=>x==t.Cols.getD k IB)by congr 1;funext x;rw[Bool.beq_comm]]
  cases DC (t.Cols.getD k IB) 3<;>cases ((t.Cols.take k).any fun x=>x==t.Cols.getD k IB)<;>rfl]
 have hb:RD t=FD t:=by
  funext k u
  unfold RD FD aH
  rw[aP,rO,qN]
  cases DC ((t.Idxs.getD k AB).Name) 1<;>cases FE ((t.Idxs.getD k AB).Col) 1 (IntKind.wrap .i64 ((t.Cols.length:Int)-1))<;>cases FE ((t.Idxs.getD k AB).Stage) 0 3<;>cases decide (0<(k:Int))<;>cases jJ ((t.Idxs.getD ((IntKind.wrap .i64 ((k:Int)-1)).toNat) AB).Name) ((t.Idxs.getD k AB).Name)<;>rfl
 rw[hb]
 cases DC t.Name 1<;>cases FE (t.Cols.length:Int) 2 4<;>cases decide (3<(t.Idxs.length:Int))<;>cases (List.range t.Cols.length).all (wR t.Cols)<;>rfl
theorem aR(t:dB)(r:mD):WH t r=VM t r:=by
 unfold WH VM
 rw[NG,BP]
theorem tI{t:dB}(h:LC t=true):2≤(t.Cols.length:Int)∧(t.Cols.length:Int)≤4∧(t.Idxs.length:Int)≤3:=by
 unfold LC at h
 obtain⟨_,h⟩:=WD h
 obtain⟨h1,h⟩:=WD h
 rw[DR,Bool.and_eq_true]at h1
 have h2:=cM h1.2
 refine⟨h2.1,h2.2,?_⟩
 cases h3:decide (3<(t.Idxs.length:Int))
 ·have:=of_decide_eq_false h3;omega
 ·rw[h3]at h;cases h
theorem CO{t:dB}(h:UD t=true):2≤(t.Cols.length:Int)∧(t.Cols.length:Int)≤4∧(t.Idxs.length:Int)≤3:=tI (NG t▸h)
theorem PT{t:dB}{r:mD}(h:jF t r=true):r.Vals.length=t.Cols.length:=by
 rw[fM,Bool.and_eq_true]at h
 have:=of_decide_eq_true h.2
 omega
theorem PJ(t:dB)(s:uA):bD t s=iD t s:=by
 unfold bD
 rw[eS]
 rfl
theorem oV(t:dB)(n:uA):iD t n=TT (fun y=>dG y n) AB t.Idxs:=rfl
theorem IQ(t:dB)(n:uA):(iD t n=-1∧∀x∈t.Idxs,x.Name≠n)∨∃(k:Nat) (_:k<t.Idxs.length),iD t n=(k:Int)∧(t.Idxs.getD k AB).Name=n∧∀j,j<k→(t.Idxs.getD j AB).Name≠n:=by
 rw[oV]
 rcases SK (fun y=>dG y n) AB t.Idxs with⟨h1,h2⟩ | ⟨k,hk,h1,h2,h3⟩
 ·exact .inl ⟨h1,fun x hx e=>by have:=h2 x hx;unfold dG at this;rw[e,beq_self_eq_true]at this;cases this⟩
 ·refine .inr ⟨k,hk,h1,?_,fun j hj e=>?_⟩
  ·rw[QF hk];unfold dG at h2;exact eq_of_beq h2
  ·have:=h3 j hj;rw[QF oM]at e;unfold dG at this;rw[e,beq_self_eq_true]at this;cases this
theorem UK(t:dB)(n:uA):-1≤iD t n∧iD t n<(t.Idxs.length:Int):=by
 rcases IQ t n with⟨h,_⟩ | ⟨k,hk,h,_⟩<;>omega
theorem QL(t:dB)(n:uA):-1≤bD t n∧bD t n<(t.Idxs.length:Int):=by rw[PJ];exact UK t n
def BR(t:dB)(k:Nat):Bool:=DC (t.Idxs.getD k AB).Name 1&&FE (t.Idxs.getD k AB).Col 1 (IntKind.wrap .i64 ((t.Cols.length:Int)-1))&&FE (t.Idxs.getD k AB).Stage 0 3&&bif decide (0<(k:Int))then jJ (t.Idxs.getD ((IntKind.wrap .i64 ((k:Int)-1)).toNat) AB).Name (t.Idxs.getD k AB).Name else true
theorem jM(t:dB):LC t=(DC t.Name 1&&WI t.Cols&&decide (t.Idxs.length≤3)&&(List.range t.Idxs.length).all (BR t)):=by
 unfold LC
 rw[jT (BR t) (r:=false) fun k _=>by
  unfold FD BR
  cases DC (t.Idxs.getD k AB).Name 1<;>cases FE (t.Idxs.getD k AB).Col 1 (IntKind.wrap .i64 ((t.Cols.length:Int)-1))<;>cases FE (t.Idxs.getD k AB).Stage 0 3<;>cases decide (0<(k:Int))<;>cases jJ (t.Idxs.getD ((IntKind.wrap .i64 ((k:Int)-1)).toNat) AB).Name (t.Idxs.getD k AB).Name<;>rfl]
 have e:decide (t.Idxs.length≤3)=!decide (3<(t.Idxs.length:Int)):=by
  by_cases h:t.Idxs.length≤3
  ·rw[decide_eq_true h,decide_eq_false oM];rfl
  ·rw[decide_eq_false h,decide_eq_true oM];rfl
 rw[e]
 cases DC t.Name 1<;>cases WI t.Cols<;>cases decide (3<(t.Idxs.length:Int))<;>cases (List.range t.Idxs.length).all (BR t)<;>rfl
def GR(b:UInt8):Bool:=!decide ((b.toNat:Int)<97)&&!decide (122<(b.toNat:Int))
theorem GM(s:uA)(m:Int):DC s m=(s.all GR&&decide (1≤(s.length:Int))&&decide ((s.length:Int)≤m)):=by
 unfold DC
 rw[iS (0:UInt8) GR (r:=false) fun k=>by
  unfold KF GR
  cases decide (((s.getD k 0).toNat:Int)<97)<;>cases decide (122<((s.getD k 0).toNat:Int))<;>rfl]
 cases s.all GR<;>cases decide (1≤(s.length:Int))<;>rfl
theorem wM{s:uA}{m:Int}(h:DC s m=true):1≤(s.length:Int)∧(s.length:Int)≤m:=by
 rw[GM]at h
 simp only[Bool.and_eq_true,decide_eq_true_eq]at h
 exact⟨h.1.2,h.2⟩
structure uN (t:dB):Prop where
 name:t.Name.length=1
 cols:2≤t.Cols.length∧t.Cols.length≤4
 idxs:t.Idxs.length≤3
 idx:∀k,k<t.Idxs.length→(t.Idxs.getD k AB).Name.length=1∧1≤(t.Idxs.getD k AB).Col∧(t.Idxs.getD k AB).Col<(t.Cols.length:Int)∧0≤(t.Idxs.getD k AB).Stage∧(t.Idxs.getD k AB).Stage≤3
 rise:∀k,k+1<t.Idxs.length→(t.Idxs.getD k AB).Name<(t.Idxs.getD (k+1) AB).Name
theorem uN.of{t:dB}(h:LC t=true):uN t:=by
 have hf:=tI h
 rw[jM]at h
 simp only[Bool.and_eq_true,decide_eq_true_eq,List.all_eq_true,List.mem_range]at h
 obtain⟨⟨⟨h1,h2⟩,h3⟩,h4⟩:=h
 have h5:∀k,k<t.Idxs.length→_:=fun k hk=>h4 k hk
 unfold BR at h5
 simp only[Bool.and_eq_true]at h5
 refine⟨by have:=wM h1;omega,oM,h3,fun k hk=>?_,fun k hk=>?_⟩
 ·obtain⟨⟨⟨a,b⟩,c⟩,d⟩:=h5 k hk
  have a:=wM a
  have b:=cM b
  have c:=cM c
  rw[RE oM]at b
  omega
 ·have d:=(h5 (k+1) hk).2
  rw[RE oM,decide_eq_true (show 0<((k+1:Nat):Int)by omega)]at d
  have e:(((k+1:Nat):Int)-1).toNat=k:=by omega
  rw[e]at d
  exact(XW _ _).1 d
theorem XU{t:dB}{n:uA}(h:cE t n=true):(2≤(t.Cols.length:Int)∧(t.Cols.length:Int)≤4∧(t.Idxs.length:Int)≤3)∧(0≤bD t n∧bD t n<(t.Idxs.length:Int))∧1≤(PC t n).Col∧(PC t n).Col<(t.Cols.length:Int):=by
 unfold cE at h
 obtain⟨h1,h2⟩:=WD h
 have h2:=of_decide_eq_true h2
 have h3:=QL t n
 rw[NG]at h1
 have hg:=uN.of h1
 refine⟨tI h1,⟨h2,h3.2⟩,?_⟩
 unfold PC
 have:=hg.idx (bD t n).toNat oM
 omega
theorem aW{t:dB}{n:uA}(h:(DK t n).2=true):(2≤(t.Cols.length:Int)∧(t.Cols.length:Int)≤4∧(t.Idxs.length:Int)≤3)∧(0≤iD t n∧iD t n<(t.Idxs.length:Int))∧1≤(DK t n).1.Col∧(DK t n).1.Col<(t.Cols.length:Int):=by
 unfold DK at h ⊢
 cases h1:LC t
 ·rw[h1]at h;cases h
 ·rw[h1]at h
  simp only[cond_true]at h ⊢
  cases h2:decide (iD t n<0)
  ·simp only[cond_false]
   have h2:=of_decide_eq_false h2
   have h3:=UK t n
   have:=(uN.of h1).idx (iD t n).toNat oM
   exact⟨tI h1,⟨by omega,h3.2⟩,by omega⟩
  ·rw[h2]at h;cases h
theorem dT(t:dB)(n:uA):cE t n=(DK t n).2:=by
 unfold cE DK
 rw[NG,PJ]
 cases LC t
 ·rfl
 ·simp only[cond_true]
  by_cases h:iD t n<0
  ·rw[decide_eq_true h,decide_eq_false (show ¬0≤iD t n by omega)];rfl
  ·rw[decide_eq_false h,decide_eq_true (show 0≤iD t n by omega)];rfl
theorem fO{t:dB}{n:uA}(h:(DK t n).2=true):(DK t n).1=PC t n∧(PC t n).Name=n:=by
 have hf:=aW h
 unfold DK at h ⊢
 unfold PC
 cases h1:LC t
 ·rw[h1]at h;cases h
 ·simp only[cond_true]
  rw[decide_eq_false (show ¬iD t n<0 by omega),PJ]
  refine⟨rfl,?_⟩
  rcases IQ t n with⟨h,_⟩ | ⟨k,hk,h,h',_⟩
  ·omega
  ·rw[h];exact h'
theorem nN(t:dB)(n:uA):(cD t n).length=t.Name.length+n.length+2:=by
 unfold cD
 simp only[lN];omega
def gH(r:mD):Prop:=∀v∈r.Vals,v.length≤3
theorem gH.getD{r:mD}(h:gH r)(k:Nat):(r.Vals.getD k IB).length≤3:=by
 rcases Nat.lt_or_ge k r.Vals.length with hk | hk
 ·exact h _ (yG hk)
 ·rw[List.getD_eq_getElem?_getD,List.getElem?_eq_none hk];exact Nat.zero_le _
theorem kW{t:dB}{n:uA}{r:mD}(h:t.Name.length≤1∧n.length≤1)(hr:gH r){a b:Nat}:HE ((((cD t n)++(r.Vals.getD a IB))++([47]:uA))++(r.Vals.getD b IB)):=by
 have h1:=nN t n
 have h2:=hr.getD a
 have h3:=hr.getD b
 unfold HE
 simp only[lN];omega
theorem GP{t:dB}{x:MG}{r:mD}(h:t.Name.length≤1∧x.Name.length≤1)(hr:gH r){a b:Nat}:HE ((((((t.Name++([46]:uA))++x.Name)++([47]:uA))++(r.Vals.getD a IB))++([47]:uA))++(r.Vals.getD b IB)):=by
 have h2:=hr.getD a
 have h3:=hr.getD b
 unfold HE
 simp only[lN];omega
theorem PM{s:uA}(h:VE s=true):1≤(s.length:Int)∧(s.length:Int)≤3:=by
 unfold VE at h
 exact cM (WD h).1
theorem nK{t:dB}{r:mD}(h:jF t r=true):r.Vals.length=t.Cols.length∧gH r:=by
 refine⟨PT h,fun v hv=>?_⟩
 rw[fM,Bool.and_eq_true]at h
 have:=PM (List.all_eq_true.1 h.1 v hv)
 omega
theorem qX{t:dB}{r:mD}(h:vE t r=true):r.Vals.length=t.Cols.length∧gH r:=nK (BP t r▸h)
theorem ZU{t:dB}{r:mD}(h:VM t r=true):(r.Vals.length=t.Cols.length∧2≤(t.Cols.length:Int)∧(t.Cols.length:Int)≤4∧(t.Idxs.length:Int)≤3)∧t.Name.length=1∧gH r:=by
 unfold VM at h
 obtain⟨h1,h2⟩:=WD h
 exact⟨⟨(nK h2).1,tI h1⟩,(uN.of h1).name,(nK h2).2⟩
theorem EQ{t:dB}{r:mD}(h:WH t r=true):(r.Vals.length=t.Cols.length∧2≤(t.Cols.length:Int)∧(t.Cols.length:Int)≤4∧(t.Idxs.length:Int)≤3)∧t.Name.length=1∧gH r:=ZU (aR t r▸h)
theorem NK{t:dB}{n:uA}(h:cE t n=true):(2≤(t.Cols.length:Int)∧(t.Cols.length:Int)≤4∧(t.Idxs.length:Int)≤3)∧(0≤bD t n∧bD t n<(t.Idxs.length:Int))∧1≤(PC t n).Col∧(PC t n).Col<(t.Cols.length:Int)∧0≤(PC t n).Stage∧(PC t n).Stage≤3∧t.Name.length=1∧n.length=1:=by
 have h0:=XU h
 unfold cE at h
 obtain⟨h1,h2⟩:=WD h
 rw[NG]at h1
 have hg:=uN.of h1
 have h3:=fO (t:=t) (n:=n) (by unfold DK;rw[h1,cond_true,decide_eq_false (by have:=of_decide_eq_true h2;rw[PJ]at this;omega)];rfl)
 refine⟨h0.1,h0.2.1,h0.2.2.1,h0.2.2.2,?_⟩
 have h4:=hg.idx (bD t n).toNat oM
 have h5:(t.Idxs.getD (bD t n).toNat AB).Name=n:=h3.2
 rw[h5]at h4
 unfold PC
 exact⟨h4.2.2.2.1,h4.2.2.2.2,hg.name,h4.1⟩
theorem dW(t:dB)(n:uA):PC t n=t.Idxs.getD (iD t n).toNat AB:=by unfold PC;rw[PJ]
theorem GI(l:List jA):dD l=UG l:=by
 rw[kO]
 unfold dD
 rw[iS xA (fun w=>!w.Gone) (r:=false) fun k=>by
  unfold rI
  cases (l.getD k xA).Gone<;>rfl]
 cases VG l<;>cases (l.all fun w=>!w.Gone)<;>rfl
theorem VO(t:dB)(n:uA):cE t n=true↔LC t=true∧0≤iD t n:=by
 unfold cE
 rw[NG,PJ]
 constructor
 ·intro h
  obtain⟨h1,h2⟩:=WD h
  exact⟨h1,of_decide_eq_true h2⟩
 ·rintro⟨h1,h2⟩
  rw[h1,decide_eq_true h2];rfl
theorem iQ{s:uA}(h:nF s=true):s.length≤12:=by
 unfold nF at h
 have:=cM (WD h).1
 omega
theorem jQ{s:uA}(h:cH s=true):s.length≤24:=by
 unfold cH at h
 have:=of_decide_eq_true (WD h).1
 omega
theorem qV{k v:uA}{g:Bool}(h:TE k v g=true):k.length≤12∧v.length≤24:=by
 rw[ER,HQ]at h
 simp only[Bool.and_eq_true]at h
 exact⟨iQ h.1,jQ h.2.1⟩
theorem UO{l:List jA}(h:VG l=true):l.length≤24∧∀k,k<l.length→(l.getD k xA).Key.length≤12∧(l.getD k xA).Val.length≤24:=by
 rw[BL,Bool.and_eq_true,decide_eq_true_eq]at h
 refine⟨by omega,fun k hk=>?_⟩
 have:=List.all_eq_true.1 h.1 k (List.mem_range.2 hk)
 rw[Bool.and_eq_true]at this
 exact qV this.1
theorem TP(s:uA)(c:UInt8):NB s [c]=Lib.indexByte s c:=by
 unfold NB OE wX
 have h:((([c]:uA).getD 0 0).toNat:Int).toNat.toUInt8=c:=by simp
 rw[h]
 cases hc:([c]:uA)==s
 ·rfl
 ·have:s=[c]:=(eq_of_beq hc).symm
  subst this
  simp[Lib.indexByte]
theorem EV{s sub:uA}(h:sub.length=1):-1≤NB s sub∧NB s sub≤(s.length:Int)-1:=by
 match sub,h with
 | [c],_=>
  rw[TP]
  rcases nJ c s with⟨_,h2⟩ | ⟨a,r,h1,_,h3⟩
  ·rw[h2];omega
  ·rw[h3,h1];simp only[List.length_append,List.length_cons];omega
theorem Va{s sub:uA}(o:HE s)(h:sub.length=1)(hd:decide (0≤NB s sub)=true):0≤IntKind.wrap .i64 ((NB s sub)+(sub.length:Int))∧IntKind.wrap .i64 ((NB s sub)+(sub.length:Int))≤(s.length:Int):=by
 have h1:=of_decide_eq_true hd
 have h2:=EV (s:=s) h
 unfold HE at o
 rw[h,RE oM]
 omega
theorem WU{s p:uA}(h:qD s p=true):p.length≤s.length:=by
 unfold qD at h
 have:=of_decide_eq_true (WD h).1
 omega
theorem tP{t:dB}{n:uA}{l:List jA}(h:CF t n l=true):t.Name.length≤1∧n.length≤1:=by
 unfold CF at h
 have:=NK (WD h).1
 omega
theorem vV{t:dB}{n:uA}(h:t.Name.length≤1∧n.length≤1):HE (cD t n):=by
 have:=nN t n
 unfold HE;omega
theorem xM{s:uA}(h:HE s)(b:Int)(i:Nat):HE ((uC s b).getD i IB):=by
 have hh:∀x∈uC s b,HE x:=by
  unfold uC
  refine fF (fun _ (p:List uA×Int)=>∀x∈p.1,HE x) (fun(v:List uA)=>∀x∈v,HE x) (fun _ h=>by cases h) ?_ ?_
  ·rintro⟨x,a⟩ hx y hy
   rcases List.mem_append.1 hy with hy | hy
   ·exact hx y hy
   ·rw[List.mem_singleton.1 hy];exact h.drop _
  ·rintro j ⟨x,a⟩ _ _ hx
   unfold qH
   dsimp only
   cases decide (((s.getD j 0).toNat:Int)=b)
   ·exact hx
   ·intro y hy
    rcases List.mem_append.1 hy with hy | hy
    ·exact hx y hy
    ·rw[List.mem_singleton.1 hy];exact(h.take _).drop _
 rw[List.getD_eq_getElem?_getD]
 cases h1:(uC s b)[i]? with
 | none=>exact MD
 | some x=>exact hh x (List.mem_of_getElem? h1)
theorem YO(s:uA)(b:UInt8):uC s (b.toNat:Int)=sp b s:=by
 unfold uC
 refine fF (fun k (p:List uA×Int)=>0≤p.2∧p.2.toNat≤k∧b∉(s.take k).drop p.2.toNat∧p.1++sp b (s.drop p.2.toNat)=sp b s) (fun(v:List uA)=>v=sp b s) ⟨by omega,by simp,by simp,by simp⟩ ?_ ?_
 ·rintro⟨x,a⟩ ⟨h1,h2,h3,h4⟩
  dsimp only at h1 h2 h3 h4 ⊢
  rw[show s.take (0+(s.length-0))=s from by rw[List.take_of_length_le oM]]at h3
  rw[qO h3]at h4
  exact h4
 ·rintro j ⟨x,a⟩ _ hj ⟨h1,h2,h3,h4⟩
  have hj':j<s.length:=by omega
  unfold qH
  dsimp only at h1 h2 h3 h4 ⊢
  have ht:(s.take (j+1)).drop a.toNat=(s.take j).drop a.toNat++[s.getD j 0]:=by
   rw[QF hj',List.take_succ_eq_append_getElem hj',List.drop_append_of_le_length (by rw[List.length_take];omega)]
  have hd:s.drop a.toNat=(s.take j).drop a.toNat++s.getD j 0::s.drop (j+1):=by
   conv=>lhs;rw[←List.take_append_drop j s]
   rw[List.drop_append_of_le_length (by rw[List.length_take];omega),QF hj',List.drop_eq_getElem_cons hj']
  rw[IV]
  cases hc:s.getD j 0==b
  ·refine⟨h1,oM,?_,h4⟩
   rw[ht]
   intro hm
   rcases List.mem_append.1 hm with hm | hm
   ·exact h3 hm
   ·rw[←List.mem_singleton.1 hm]at hc;simp at hc
  ·have hb:s.getD j 0=b:=eq_of_beq hc
   refine⟨by omega,by simp,by simp,?_⟩
   rw[hd,hb,gL h3]at h4
   rw[←h4,List.append_assoc]
   show x++([_]++sp b (s.drop _))=_
   rw[show(((j+1:Nat):Int)).toNat=j+1 from by simp]
   rfl
theorem WX{s:uA}{c:UInt8}(h:c∉s):(JE s [c]).2.2=false:=by
 have h1:NB s [c]=-1:=by
  rw[TP]
  rcases nJ c s with⟨_,h2⟩ | ⟨a,r,h2,_,_⟩
  ·exact h2
  ·rw[h2]at h;simp at h
 unfold JE pD
 rw[h1];rfl
theorem tU{a r:uA}{c:UInt8}(h:c∉a)(hl:a.length≤1073741824):JE (a++c::r) [c]=(a,r,true):=by
 have h1:NB (a++c::r) [c]=(a.length:Int):=by
  rw[TP]
  rcases nJ c (a++c::r)with⟨h2,_⟩ | ⟨a',r',h2,h3,h4⟩
  ·simp at h2
  ·have:a'::sp c r'=a::sp c r:=by rw[←gL h3,←gL h,h2]
   rw[h4,(List.cons.inj this).1]
 unfold JE pD
 rw[h1,decide_eq_true oM]
 simp only[cond_true]
 rw[RE (by simp only[List.length_cons,List.length_nil];omega)]
 have h2:((a.length:Int)).toNat=a.length:=by simp
 have h3:((a.length:Int)+(([c]:uA).length:Int)).toNat=a.length+1:=by simp only[List.length_cons,List.length_nil];omega
 rw[h2,h3]
 simp
theorem OQ{s:uA}(h:VE s=true):(47:UInt8)∉s:=by
 unfold VE at h
 obtain⟨_,h2⟩:=WD h
 rw[PK,List.all_eq_true]at h2
 intro hm
 exact absurd (h2 _ hm) (by decide)
theorem BM(k p:uA):(KB k p).2=p.isPrefixOf k∧((KB k p).2=true→(KB k p).1=k.drop p.length):=by
 have h:qD k p=p.isPrefixOf k:=by
  unfold qD
  by_cases hp:p <+: k
  ·obtain⟨r,rfl⟩:=hp
   rw[decide_eq_true (by rw[List.length_append];omega),cond_true,List.take_left]
   simp
  ·rw[show p.isPrefixOf k=false from by rw[Bool.eq_false_iff];intro e;exact hp (List.isPrefixOf_iff_prefix.1 e)]
   cases hd:decide ((p.length:Int)≤(k.length:Int))
   ·rfl
   ·rw[cond_true,beq_eq_false_iff_ne]
    intro e
    exact hp (e▸List.take_prefix ..)
 unfold KB yD
 rw[h]
 cases p.isPrefixOf k<;>simp
theorem MZ{α:Type}(x d:α)(xs:List α):(x::xs).getD 0 d=x:=rfl
theorem Wa{α:Type}(x y d:α)(xs:List α):(x::y::xs).getD 1 d=y:=rfl
theorem Xa{α:Type}(x y z d:α)(xs:List α):(x::y::z::xs).getD 2 d=z:=rfl
theorem Da{α:Type}{x y z:α}{xs:List α}(h:0<xs.length):decide (((x::y::z::xs).length:Int)=3)=false:=decide_eq_false (by simp only[List.length_cons];omega)
theorem CZ{t:dB}{n k:uA}(hh:(47:UInt8)∉(t.Name++([46]:uA))++n)(hk:k.length≤1073741824):TC t n k=eE t n k:=by
 have hsp:uC k 47=sp 47 k:=YO k 47
 have hd:cD t n=((t.Name++([46]:uA))++n)++([47]:uA):=rfl
 unfold TC eE
 rw[hsp,hd]
 generalize (t.Name++([46]:uA))++n=hd at hh
 obtain⟨hc1,hc2⟩:=BM k (hd++([47]:uA))
 rcases JT 47 k with h47 | ⟨a,r,rfl,ha⟩
 ·have hp:(KB k (hd++([47]:uA))).2=false:=by
   rw[hc1,Bool.eq_false_iff];intro e
   obtain⟨r,rfl⟩:=List.isPrefixOf_iff_prefix.1 e
   simp at h47
  rw[hp,qO h47];rfl
 ·rw[gL ha]
  by_cases e:a=hd
  ·subst e
   have hp:(a++([47]:uA)).isPrefixOf (a++47::r)=true:=List.isPrefixOf_iff_prefix.2 ⟨r,by simp⟩
   have hr:(KB (a++47::r) (a++([47]:uA))).1=r:=by
    rw[hc2 (hc1.trans hp)]
    rw[show a++47::r=(a++([47]:uA))++r from by simp,List.drop_left]
   rw[hc1.trans hp,hr,cond_true,MZ,beq_self_eq_true,cond_true]
   rcases JT 47 r with h47 | ⟨b,u,rfl,hb⟩
   ·rw[WX h47,qO h47];rfl
   ·rw[tU hb (by simp only[List.length_append,List.length_cons]at hk;omega),gL hb]
    rw[Wa]
    dsimp only
    rw[eM,eM,cond_true]
    rcases JT 47 u with h47 | ⟨d,v,rfl,hdd⟩
    ·rw[qO h47,Xa];rfl
    ·have hf:VE (d++47::v)=false:=by
      rw[Bool.eq_false_iff];intro e;exact OQ e (by simp)
     rw[gL hdd,Da (QY 47 v),hf]
     cases VE b<;>rfl
  ·have hp:(KB (a++47::r) (hd++([47]:uA))).2=false:=by
    rw[hc1,Bool.eq_false_iff];intro h
    obtain⟨r',h'⟩:=List.isPrefixOf_iff_prefix.1 h
    rw[List.append_assoc]at h'
    have:hd::sp 47 r'=a::sp 47 r:=by rw[←gL hh,←gL ha,←h'];rfl
    exact e (List.cons.inj this).1.symm
   have hg:((a::sp 47 r).getD 0 IB==hd)=false:=by rw[MZ,beq_eq_false_iff_ne];exact e
   rw[hp,hg]
   cases decide (((a::sp 47 r).length:Int)=3)<;>rfl
theorem EO{s:uA}{m:Int}(h:DC s m=true):(47:UInt8)∉s:=by
 rw[GM,Bool.and_eq_true,Bool.and_eq_true,List.all_eq_true]at h
 intro hm
 exact absurd (h.1.1 _ hm) (by decide)
theorem SR{t:dB}{n:uA}(h:cE t n=true):(47:UInt8)∉(t.Name++([46]:uA))++n:=by
 have h2:=fO (dT t n▸h)
 obtain⟨h3,h4⟩:=(VO t n).1 h
 have h5:=UK t n
 rw[dW]at h2
 rw[jM]at h3
 simp only[Bool.and_eq_true,List.all_eq_true,List.mem_range]at h3
 have h6:=h3.2 (iD t n).toNat oM
 unfold BR at h6
 simp only[Bool.and_eq_true]at h6
 have h7:=EO h6.1.1.1
 rw[h2.2]at h7
 have h8:=EO h3.1.1.1
 intro hm
 rcases List.mem_append.1 hm with hm | hm
 ·rcases List.mem_append.1 hm with hm | hm
  ·exact h8 hm
  ·exact absurd (List.mem_singleton.1 hm) (by decide)
 ·exact h7 hm
theorem XN{ρ σ:Type}{b b':Nat→σ→YI ρ σ}:∀(n k:Nat) (s:σ),(∀j s,k≤j→j<k+n→b j s=b' j s)→iB b n k s=iB b' n k s
 | 0,_,_,_=>rfl
 | n+1,k,s,h=>by
  have h1:=h k s (Nat.le_refl _) oM
  have ih:=fun s=>XN n (k+1) s fun j s h2 h3=>h j s oM oM
  simp only[iB]
  rw[h1]
  cases b' k s with
  | ret r=>rfl
  | brk s=>rfl
  | cont s=>exact ih s
theorem SO{t:dB}{n:uA}{l:List jA}(h:cE t n=true)(hl:VG l=true):TB t n l=lB t n l:=by
 have hk:=(UO hl).2
 unfold TB lB
 rw[XN (b:=CE t n l) (b':=aG t n l) _ _ _ fun j x _ hj=>by
  unfold CE aG
  have:=(hk j oM).1
  rw[CZ (SR h) oM]]
theorem TM{l:List jA}(h:UG l=true):VG l=true:=by
 rw[kO,Bool.and_eq_true]at h
 exact h.1
theorem dM(sep x y:uA)(zs:List uA):sep.intercalate (x::y::zs)=x++(sep++sep.intercalate (y::zs)):=by
 simp[List.intercalate,List.intersperse]
theorem jO(sep x:uA):sep.intercalate [x]=x:=by simp[List.intercalate]
theorem AP(sep x:uA):∀xs:List uA,0<xs.length→sep.intercalate (xs++[x])=(sep.intercalate xs++sep)++x
 | [],h=>by simp at h
 | [y],_=>by show sep.intercalate (y::x::[])=_;rw[dM,jO,jO,List.append_assoc]
 | y::z::zs,_=>by
  show sep.intercalate (y::z::(zs++[x]))=_
  rw[dM,show z::(zs++[x])=(z::zs)++[x]from rfl,AP sep x (z::zs) (Nat.succ_pos _),dM]
  simp only[List.append_assoc]
theorem SM:∀xs:List uA,(∀x∈xs,x.length≤3)→(([44]:uA).intercalate xs).length≤4*xs.length
 | [],_=>Nat.zero_le _
 | [x],h=>by have:=h x (by simp);rw[jO,List.length_singleton];omega
 | x::y::zs,h=>by
  have h1:=h x (by simp)
  have h2:=SM (y::zs) fun z hz=>h z (List.mem_cons_of_mem _ hz)
  rw[dM,List.length_append,List.length_append,List.length_cons (as:=y::zs)]
  simp only[List.length_cons,List.length_nil]at h2 ⊢
  omega
theorem yX{r:mD}(h:r.Vals.length≤4)(hr:gH r):(pF (r.Vals.drop 1) ([44]:uA)).length≤1073741824:=by
 have:=SM (r.Vals.drop 1) fun x hx=>hr x (List.mem_of_mem_drop hx)
 rw[List.length_drop]at this
 unfold pF;omega
theorem xT(xs:List uA)(sep:uA):XJ xs sep=pF xs sep:=by
 unfold XJ pF
 refine fF (fun k (s:uA)=>s=sep.intercalate (xs.take k)) (fun(v:uA)=>v=sep.intercalate xs) rfl (fun s h=>by rw[h,List.take_of_length_le oM]) ?_
 intro j s _ hj hs
 have hj':j<xs.length:=by omega
 unfold nI
 dsimp only
 rw[List.take_succ_eq_append_getElem hj',QF hj']
 by_cases h0:0<j
 ·rw[decide_eq_true oM,hs,AP _ _ _ (by rw[List.length_take];omega)];rfl
 ·have:j=0:=by omega
  subst this
  rw[decide_eq_false oM,hs]
  show[]++_=_
  simp[List.intercalate]
theorem aO(t:dB)(r:mD):vB t r=dC t r:=by
 unfold vB dC
 rw[xT]
theorem YU{s:Int}(h:aH s=true):0≤s∧s≤3:=OM h
theorem MR(s:uA)(b:Int):1≤(uC s b).length∧(uC s b).length≤s.length+1:=by
 unfold uC
 refine fF (fun k (p:List uA×Int)=>p.1.length≤k) (fun(v:List uA)=>1≤v.length∧v.length≤s.length+1) (Nat.zero_le _) ?_ ?_
 ·rintro⟨x,a⟩ h1
  dsimp only at h1 ⊢
  rw[List.length_append,List.length_singleton];omega
 ·rintro j ⟨x,a⟩ _ hj h1
  dsimp only at h1
  unfold qH
  dsimp only
  cases decide (((s.getD j 0).toNat:Int)=b)
  ·exact Nat.le_succ_of_le h1
  ·show(x++_).length≤_
   rw[List.length_append,List.length_singleton];omega
theorem OY(s sep:uA):1≤(BD s sep).length∧(BD s sep).length≤s.length+1:=⟨QY _ _,rQ _ _⟩
theorem QU(s:uA):uC s 44=sp 44 s:=YO s 44
theorem RT{t:dB}(h:LC t=true):t.Name.length≤1:=Nat.le_of_eq (uN.of h).name
theorem Ea{t:dB}(h:t.Name.length≤1):HE (t.Name++([47]:uA)):=by unfold HE;rw[List.length_append];show t.Name.length+1≤_;omega

theorem oY{t:dB}{r:mD}(h:jF t r=true){v:uA}(hv:v∈r.Vals):1≤v.length∧v.length≤3:=by
 rw[fM,Bool.and_eq_true]at h
 have:=PM (List.all_eq_true.1 h.1 v hv)
 omega
def DO(w:jA):mD:=⟨[w.Key.drop 2]++uC w.Val 44⟩
theorem xU(s:uA):BD s ([44]:uA)=uC s 44:=(QU s).symm
theorem SU{p s k:uA}(h:s=p++k):p.isPrefixOf s=true:=by subst h;simp
theorem kN(t:dB)(w:jA):SE t w=bif decide ((w.Key.length:Int)<3)then(⟨[]⟩,false)else(DO w,jF t (DO w)&&(((t.Name++([47]:uA))++w.Key.drop 2==w.Key)&&(((dC t (DO w)).Val==w.Val)&&(false==w.Gone)))):=by
 unfold SE
 cases decide ((w.Key.length:Int)<3)
 ·show(bif jF t (DO w)then _ else _)=_
  cases jF t (DO w)<;>rfl
 ·rfl
theorem KR{t:dB}(hg:LC t=true)(w:jA):ZB t w=bif(SE t w).2 then((SE t w).1,true)else(⟨[]⟩,false):=by
 have hn:=(uN.of hg).name
 have hpl:(t.Name++([47]:uA)).length=2:=by rw[List.length_append,hn];rfl
 obtain⟨c1,c2⟩:=BM w.Key (t.Name++([47]:uA))
 rw[hpl]at c2
 rw[kN]
 unfold ZB
 rw[c1]
 cases hp:(t.Name++([47]:uA)).isPrefixOf w.Key
 ·rw[cond_false]
  have hne:((t.Name++([47]:uA))++w.Key.drop 2==w.Key)=false:=by
   cases hh:((t.Name++([47]:uA))++w.Key.drop 2==w.Key)
   ·rfl
   ·rw[SU (eq_of_beq hh).symm]at hp;cases hp
  cases decide ((w.Key.length:Int)<3)
  ·rw[cond_false,hne,Bool.false_and,Bool.and_false];rfl
  ·rfl
 ·rw[c1]at c2
  rw[cond_true,c2 hp,xU]
  show(bif vE t (DO w)then _ else _)=_
  rw[BP]
  cases hgd:jF t (DO w)
  ·cases decide ((w.Key.length:Int)<3)<;>rfl
  ·have h1:=oY hgd (v:=w.Key.drop 2) (List.mem_cons_self ..)
   rw[List.length_drop]at h1
   rw[decide_eq_false oM,cond_false,cond_true,Bool.true_and,aO]
   show(bif(w.Key==(t.Name++([47]:uA))++w.Key.drop 2)&&((w.Val==(dC t (DO w)).Val)&&(w.Gone==false))then _ else _)=_
   rw[BEq.comm (a:=w.Key),BEq.comm (a:=w.Val),BEq.comm (a:=w.Gone)]
   rfl
theorem HX{t:dB}{w:jA}(h:(SE t w).2=true):jF t (SE t w).1=true:=by
 rw[kN]at h ⊢
 cases hd:decide ((w.Key.length:Int)<3)<;>rw[hd]at h
 ·exact(Bool.and_eq_true _ _▸h).1
 ·cases h
theorem wK{t:dB}(hg:LC t=true)(l:List jA):mB t l=LB t l:=by
 unfold mB LB
 have:MF t l=rH t l:=by
  funext k x
  unfold MF rH
  rw[KR hg]
  cases (SE t (l.getD k xA)).2<;>rfl
 rw[this]
theorem TL(t:dB)(l:List jA):(LB t l).length≤l.length∧∀y∈LB t l,jF t y=true:=by
 unfold LB
 refine fF (fun k (p:List mD)=>p.length≤k∧∀y∈p,jF t y=true) (fun(v:List mD)=>v.length≤l.length∧∀y∈v,jF t y=true) ⟨Nat.le_refl _,fun _ h=>by cases h⟩ (fun s hs=>⟨by have:=hs.1;omega,hs.2⟩) ?_
 intro j x _ _ ⟨h1,h2⟩
 unfold rH
 dsimp only
 cases h:(SE t (l.getD j xA)).2
 ·exact⟨Nat.le_succ_of_le h1,h2⟩
 ·refine⟨by rw[List.length_append,List.length_singleton];omega,fun y hy=>?_⟩
  rcases List.mem_append.1 hy with hy | hy
  ·exact h2 y hy
  ·rw[List.mem_singleton.1 hy];exact HX h
theorem WW(t:dB)(l:List jA){k:Nat}(hk:k<(LB t l).length):jF t ((LB t l).getD k DD)=true:=(TL t l).2 _ (by rw[QF hk];exact List.getElem_mem hk)
theorem pN{t:dB}(hg:LC t=true){l:List jA}{y:mD}(h:y∈mB t l):jF t y=true:=(TL t l).2 y (wK hg l▸h)
theorem VT{t:dB}{n:uA}(h:cE t n=true)(r:mD):WC t n r=QE t (t.Idxs.getD (iD t n).toNat AB) r:=by
 obtain⟨h1,h2⟩:=(VO t n).1 h
 have hn:(DK t n).2=true:=by
  unfold DK
  rw[h1,decide_eq_false oM];rfl
 rw[←dW]
 unfold WC QE cD
 rw[(fO hn).2]
theorem Ca{t:dB}(h:LC t=true){k:Nat}(hk:k<t.Idxs.length):0≤(t.Idxs.getD k AB).Col∧(t.Idxs.getD k AB).Col<(t.Cols.length:Int)∧0≤(t.Idxs.getD k AB).Stage∧(t.Idxs.getD k AB).Stage≤3∧(t.Idxs.getD k AB).Name.length=1:=by
 obtain⟨a,b,c,d,e⟩:=(uN.of h).idx k hk
 exact⟨by omega,c,d,e,a⟩
theorem ZN(n:Int):(sJ n).length=1:=rfl
theorem zG{t:dB}{n:uA}(h:cE t n=true):LC t=true:=by
 unfold cE at h
 rw[←NG]
 exact(WD h).1
theorem CR{t:dB}{n:uA}{l:List jA}(h:CF t n l=true):cE t n=true:=by
 unfold CF at h
 exact(WD h).1
theorem PV{t:dB}{n:uA}{l:List jA}(h:iF t n l=true):LC t=true:=by
 unfold iF at h
 exact(WD h).1
theorem sZ(t:dB)(n:uA):iD t n<(t.Idxs.length:Int):=by
 have h:=QL t n
 rw[PJ]at h
 exact h.2
theorem gX{t:dB}{n:uA}{l:List jA}(h:iF t n l=true):0≤iD t n∧iD t n<(t.Idxs.length:Int):=by
 unfold iF at h
 exact⟨of_decide_eq_true (WD (WD h).2).1,sZ t n⟩
theorem qT{t:dB}{n:uA}(h:cE t n=true)(l:List jA){k:Nat}(hk:k<(mB t l).length):((mB t l).getD k DD).Vals.length=t.Cols.length∧gH ((mB t l).getD k DD):=
 nK (pN (zG h) (l:=l) (yG hk))
theorem iM{t:dB}{n:uA}(h:cE t n=true)(l:List jA):(mB t l).length≤l.length:=wK (zG h) l▸(TL t l).1
theorem GV(t:dB)(l:List jA){k:Nat}(hk:k<(LB t l).length):((LB t l).getD k DD).Vals.length=t.Cols.length∧gH ((LB t l).getD k DD):=nK (WW t l hk)
theorem yV{t:dB}{x:MG}{r:mD}(h:t.Name.length≤1∧x.Name.length≤1)(hr:gH r):HE (QE t x r):=GP h hr
theorem zX{t:dB}{n:uA}(h:cE t n=true)(l:List jA):tH t n l=AG t n l:=by
 unfold tH AG
 rw[wK (zG h)]
 congr 1
 refine XN _ _ _ fun j s _ hj=>?_
 unfold zH EL
 rw[wK (zG h),VT h]
theorem UW(l o:List uA):pO l o=l.filter fun s=>!(o.any fun x=>x==s):=by
 unfold pO
 refine fF (fun k (p:List uA)=>p=(l.take k).filter fun s=>!(o.any fun x=>x==s)) (fun(v:List uA)=>v=l.filter fun s=>!(o.any fun x=>x==s)) rfl (fun s h=>by rw[h,List.take_of_length_le oM]) ?_
 intro j s _ hj hs
 have hj':j<l.length:=by omega
 unfold xO
 dsimp only
 have e:decide (EK o (l.getD j IB)<0)=!(o.any fun x=>x==l.getD j IB):=by
  rw[←eT]
  by_cases h:0≤EK o (l.getD j IB)
  ·rw[decide_eq_true h,decide_eq_false oM];rfl
  ·rw[decide_eq_false h,decide_eq_true oM];rfl
 rw[e,List.take_succ_eq_append_getElem hj',List.filter_append,←hs,←QF (d:=IB) hj',List.filter_cons]
 cases (o.any fun x=>x==l.getD j IB)<;>simp
theorem AW(l o:List uA):sK l o=pO l o:=by
 rw[UW]
 unfold sK PE
 have hc:aF l=l:=rfl
 rw[hc]
 congr 1
 funext s
 unfold tK
 show(!IF o s)=_
 rw[tN]
 congr 1
 congr 1
 funext x
 exact Bool.beq_comm
theorem aU{t:dB}{n:uA}(h:cE t n=true){l:List jA}(h3:UG l=true):vF t n l=pO (lB t n l) (AG t n l):=by
 unfold vF
 rw[AW,zX h,SO h (TM h3)]
theorem sL(a:Int):0≤IntKind.wrap .i64 (UQ .u64 a 255)∧IntKind.wrap .i64 (UQ .u64 a 255)≤255:=by
 have:=uY a
 rw[RE oM];exact this
theorem kV{l:List uA}{m:Nat}(h:∀y∈l,y.length≤m)(k:Nat):(l.getD k IB).length≤m:=by
 rcases Nat.lt_or_ge k l.length with hk | hk
 ·exact h _ (yG hk)
 ·rw[List.getD,List.getElem?_eq_none hk];exact Nat.zero_le _
theorem aK(m:Nat)(c:List Int)(s:Int×Int)(l:List uA)(h:∀y∈l,y.length≤m):(VB c s l).1.length≤m:=by
 unfold VB
 exact kV h _
theorem NR(c:List Int)(s:Int×Int)(t:dB)(h:t.Cols.length≤4):(1≤(sG c s t).1.Vals.length∧(sG c s t).1.Vals.length≤4∧(1≤t.Cols.length→(sG c s t).1.Vals.length=t.Cols.length))∧gH (sG c s t).1:=by
 unfold sG
 refine TK (fun(p:Int×Int×List uA)=>(1≤p.2.2.length∧(1≤t.Cols.length→p.2.2.length≤t.Cols.length)∧p.2.2.length≤4)∧∀v∈p.2.2,v.length≤3) (fun(p:Int×Int×List uA)=>t.Cols.length-p.2.2.length) (fun(v:mD×(Int×Int))=>(1≤v.1.Vals.length∧v.1.Vals.length≤4∧(1≤t.Cols.length→v.1.Vals.length=t.Cols.length))∧gH v.1) ?_ _ _ ⟨⟨Nat.le_refl _,fun h=>h,nb rfl⟩,fun v hv=>?_⟩ (Nat.lt_succ_self _)
 ·rintro⟨a,b,x⟩ ⟨h1,h2⟩
  unfold pK
  dsimp only at h1 h2 ⊢
  by_cases hl:(x.length:Int)<(t.Cols.length:Int)
  ·rw[decide_eq_true hl]
   dsimp only[cond_true,YI.sat]
   rw[List.length_append,List.length_singleton]
   refine⟨⟨⟨by omega,oM,by omega⟩,fun v hv=>?_⟩,by omega⟩
   rcases List.mem_append.1 hv with hv | hv
   ·exact h2 v hv
   ·rw[List.mem_singleton]at hv;subst hv
    exact aK 3 _ _ _ (by decide)
  ·rw[decide_eq_false hl]
   exact⟨⟨h1.1,h1.2.2,fun h=>by have:=h1.2.1 h;show x.length=_;omega⟩,h2⟩
 ·rw[List.mem_singleton]at hv;subst hv
  exact aK 3 _ _ _ (by decide)
theorem NQ(t:dB)(r:mD)(h:t.Name.length≤1)(hl:r.Vals.length≤4)(hr:gH r):(dC t r).Key.length≤5∧(dC t r).Val.length≤16:=by
 unfold dC
 dsimp only
 rw[xT]
 have h1:=SM (r.Vals.drop 1) fun x hx=>hr x (List.mem_of_mem_drop hx)
 rw[List.length_drop]at h1
 have h2:=hr.getD 0
 simp only[lN]
 unfold pF;omega
theorem zM{t:dB}{r:mD}(h:t.Name.length≤1)(hl:r.Vals.length≤4)(hr:gH r):PB (dC t r):=by
 have:=NQ t r h hl hr
 exact⟨by unfold HE;omega,by unfold HE;omega⟩
def iY(t:dB):Prop:=t.Name.length≤1∧2≤t.Cols.length∧t.Cols.length≤4∧t.Idxs.length≤3∧∀k,k<t.Idxs.length→(t.Idxs.getD k AB).Name.length≤1∧0≤(t.Idxs.getD k AB).Col∧(t.Idxs.getD k AB).Col<(t.Cols.length:Int)
theorem DY{c:List Int}(h:iI c)(s:Int×Int):0≤(GE c s).1∧(GE c s).1≤255:=by
 have h1:=RS h (s.1).toNat
 unfold GE
 cases decide (s.1<(c.length:Int))
 ·cases decide ((IntKind.wrap .i64 (s.1+1))≤(c.length:Int))
  ·exact sL _
  ·exact⟨Int.le_refl _,(by decide:(0:Int)≤255)⟩
 ·cases decide ((IntKind.wrap .i64 (s.1+1))≤(c.length:Int))
  ·exact sL _
  ·show 0≤IntKind.wrap .i64 (c.getD ((s.1).toNat) iN)∧IntKind.wrap .i64 (c.getD ((s.1).toNat) iN)≤255
   rw[RE oM];exact h1
theorem CV{c:List Int}(h:iI c)(s:Int×Int){n:Int}(h1:1≤n)(h2:n≤200):0≤(wA c s n).1∧(wA c s n).1<n:=by
 have h3:=DY h s
 unfold wA
 by_cases h4:n≤1
 ·rw[decide_eq_true h4];exact⟨Int.le_refl _,h1⟩
 ·rw[decide_eq_false h4,cond_false,decide_eq_false oM,cond_false]
  have:=VR (a:=(GE c s).1) (b:=n) h3.1 oM
  exact⟨this.1,this.2.1⟩
def QW(c:List Int)(T:Int)(x3:List MG)(j:Nat)(o:YI (dB×(Int×Int)) (Int×Int×(List MG))):Prop:=
 ∃x',o=.cont x'∧(x'.2.2=x3∨∃s' m,x'.2.2=x3++[(⟨([[105],[106],[109]]:List uA).getD j IB,IntKind.wrap .i64 (1+(wA c s' (IntKind.wrap .i64 (T-1))).1),m⟩:MG)])
theorem dY{α:Type}{P:α→Prop}{b:Bool}{x y:α}(h1:P x)(h2:P y):P (bif b then x else y):=by cases b;exact h2;exact h1
theorem yW(c:List Int)(s:Int×Int)(j:Nat):∀x:Int×Int×List MG,QW c (((([]:List uA)++(([[107],[97],[98],[99,99]]:List uA).take ((IntKind.wrap .i64 (2+((wA c ((VB c s ([[116],[117]]:List uA)).2) 3).1))).toNat))).length:Nat):Int) x.2.2 j (GH c s j x)
 | (_,_,_)=>dY (dY (dY ⟨_,rfl,.inl rfl⟩ ⟨_,rfl,.inr ⟨_,_,rfl⟩⟩) ⟨_,rfl,.inl rfl⟩) ⟨_,rfl,.inr ⟨_,_,rfl⟩⟩
def KT(T:Int)(x:MG):Prop:=x.Name.length≤1∧0≤x.Col∧x.Col<T
theorem TR{c:List Int}(h:iI c){T:Int}(hT:2≤T)(hT4:T≤4){body:Nat→Int×Int×List MG→YI (dB×(Int×Int)) (Int×Int×List MG)}(hb:∀j x,QW c T x.2.2 j (body j x)):∀(n k:Nat) (x:Int×Int×List MG),(∀y∈x.2.2,KT T y)→∃x',iB body n k x=.done x'∧(∀y∈x'.2.2,KT T y)∧x'.2.2.length≤x.2.2.length+n
 | 0,_,x,hx=>⟨x,rfl,hx,Nat.le_refl _⟩
 | n+1,k,x,hx=>by
  obtain⟨x1,e,h1⟩:=hb k x
  have hx1:(∀y∈x1.2.2,KT T y)∧x1.2.2.length≤x.2.2.length+1:=by
   rcases h1 with h1 | ⟨s',m,h1⟩
   ·rw[h1];exact⟨hx,Nat.le_succ _⟩
   ·rw[h1]
    refine⟨fun y hy=>?_,by rw[List.length_append];exact Nat.le_refl _⟩
    rcases List.mem_append.1 hy with hy | hy
    ·exact hx y hy
    ·rw[List.mem_singleton]at hy;subst hy
     rw[RE (n:=T-1) oM]
     have hp:=CV h s' (n:=T-1) oM oM
     have hn:=kV (l:=([[105],[106],[109]]:List uA)) (m:=1) (by decide) k
     refine⟨hn,?_⟩
     dsimp only
     rw[RE oM];omega
  obtain⟨x',e2,h2,h3⟩:=TR h hT hT4 hb n (k+1) x1 hx1.1
  refine⟨x',?_,h2,by omega⟩
  unfold iB
  rw[e];exact e2
theorem FV{c:List Int}(h:iI c)(s:Int×Int):iY (SA c s).1:=by
 have hp:=CV h ((VB c s ([[116],[117]]:List uA)).2) (n:=3) (by decide) (by decide)
 have hl:((([]:List uA)++(([[107],[97],[98],[99,99]]:List uA).take ((IntKind.wrap .i64 (2+((wA c ((VB c s ([[116],[117]]:List uA)).2) 3).1))).toNat))).length:Nat)=(2+(wA c ((VB c s ([[116],[117]]:List uA)).2) 3).1).toNat:=by
  rw[RE oM,List.length_append,List.length_take]
  simp only[List.length_cons,List.length_nil];omega
 obtain⟨x',e,h2,h3⟩:=TR h (by rw[hl];omega) (by rw[hl];omega) (yW c s) (3-0) 0 (((wA c ((VB c s ([[116],[117]]:List uA)).2) 3).2).1,((wA c ((VB c s ([[116],[117]]:List uA)).2) 3).2).2,([]:List MG)) (fun y hy=>by cases hy)
 unfold SA
 rw[e]
 refine⟨aK 1 c s ([[116],[117]]:List uA) (by decide),?_,?_,h3,fun k hk=>?_⟩
 ·show 2≤(([]:List uA)++_).length
  rw[hl];omega
 ·show(([]:List uA)++_).length≤4
  rw[hl];omega
 ·have:=h2 _ (yG (d:=AB) hk)
  exact⟨this.1,this.2.1,this.2.2⟩
theorem VN{t:dB}{r:mD}(h:WH t r=true):LC t=true∧vE t r=true∧(∀v∈r.Vals,VE v=true)∧2≤r.Vals.length∧r.Vals.length=t.Cols.length:=by
 have h1:=EQ h
 unfold WH at h
 obtain⟨h2,h3⟩:=WD h
 have h4:=h3
 rw[BP,fM,Bool.and_eq_true]at h4
 exact⟨NG t▸h2,h3,List.all_eq_true.1 h4.1,oM,h1.1.1⟩
theorem CS{t:dB}{w:jA}(h:(QM t w).2=true):WO t (QM t w).1=(w,true):=by
 unfold QM at h ⊢
 cases hg:UD t
 ·rw[hg]at h;cases h
 ·rw[hg]at h
  dsimp only[cond_true]at h ⊢
  unfold ZB at h ⊢
  revert h
  generalize (⟨(([(KB w.Key (t.Name++([47]:uA))).1]:List uA)++(BD w.Val ([44]:uA)))⟩:mD)=r
  intro h
  cases hc:(KB w.Key (t.Name++([47]:uA))).2
  ·rw[hc]at h;cases h
  ·rw[hc]at h
   dsimp only[cond_true]at h ⊢
   cases hr:vE t r
   ·rw[hr]at h;cases h
   ·rw[hr]at h
    dsimp only[cond_true]at h ⊢
    cases he:(w.Key==(vB t r).Key&&(w.Val==(vB t r).Val&&w.Gone==(vB t r).Gone))
    ·rw[he]at h;cases h
    ·dsimp only[cond_true]
     simp only[Bool.and_eq_true,beq_iff_eq]at he
     unfold WO WH
     rw[hg,cond_true,hr,cond_true]
     have:vB t r=w:=by
      cases w;cases hq:vB t r
      rw[hq]at he
      simp only[jA.mk.injEq]
      exact⟨he.1.symm,he.2.1.symm,he.2.2.symm⟩
     rw[this]
theorem yY{t:dB}{n:uA}{r:mD}(h:WH t r=true)(hi:cE t n=true):(0≤(PC t n).Col∧(PC t n).Col<(r.Vals.length:Int))∧yP t n (WC t n r)=(r.Vals.getD ((PC t n).Col).toNat IB,r.Vals.getD 0 IB,true):=by
 obtain⟨hg,hr,hf,hl,hc⟩:=VN h
 have hcol:0≤(PC t n).Col∧(PC t n).Col<(r.Vals.length:Int):=by
  have:=NK hi
  omega
 refine⟨hcol,?_⟩
 have f1:=hf _ (yG (d:=IB) (i:=((PC t n).Col).toNat) oM)
 have f0:=hf _ (yG (d:=IB) (i:=0) oM)
 obtain⟨c1,c2⟩:=BM (WC t n r) (cD t n)
 have hk:WC t n r=cD t n++(r.Vals.getD (((PC t n).Col).toNat) IB++47::r.Vals.getD 0 IB):=by
  unfold WC
  simp only[List.append_assoc];rfl
 rw[SU hk]at c1
 have c3:=c2 c1
 rw[hk,List.drop_left' rfl]at c3
 have hs:=(EQ h).2.2.getD ((PC t n).Col).toNat
 have hcut:=tU (r:=r.Vals.getD 0 IB) (OQ f1) oM
 unfold yP
 rw[hi,cond_true]
 have:TC t n (WC t n r)=(r.Vals.getD ((PC t n).Col).toNat IB,r.Vals.getD 0 IB,true):=by
  unfold TC
  rw[c1,hk,c3,hcut,eM,eM]
  dsimp only[cond_true]
  rw[f1,f0];rfl
 rw[this]
theorem MQ(a:List uA):gJ a a=true:=by
 unfold gJ
 rw[decide_eq_true rfl,cond_true]
 rw[iS IB (fun _=>true) (r:=false) fun k=>by unfold lI;rw[beq_self_eq_true]]
 simp
theorem YN(a:List mD):JG a a=true:=by
 unfold JG
 rw[decide_eq_true rfl,cond_true]
 rw[iS DD (fun _=>true) (r:=false) fun k=>by unfold WG;rw[MQ]]
 simp
theorem oN(t:dB)(l:List jA):mB t l=(l.filter fun w=>(ZB t w).2).map fun w=>(ZB t w).1:=by
 unfold mB
 refine fF (fun k (p:List mD)=>p=((l.take k).filter fun w=>(ZB t w).2).map fun w=>(ZB t w).1) (fun(v:List mD)=>v=(l.filter fun w=>(ZB t w).2).map fun w=>(ZB t w).1) rfl (fun s h=>by rw[h,List.take_of_length_le oM]) ?_
 intro j s _ hj hs
 have hj':j<l.length:=by omega
 unfold MF
 dsimp only
 rw[List.take_succ_eq_append_getElem hj',List.filter_append,List.map_append,←hs,←QF (d:=xA) hj',List.filter_cons]
 cases (ZB t (l.getD j xA)).2<;>simp
theorem UL{a b c:uA}(h1:jJ a b=true)(h2:jJ b c=true):jJ a c=true:=by
 unfold jJ at *
 rw[ML,decide_eq_true_eq]at *
 exact List.lt_trans h1 h2
theorem rL(a:uA):¬jJ a a=true:=by
 unfold jJ
 rw[ML,decide_eq_true_eq]
 exact List.lt_irrefl a
theorem LR{t:dB}{w:jA}(hg:UD t=true)(h:(ZB t w).2=true):WH t (ZB t w).1=true∧vB t (ZB t w).1=w:=by
 have e:QM t w=ZB t w:=by unfold QM;rw[hg,cond_true]
 have h1:=CS (t:=t) (w:=w) (by rw[e];exact h)
 rw[e]at h1
 unfold WO at h1
 cases hr:WH t (ZB t w).1
 ·rw[hr]at h1;cases h1
 ·rw[hr]at h1
  exact⟨rfl,(Prod.mk.inj h1).1⟩
theorem DZ(t:dB)(r:mD):(vB t r).Key=(t.Name++([47]:uA))++r.Vals.getD 0 IB:=rfl
theorem nQ(n:Int):(iH n).length≤2:=by
 unfold iH
 cases decide (n<0)
 ·exact Nat.le_succ 1
 ·show(([45]:uA)++sJ _).length≤2
  rw[List.length_append,ZN];exact Nat.le_refl 2
theorem lT(n:Int):HE (iH n):=by
 have:=nQ n
 unfold HE;omega
theorem TY(rows:List jA)(k:uA):(HG rows k).Key=k:=by
 unfold HG
 refine fF (fun _ _=>True) (fun(v:AF)=>v.Key=k) trivial (fun _ _=>rfl) (fun j s _ _ _=>?_)
 unfold NH
 dsimp only
 cases ((rows.getD j xA).Key==k)
 ·trivial
 ·rfl
theorem wW{buf:List jA}{got:List AF}{k:uA}(h:(qC buf got k).2.2=false):(got.any fun g=>g.Key==k)=false:=by
 revert h
 unfold qC
 refine fF (fun _ _=>True) (fun(v:uA×Bool×Bool)=>v.2.2=false→(got.any fun g=>g.Key==k)=false) trivial (fun _ _=>?_) (fun j s _ _ _=>?_)
 ·refine fF (fun j _=>((got.take j).any fun g=>g.Key==k)=false) (fun(v:uA×Bool×Bool)=>v.2.2=false→(got.any fun g=>g.Key==k)=false) rfl (fun s hs _=>?_) (fun j s _ hj hs=>?_)
  ·rw[List.take_of_length_le oM]at hs;exact hs
  ·have hj':j<got.length:=by omega
   unfold sH
   dsimp only
   cases h1:((got.getD j SH).Key==k)
   ·show((got.take (j+1)).any fun g=>g.Key==k)=false
    have hs:((got.take j).any fun g=>g.Key==k)=false:=hs
    rw[List.take_succ_eq_append_getElem hj',List.any_append,hs,←QF (d:=SH) hj',List.any_cons,h1];rfl
   ·exact fun h=>by cases h
 ·unfold QG
  cases ((buf.getD j xA).Key==k)
  ·trivial
  ·exact fun h=>by cases h
theorem PX{l:List OH}{got:List AF}(h:(XD l got).1=1):∃o∈l,(XD l got).2.1=o.Key∧(got.any fun g=>g.Key==o.Key)=false:=by
 revert h
 unfold XD
 refine fF (fun _ _=>True) (fun(v:Int×uA×List jA)=>v.1=1→∃o∈l,v.2.1=o.Key∧(got.any fun g=>g.Key==o.Key)=false) trivial (fun _ _ h=>?_) (fun j s _ hj _=>?_)
 ·cases h
 ·have hm:l.getD j MC∈l:=yG (d:=MC) oM
  unfold jD
  dsimp only
  cases hk:(qC s got (l.getD j MC).Key).2.2
  ·have hn:=wW hk
   cases decide ((l.getD j MC).Kind=2)
   ·cases decide ((l.getD j MC).Kind=3)
    ·exact fun _=>⟨_,hm,rfl,hn⟩
    ·cases xE (l.getD j MC) ((qC s got (l.getD j MC).Key).1) ((qC s got (l.getD j MC).Key).2.1)
     ·trivial
     ·exact fun h=>by cases h
   ·cases xE (l.getD j MC) ((qC s got (l.getD j MC).Key).1) ((qC s got (l.getD j MC).Key).2.1)
    ·trivial
    ·exact fun h=>by cases h
  ·cases xE (l.getD j MC) ((qC s got (l.getD j MC).Key).1) ((qC s got (l.getD j MC).Key).2.1)
   ·cases decide ((l.getD j MC).Kind=2)
    ·cases decide ((l.getD j MC).Kind=3)
     ·cases decide ((l.getD j MC).Kind=4)
      ·trivial
      ·cases (qC s got (l.getD j MC).Key).2.1<;>trivial
     ·trivial
    ·trivial
   ·exact fun h=>by cases h
theorem SN{α:Type}{p q:α→Bool}(hpq:∀x,q x=true→p x=true):∀{l:List α},(∃x∈l,p x=true∧q x=false)→(l.filter q).length<(l.filter p).length
 | [],h=>by obtain⟨x,hx,_⟩:=h;cases hx
 | y::l,h=>by
  have hle:∀l:List α,(l.filter q).length≤(l.filter p).length:=fun l=>by
   induction l with
   | nil=>exact Nat.le_refl _
   | cons y l ih=>cases hq:q y<;>cases hp:p y<;>simp[hq,hp]<;>first | omega | (have:=hpq y hq;rw[hp]at this;cases this)
  obtain⟨x,hx,h1,h2⟩:=h
  rcases List.mem_cons.1 hx with rfl | hx
  ·have:=hle l;simp[h1,h2];omega
  ·have ih:=SN hpq ⟨x,hx,h1,h2⟩
   cases hq:q y<;>cases hp:p y<;>simp[hq,hp]<;>first | omega | (have:=hpq y hq;rw[hp]at this;cases this)
theorem iR{rows:List jA}{l:List OH}{got:List AF}(h:(XD l got).1=1):(l.filter fun o=>!((got++([(HG rows ((XD l got).2.1))]:List AF)).any fun g=>g.Key==o.Key)).length<(l.filter fun o=>!(got.any fun g=>g.Key==o.Key)).length:=by
 obtain⟨o,ho,hk,hn⟩:=PX h
 refine SN (fun x hx=>?_) ⟨o,ho,by rw[hn];rfl,?_⟩
 ·rw[List.any_append,Bool.not_or,Bool.and_eq_true]at hx;exact hx.1
 ·rw[List.any_append,hk]
  simp[TY]
theorem cY(l:List OH):([]:List AF).length+(l.filter fun o=>!(([]:List AF).any fun g=>g.Key==o.Key)).length≤l.length:=by
 rw[List.length_nil,Nat.zero_add];exact List.length_filter_le _ _
theorem ZO{l:List jA}(h:dD l=true):l.length≤24:=by
 rw[GI]at h
 exact(UO (TM h)).1
theorem OV(rows:List jA)(k:uA):vC rows [⟨3,k,[],0⟩]=([],[⟨k,[],true⟩],true):=rfl
theorem WQ{rows:List jA}{f:List OH}{got:List AF}{x:List jA}{d:Bool}(hr:dD rows=true)(hf:JH f=true)(ha:vC rows f=(got,x,d)):YC rows [f]=bif d&&dD (CC rows x)then(CC rows x,[true],true)else(rows,[false],true):=by
 unfold YC
 rw[hr,cond_true]
 have b0:LF rows [f] 0 ()=.cont ():=by
  unfold LF
  show(bif JH f then _ else _)=_
  rw[hf];rfl
 have e0:iB (LF rows [f]) (([f]:List (List OH)).length-0) 0 ()=.done ():=by
  show iB (LF rows [f]) 1 0 ()=_
  simp only[iB,b0]
 have b1:zF rows [f] 0 (rows,[])=.cont (bif d&&dD (CC rows x)then(CC rows x,[true])else(rows,[false])):=by
  unfold zF
  show(bif(vC rows f).2.2 then bif dD (CC rows (vC rows f).2.1)then _ else _ else _)=_
  rw[ha]
  cases d
  ·rfl
  ·cases h:dD (CC rows x)
   ·simp only[cond_true,cond_false,Bool.true_and,h]
    show YI.cont (rows,[]++[dD (CC rows (vC rows f).2.1)])=_
    rw[ha];simp only[h];rfl
   ·simp only[cond_true,cond_false,Bool.true_and,h]
    show YI.cont (CC rows (vC rows f).2.1,[]++[dD (CC rows (vC rows f).2.1)])=_
    rw[ha];simp only[h];rfl
 have e1:iB (zF rows [f]) (([f]:List (List OH)).length-0) 0 ((([]:List jA)++rows),([]:List Bool))=.done (bif d&&dD (CC rows x)then(CC rows x,[true])else(rows,[false])):=by
  show iB (zF rows [f]) 1 0 (rows,[])=_
  simp only[iB,b1]
 rw[e0,e1]
 cases d&&dD (CC rows x)<;>rfl
theorem CP{s:uA}(h:VE s=true):∀b∈s,∀more:uA,ZK more b=true:=by
 unfold VE at h
 obtain⟨_,h2⟩:=WD h
 rw[PK,List.all_eq_true]at h2
 intro b hb more
 have:=h2 b hb
 unfold ZK at this ⊢
 rw[Bool.or_eq_true]at this ⊢
 rcases this with h | h
 ·exact Or.inl h
 ·cases h
theorem XO{s:uA}{m:Int}(h:DC s m=true):∀b∈s,ZK ([46,47]:uA) b=true:=by
 rw[GM,Bool.and_eq_true,Bool.and_eq_true,List.all_eq_true]at h
 intro b hb
 have h1:=h.1.1 b hb
 unfold GR at h1
 rw[Bool.and_eq_true,Bool.not_eq_true',Bool.not_eq_true',decide_eq_false_iff_not,decide_eq_false_iff_not]at h1
 unfold ZK wE
 rw[decide_eq_true (show(97:Int)≤(b.toNat:Int)by omega),decide_eq_true (show(b.toNat:Int)≤122 by omega)];rfl
theorem mV{t:dB}{n:uA}(h:cE t n=true):DC t.Name 1=true∧DC n 1=true:=by
 have h2:=fO (dT t n▸h)
 obtain⟨h3,h4⟩:=(VO t n).1 h
 have h5:=UK t n
 rw[dW]at h2
 rw[jM]at h3
 simp only[Bool.and_eq_true,List.all_eq_true,List.mem_range]at h3
 have h6:=h3.2 (iD t n).toNat oM
 unfold BR at h6
 simp only[Bool.and_eq_true]at h6
 have h7:=h6.1.1.1
 rw[h2.2]at h7
 exact⟨h3.1.1.1,h7⟩
theorem pV{s:uA}(h1:1≤s.length)(h2:s.length≤12)(h:∀b∈s,ZK ([46,47]:uA) b=true):nF s=true:=by
 unfold nF FE
 rw[decide_eq_true oM,cond_true,decide_eq_true oM,cond_true,PK,List.all_eq_true];exact h
theorem zY{s:uA}(h2:s.length≤24)(h:∀b∈s,ZK ([46,45,44,95]:uA) b=true):cH s=true:=by
 unfold cH
 rw[decide_eq_true oM,cond_true,PK,List.all_eq_true];exact h
theorem GQ:∀(xs:List uA),∀b∈([44]:uA).intercalate xs,b=44∨∃x∈xs,b∈x
 | [],b,h=>by simp[List.intercalate]at h
 | [x],b,h=>by rw[jO]at h;exact Or.inr ⟨x,by simp,h⟩
 | x::y::zs,b,h=>by
  rw[dM]at h
  rcases List.mem_append.1 h with h | h
  ·exact Or.inr ⟨x,by simp,h⟩
  ·rcases List.mem_append.1 h with h | h
   ·exact Or.inl (List.mem_singleton.1 h)
   ·rcases GQ (y::zs) b h with h | ⟨z,hz,h⟩
    ·exact Or.inl h
    ·exact Or.inr ⟨z,List.mem_cons_of_mem _ hz,h⟩
theorem lY{t:dB}{r:mD}(h:WH t r=true){k:Nat}(hk:k<r.Vals.length):VE (r.Vals.getD k IB)=true:=(VN h).2.2.1 _ (yG hk)
theorem JX{t:dB}{r:mD}{n:uA}(h:WH t r=true)(hi:cE t n=true):nF (vB t r).Key=true∧cH (vB t r).Val=true∧nF (WC t n r)=true:=by
 obtain⟨hg,hr,hf,hl,hc⟩:=VN h
 obtain⟨hn1,hn2⟩:=mV hi
 have ln1:=wM hn1
 have ln2:=wM hn2
 have hcol:=(yY h hi).1
 have f0:=lY h (k:=0) oM
 have f1:=lY h (k:=((PC t n).Col).toNat) oM
 have l0:=PM f0
 have l1:=PM f1
 have hc4:=(uN.of hg).cols
 refine⟨?_,?_,?_⟩
 ·rw[DZ]
  refine pV (by simp only[lN];omega) (by simp only[lN];omega) fun b hb=>?_
  simp only[List.mem_append,List.mem_singleton]at hb
  rcases hb with(hb | hb) | hb
  ·exact XO hn1 b hb
  ·rw[hb];decide
  ·exact CP f0 b hb _
 ·show cH (pF (r.Vals.drop 1) ([44]:uA))=true
  unfold pF
  have hs:∀x∈r.Vals.drop 1,VE x=true:=fun x hx=>hf x (List.mem_of_mem_drop hx)
  have h1:=SM (r.Vals.drop 1) fun x hx=>by have:=PM (hs x hx);omega
  rw[List.length_drop]at h1
  refine zY oM fun b hb=>?_
  rcases GQ _ b hb with hb | ⟨x,hx,hb⟩
  ·rw[hb];decide
  ·exact CP (hs x hx) b hb _
 ·unfold WC cD
  refine pV (by simp only[lN];omega) (by simp only[lN];omega) fun b hb=>?_
  simp only[List.mem_append,List.mem_singleton]at hb
  rcases hb with(((((hb | hb) | hb) | hb) | hb) | hb) | hb
  ·exact XO hn1 b hb
  ·rw[hb];decide
  ·exact XO hn2 b hb
  ·rw[hb];decide
  ·exact CP f1 b hb _
  ·rw[hb];decide
  ·exact CP f0 b hb _
theorem pY(l:List OH)(h:l.all FF=true)(hl:l.length≤8):JH l=true:=by
 unfold JH
 rw[iS MC FF (r:=false) fun k=>rfl,h,cond_true,decide_eq_true oM]
theorem Za{k v:uA}(hk:nF k=true)(hv:cH v=true):FF ⟨7,k,v,0⟩=true:=by
 unfold FF
 show(bif nF k then bif cH v then true else false else _)=true
 rw[hk,hv];rfl
theorem Ha{k v:uA}(hk:nF k=true)(hv:cH v=true):FF ⟨2,k,v,0⟩=true:=by
 unfold FF
 show(bif nF k then bif cH v then true else false else _)=true
 rw[hk,hv];rfl
theorem zZ{k:uA}(hk:nF k=true):FF ⟨3,k,[],0⟩=true:=by
 unfold FF
 dsimp only
 rw[hk];rfl
theorem GZ:cH ([]:uA)=true:=rfl
theorem TO(t:dB)(n:uA)(l:List jA):(lB t n l).length≤l.length:=by
 unfold lB
 refine fF (fun k (p:List uA)=>p.length≤k) (fun(v:List uA)=>v.length≤l.length) (Nat.le_refl _) (fun s hs=>by omega) ?_
 intro j x _ _ h1
 unfold aG
 dsimp only
 cases (eE t n (l.getD j xA).Key).2.2
 ·exact Nat.le_succ_of_le h1
 ·show List.length (_++_)≤_
  rw[List.length_append,List.length_singleton];omega
def eR(y:mD):SZ:=⟨y.Vals.getD 1 IB,y.Vals.getD 0 IB⟩
theorem YW{a b:uA}(h1:jJ a b=false)(h2:jJ b a=false):a=b:=by
 have h3:XH a b=true:=by rw[qN,h2];rfl
 unfold XH at h3
 rw[h1,Bool.false_or]at h3
 exact eq_of_beq h3
theorem XZ(x y:uA):decide (cS x y<0)=jJ x y:=by
 unfold cS
 cases jJ x y
 ·cases XH x y<;>rfl
 ·rfl
theorem lZ(x y:uA):decide (cS x y=0)=decide (x=y):=by
 by_cases h:x=y
 ·subst h
  rw[decide_eq_true rfl]
  unfold cS
  have h1:jJ x x=false:=by cases h:jJ x x;rfl;exact absurd h (rL x)
  have h2:XH x x=true:=by unfold XH;rw[beq_self_eq_true,Bool.or_true]
  rw[h1,h2];rfl
 ·rw[decide_eq_false h]
  unfold cS
  cases h1:jJ x y
  ·cases h2:XH x y
   ·rfl
   ·unfold XH at h2
    rw[h1,Bool.false_or]at h2
    exact absurd (eq_of_beq h2) h
  ·rfl
theorem hU(a:uA):jJ a a=false:=by cases h:jJ a a;rfl;exact absurd h (rL a)
theorem QR{a b:uA}(h:jJ a b=true):jJ b a=false:=by
 cases h2:jJ b a
 ·rfl
 ·exact absurd (UL h h2) (rL _)
theorem QV{i j:Int}(h0:0≤i)(h1:i<j)(h2:j≤2147483648):IntKind.wrap .i64 (Int.fdiv (IntKind.wrap .u64 (IntKind.wrap .i64 (i+j))) 2)=(i+j) / 2:=by
 rw[show IntKind.wrap .i64 (i+j)=i+j from RE oM,show IntKind.wrap .u64 (i+j)=i+j by simp[IntKind.wrap,IntKind.bits,IntKind.signed];omega,Int.fdiv_eq_ediv_of_nonneg _ oM]
 exact RE oM
theorem WZ(l:List jA)(k:uA)(f:jA→uA→Int)(hl:l.length≤2147483648):(0≤(EC l k f).1∧(EC l k f).1≤(l.length:Int))∧((EC l k f).2=true→(EC l k f).1<(l.length:Int)):=by
 unfold EC
 refine TK (body:=wC l k f) (fun(p:Int×Int)=>0≤p.1∧p.1≤p.2∧p.2≤(l.length:Int)) (fun p=>(p.2-p.1).toNat) (fun(v:Int×Bool)=>(0≤v.1∧v.1≤(l.length:Int))∧(v.2=true→v.1<(l.length:Int))) ?_ _ (0,(l.length:Int)) ⟨oM,(by show(0:Int)≤(l.length:Int);omega),Int.le_refl _⟩ (by show((l.length:Int)-0).toNat<_;omega)
 rintro⟨a,b⟩ ⟨h0,h1,h2⟩
 dsimp only at h0 h1 h2
 unfold wC
 dsimp only
 cases hd:decide (a<b)
 ·dsimp only[cond_false]
  show(0≤(bif decide (a<(l.length:Int))then _ else _:Int×Bool).1∧_)∧_
  cases hd2:decide (a<(l.length:Int))
  ·exact⟨⟨h0,by show a≤_;omega⟩,fun h=>by cases h⟩
  ·have:=of_decide_eq_true hd2
   exact⟨⟨h0,by show a≤_;omega⟩,fun _=>this⟩
 ·have hlt:=of_decide_eq_true hd
  have hm:=QV h0 hlt oM
  rw[hm]
  have hw:IntKind.wrap .i64 ((a+b) / 2+1)=(a+b) / 2+1:=RE oM
  dsimp only[cond_true]
  show YI.sat _ _ _ (bif _ then _ else _)
  cases decide (f (l.getD ((a+b) / 2).toNat xA) k<0)
  ·exact⟨⟨h0,by show a≤(a+b) / 2;omega,by show(a+b) / 2≤_;omega⟩,by show((a+b) / 2-a).toNat<(b-a).toNat;omega⟩
  ·rw[hw]
   exact⟨⟨by show 0≤(a+b) / 2+1;omega,by show(a+b) / 2+1≤b;omega,h2⟩,by show(b-((a+b) / 2+1)).toNat<(b-a).toNat;omega⟩
theorem tL(l:List jA)(k:uA)(hl:l.length≤2147483648):(0≤(UC l k).1∧(UC l k).1≤(l.length:Int))∧((UC l k).2=true→(UC l k).1<(l.length:Int)):=WZ l k _ hl
theorem RN{l:List jA}{k:uA}(h:(UC l k).2=true)(hl:l.length≤2147483648):(UC l k).1<(l.length:Int):=(tL l k hl).2 h
theorem NM(l:List jA):(CB l).length=l.length:=rfl
theorem xJ{l:List jA}(h:UG l=true):l.length≤24:=(UO (TM h)).1
theorem BX{l:List OH}(hl:l.length≤100)(h:∀y∈l,y.Kind≠4):∀x∈([l]:List (List OH)),x.length≤100∧∀y∈x,y.Kind≠4:=fun x hx=>by rw[List.mem_singleton.1 hx];exact⟨hl,h⟩
theorem PL(l:List jA)(w:jA):(EF l w).length≤l.length+1:=by
 unfold EF
 cases (UC l w.Key).2
 ·show(l.take _++w::l.drop _).length≤_
  rw[List.length_append,List.length_cons,List.length_take,List.length_drop];omega
 ·show(l.set _ _).length≤_
  rw[List.length_set];omega
theorem RU{buf:List jA}{got:List AF}{k:uA}(h:(eF k buf got).2.2=false):(got.any fun g=>g.Key==k)=false:=by
 revert h
 unfold eF
 cases (UC buf k).2
 ·rw[cond_false]
  refine fF (fun j _=>((got.take j).any fun g=>g.Key==k)=false) (fun(v:uA×Bool×Bool)=>v.2.2=false→(got.any fun g=>g.Key==k)=false) rfl (fun s hs _=>?_) (fun j s _ hj hs=>?_)
  ·rw[List.take_of_length_le oM]at hs;exact hs
  ·have hj':j<got.length:=by omega
   unfold LH
   dsimp only
   cases h1:((got.getD j SH).Key==k)
   ·show((got.take (j+1)).any fun g=>g.Key==k)=false
    have hs:((got.take j).any fun g=>g.Key==k)=false:=hs
    rw[List.take_succ_eq_append_getElem hj',List.any_append,hs,←QF (d:=SH) hj',List.any_cons,h1];rfl
   ·exact fun h=>by cases h
 ·exact fun h=>by cases h
theorem xW{l:List OH}{got:List AF}(h:(ID l got).1=1):∃o∈l,(ID l got).2.1=o.Key∧(got.any fun g=>g.Key==o.Key)=false:=by
 revert h
 unfold ID
 refine fF (fun _ _=>True) (fun(v:Int×uA×List jA)=>v.1=1→∃o∈l,v.2.1=o.Key∧(got.any fun g=>g.Key==o.Key)=false) trivial (fun _ _ h=>?_) (fun j s _ hj _=>?_)
 ·cases h
 ·have hm:l.getD j MC∈l:=yG (d:=MC) oM
  unfold TD
  dsimp only
  cases decide ((l.getD j MC).Kind=2)
  ·cases decide ((l.getD j MC).Kind=3)
   ·cases hk:(eF (l.getD j MC).Key s got).2.2
    ·exact fun _=>⟨_,hm,rfl,RU hk⟩
    ·cases UE (l.getD j MC) ((eF (l.getD j MC).Key s got).1) ((eF (l.getD j MC).Key s got).2.1)
     ·exact fun h=>by cases h
     ·trivial
   ·trivial
  ·trivial
theorem vX(rows:List jA)(k:uA):(vH rows k).Key=k:=by
 unfold vH
 cases (UC rows k).2<;>rfl
theorem LS{rows:List jA}{l:List OH}{got:List AF}(_:∀y∈l,y.Kind≠4)(h:(ID l got).1=1):(l.filter fun o=>!((got++([(vH rows ((ID l got).2.1))]:List AF)).any fun g=>g.Key==o.Key)).length<(l.filter fun o=>!(got.any fun g=>g.Key==o.Key)).length:=by
 obtain⟨o,ho,hk,hn⟩:=xW h
 refine SN (fun x hx=>?_) ⟨o,ho,by rw[hn];rfl,?_⟩
 ·rw[List.any_append,Bool.not_or,Bool.and_eq_true]at hx;exact hx.1
 ·rw[List.any_append,hk]
  simp[vX]
theorem nW(r w:List jA):(IH r w).1.length≤24:=by
 unfold IH
 refine fF (fun _ _=>True) (fun(v:List jA×Bool)=>v.1.length≤24) trivial (fun s _=>?_) (fun j s _ _ _=>?_)
 ·cases hd:decide (24<((SD s fun y0=>RI y0).length:Int))
  ·have:=of_decide_eq_false hd
   show(SD s fun y0=>RI y0).length≤24
   omega
  ·exact Nat.zero_le _
 ·trivial
theorem tW(s:List jA)(o:List OH):(oG s o).1.length≤s.length∨(oG s o).1.length≤24:=by
 unfold oG
 cases (WF s o).2.2
 ·exact .inl (Nat.le_refl _)
 ·cases (IH s (WF s o).2.1).2
  ·exact .inl (Nat.le_refl _)
  ·exact .inr (nW _ _)
theorem OW{l:List DE}{f:DE→Bool}{n:Nat}(h:∀y∈l,y.ops.length≤100∧∀o∈y.ops,o.Kind≠4)(hn:n<(bB (BB l) f).length):((bB (BB l) f).getD n zI).ops.length≤100∧∀o∈((bB (BB l) f).getD n zI).ops,o.Kind≠4:=
 h _ (List.mem_filter.1 (yG hn)).1
def Up(l:List jA):Prop:=l.Pairwise fun a b=>jJ a.Key b.Key=true
structure rU (l:List jA) (k:uA) (i:Nat):Prop where
 le:i≤l.length
 lo:∀j (h:j<l.length),j<i→jJ l[j].Key k=true
 hi:∀j (h:j<l.length),i≤j→jJ l[j].Key k=false
theorem rU.uniq{l:List jA}{k:uA}{i i':Nat}(h:rU l k i)(h':rU l k i'):i=i':=by
 rcases Nat.lt_trichotomy i i' with h1 | h1 | h1
 ·have hl:i<l.length:=by have:=h'.le;omega
  have a:=h'.lo i hl h1
  rw[h.hi i hl (Nat.le_refl _)]at a;cases a
 ·exact h1
 ·have hl:i'<l.length:=by have:=h.le;omega
  have a:=h.lo i' hl h1
  rw[h'.hi i' hl (Nat.le_refl _)]at a;cases a
theorem Up.lt{l:List jA}(h:Up l){i j:Nat}(hi:i<l.length)(hj:j<l.length)(hij:i<j):jJ l[i].Key l[j].Key=true:=List.pairwise_iff_getElem.1 h i j hi hj hij
theorem Up.down{l:List jA}(h:Up l){m:Nat}{k:uA}(hm:m<l.length)(hk:jJ l[m].Key k=true):∀j (h:j<l.length),j≤m→jJ l[j].Key k=true:=fun j hj hjm=>by
 rcases Nat.lt_or_ge j m with hlt | hge
 ·exact UL (h.lt hj hm hlt) hk
 ·obtain rfl:j=m:=by omega
  exact hk
theorem Up.up{l:List jA}(h:Up l){m:Nat}{k:uA}(hm:m<l.length)(hk:jJ l[m].Key k=false):∀j (h:j<l.length),m≤j→jJ l[j].Key k=false:=fun j hj hjm=>by
 cases hh:jJ l[j].Key k
 ·rfl
 ·rw[h.down hj hh m hm hjm]at hk;cases hk
def aS(l:List jA)(k:uA)(i:Nat):Bool:=decide (i<l.length)&&((l.getD i xA).Key==k)
theorem dL{l:List jA}{k:uA}{i:Nat}:aS l k i=true↔∃h:i<l.length,l[i].Key=k:=by
 unfold aS
 rw[Bool.and_eq_true,decide_eq_true_eq]
 constructor
 ·rintro⟨h,e⟩;refine⟨h,?_⟩;rw[QF h]at e;exact eq_of_beq e
 ·rintro⟨h,e⟩;refine⟨h,?_⟩;rw[QF h,e];exact beq_self_eq_true _
theorem rU.fnd_at{l:List jA}(hu:Up l){k:uA}{j:Nat}(hj:j<l.length)(e:l[j].Key=k):rU l k j where
 le:=by omega
 lo i hi hij:=e▸hu.lt hi hj hij
 hi i hi hij:=hu.up hj (by rw[e];exact hU k) i hi hij
theorem YZ(x y:uA):LD x y=cS x y:=by
 unfold LD cG cS
 rw[beq_self_eq_true,beq_self_eq_true];rfl
theorem iO{l:List jA}(hu:Up l)(hl:l.length≤2147483648)(k:uA):∃i,rU l k i∧UC l k=((i:Int),aS l k i):=by
 have hf:(fun y0 y1=>fJ y0 y1)=fun(y0:jA) (y1:uA)=>cS y0.Key y1:=by funext y0 y1;exact YZ _ _
 unfold UC
 rw[hf]
 suffices h:∃i,rU l k i∧EC l k (fun y0 y1=>cS y0.Key y1)=((i:Int),aS l k i)by
  obtain⟨i,h1,h2⟩:=h;exact⟨i,h1,by rw[h2]⟩
 unfold EC
 refine TK (body:=wC l k fun y0 y1=>cS y0.Key y1) (fun(p:Int×Int)=>(0≤p.1∧p.1≤p.2∧p.2≤(l.length:Int))∧(∀j (h:j<l.length),(j:Int)<p.1→jJ l[j].Key k=true)∧∀j (h:j<l.length),p.2≤(j:Int)→jJ l[j].Key k=false) (fun p=>(p.2-p.1).toNat) (fun(v:Int×Bool)=>∃i,rU l k i∧v=((i:Int),aS l k i)) ?_ _ (0,(l.length:Int)) ⟨⟨by omega,(by show(0:Int)≤(l.length:Int);omega),Int.le_refl _⟩,fun j _ h=>by dsimp only at h;omega,fun j h h2=>by dsimp only at h2;omega⟩ (by show((l.length:Int)-0).toNat<_;omega)
 rintro⟨a,b⟩ ⟨⟨h0,h1,h2⟩,h3,h4⟩
 dsimp only at h0 h1 h2 h3 h4
 unfold wC
 dsimp only
 cases hd:decide (a<b)
 ·have hge:=of_decide_eq_false hd
  have hp:rU l k a.toNat:=⟨by omega,fun j h hj=>h3 j h oM,fun j h hj=>h4 j h oM⟩
  dsimp only[cond_false]
  show ∃i,rU l k i∧(bif decide (a<(l.length:Int))then(a,decide (cS (l.getD a.toNat xA).Key k=0))else(a,false))=((i:Int),aS l k i)
  refine⟨a.toNat,hp,?_⟩
  rw[show((a.toNat:Nat):Int)=a by omega]
  unfold aS
  by_cases hl2:a<(l.length:Int)
  ·rw[decide_eq_true hl2,decide_eq_true (show a.toNat<l.length by omega),lZ]
   show(a,_)=(a,_)
   congr 1
   rw[Bool.eq_iff_iff,decide_eq_true_eq,Bool.true_and]
   exact⟨fun e=>by rw[e];exact beq_self_eq_true _,eq_of_beq⟩
  ·rw[decide_eq_false hl2,decide_eq_false (show ¬a.toNat<l.length by omega)];rfl
 ·have hlt:=of_decide_eq_true hd
  have hm:=QV h0 hlt oM
  rw[hm,XZ]
  have hw:IntKind.wrap .i64 ((a+b) / 2+1)=(a+b) / 2+1:=RE oM
  have hml:((a+b) / 2).toNat<l.length:=by omega
  rw[QF hml]
  dsimp only[cond_true]
  show YI.sat _ _ _ (bif _ then _ else _)
  cases hs:jJ l[((a+b) / 2).toNat].Key k
  ·exact⟨⟨⟨h0,by show a≤(a+b) / 2;omega,by show(a+b) / 2≤_;omega⟩,h3,fun j h hj=>hu.up hml hs j h (by dsimp only at hj;omega)⟩,by show((a+b) / 2-a).toNat<(b-a).toNat;omega⟩
  ·rw[hw]
   exact⟨⟨⟨by show 0≤(a+b) / 2+1;omega,by show(a+b) / 2+1≤b;omega,h2⟩,fun j h hj=>hu.down hml hs j h (by dsimp only at hj;omega),h4⟩,by show(b-((a+b) / 2+1)).toNat<(b-a).toNat;omega⟩
theorem JR{l:List jA}(hu:Up l)(hl:l.length≤2147483648)(k:uA):∃i,rU l k i:=by
 obtain⟨i,h,_⟩:=iO hu hl k;exact⟨i,h⟩
def mN(l:List jA)(w:jA)(i:Nat):List jA:=bif aS l w.Key i then l.set i w else l.take i++w::l.drop i
theorem rW{l:List jA}(hu:Up l)(hl:l.length≤2147483648)(w:jA){i:Nat}(hp:rU l w.Key i):EF l w=mN l w i:=by
 obtain⟨i',h,e⟩:=iO hu hl w.Key
 obtain rfl:=hp.uniq h
 unfold EF mN
 rw[e];rfl
theorem bP{l:List jA}(hu:Up l)(hl:l.length≤1000000)(w:jA){i:Nat}(hp:rU l w.Key i):YB l w=mN l w i:=by
 unfold YB
 refine TK (body:=ZG l w) (fun(x:Int)=>(0≤x∧x≤(l.length:Int))∧∀j (h:j<l.length),x≤(j:Int)→jJ w.Key l[j].Key=true) (fun x=>x.toNat) (fun(v:List jA)=>v=mN l w i) ?_ _ _ ⟨⟨by omega,Int.le_refl _⟩,fun j h h2=>by omega⟩ oM
 rintro x ⟨⟨h0,h1⟩,h2⟩
 unfold ZG
 dsimp only
 have hi:=hp.le
 have key:(0<x→∀h:x.toNat-1<l.length,XH l[x.toNat-1].Key w.Key=true)→((bif decide (0<x)then(bif(l.getD (IntKind.wrap .i64 (x-1)).toNat xA).Key==w.Key then((([]:List jA)++l).set (IntKind.wrap .i64 (x-1)).toNat w)else(((([]:List jA)++(l.take x.toNat))++([w]:List jA))++(([]:List jA)++(l.drop x.toNat))))else(((([]:List jA)++(l.take x.toNat))++([w]:List jA))++(([]:List jA)++(l.drop x.toNat)))):List jA)=mN l w i:=fun hx=>by
  have hins:∀q:Nat,(((([]:List jA)++(l.take q))++([w]:List jA))++(([]:List jA)++(l.drop q)))=l.take q++w::l.drop q:=fun q=>by simp
  rw[hins]
  by_cases hx0:0<x
  ·rw[decide_eq_true hx0,cond_true,RE oM,show(x-1).toNat=x.toNat-1 by omega]
   have hxl:x.toNat-1<l.length:=by omega
   have hle:=hx hx0 hxl
   rw[QF hxl]
   unfold XH at hle
   cases he:(l[x.toNat-1].Key==w.Key)
   ·rw[he,Bool.or_false]at hle
    have e:i=x.toNat:=hp.uniq ⟨by omega,fun j h hj=>hu.down hxl hle j h oM,fun j h hj=>QR (h2 j h oM)⟩
    have hnf:aS l w.Key i=false:=by
     rw[←Bool.not_eq_true,dL]
     rintro⟨h,h3⟩
     have:=h2 i h oM
     rw[h3]at this;exact rL _ this
    unfold mN
    rw[hnf,e];rfl
   ·have e:i=x.toNat-1:=hp.uniq (rU.fnd_at hu hxl (eq_of_beq he))
    have hf:aS l w.Key i=true:=dL.2 ⟨by omega,by subst e;exact eq_of_beq he⟩
    unfold mN
    rw[hf,e];rfl
  ·rw[decide_eq_false hx0,cond_false]
   have e:i=x.toNat:=hp.uniq ⟨by omega,fun j h hj=>by omega,fun j h hj=>QR (h2 j h oM)⟩
   have hnf:aS l w.Key i=false:=by
    rw[←Bool.not_eq_true,dL]
    rintro⟨h,h3⟩
    have:=h2 i h oM
    rw[h3]at this;exact rL _ this
   unfold mN
   rw[hnf,e];rfl
 cases hd:decide (0<x)
 ·exact key fun h=>absurd h (of_decide_eq_false hd)
 ·have hx0:=of_decide_eq_true hd
  have hxl:x.toNat-1<l.length:=by omega
  rw[cond_true,RE oM,show(x-1).toNat=x.toNat-1 by omega,QF hxl]
  cases hs:XH l[x.toNat-1].Key w.Key
  ·rw[cond_false]
   rw[qN]at hs
   have hs:jJ w.Key l[x.toNat-1].Key=true:=by simpa using hs
   refine⟨⟨⟨by omega,by omega⟩,fun j h hj=>?_⟩,by omega⟩
   rcases Nat.lt_or_ge j x.toNat with hlt | hge
   ·obtain rfl:j=x.toNat-1:=by omega
    exact hs
   ·exact h2 j h oM
  ·rw[cond_true]
   exact key fun _ _=>hs
theorem fU{l:List jA}(hu:Up l)(hl:l.length≤1000000)(w:jA):EF l w=YB l w:=by
 obtain⟨i,hp⟩:=JR hu oM w.Key
 rw[rW hu oM w hp,bP hu hl w hp]
theorem LY{l:List jA}{w y:jA}{i:Nat}(h:y∈mN l w i):y∈l∨y=w:=by
 unfold mN at h
 cases hf:aS l w.Key i
 ·rw[hf,cond_false]at h
  rcases List.mem_append.1 h with h | h
  ·exact .inl (List.mem_of_mem_take h)
  ·rcases List.mem_cons.1 h with h | h
   ·exact .inr h
   ·exact .inl (List.mem_of_mem_drop h)
 ·rw[hf,cond_true]at h
  exact List.mem_or_eq_of_mem_set h
theorem BZ{l:List jA}(hu:Up l){w:jA}{i:Nat}(hp:rU l w.Key i):Up (mN l w i):=by
 unfold mN
 cases hf:aS l w.Key i
 ·rw[cond_false]
  have hne:∀h:i<l.length,l[i].Key≠w.Key:=fun h e=>by rw[dL.2 ⟨h,e⟩]at hf;cases hf
  unfold Up
  have h0:=hu
  unfold Up at h0
  rw[←List.take_append_drop i l,List.pairwise_append]at h0
  obtain⟨h1,h2,h3⟩:=h0
  rw[List.pairwise_append,List.pairwise_cons]
  have hd:∀y∈l.drop i,jJ w.Key y.Key=true:=fun y hy=>by
   obtain⟨j,hj,rfl⟩:=List.mem_iff_getElem.1 hy
   rw[List.length_drop]at hj
   rw[List.getElem_drop]
   have hil:i+j<l.length:=by omega
   cases hs:jJ w.Key l[i+j].Key
   ·have e:=YW hs (hp.hi (i+j) hil oM)
    rcases Nat.eq_zero_or_pos j with h0 | h0
    ·subst h0;exact absurd e.symm (hne oM)
    ·have h4:=hu.lt (show i<l.length by omega) hil oM
     rw[←e,hp.hi i oM (Nat.le_refl _)]at h4;cases h4
   ·rfl
  have ht:∀x∈l.take i,jJ x.Key w.Key=true:=fun x hx=>by
   obtain⟨j,hj,rfl⟩:=List.mem_iff_getElem.1 hx
   rw[List.length_take]at hj
   rw[List.getElem_take]
   exact hp.lo j oM oM
  refine⟨h1,⟨hd,h2⟩,fun a ha b hb=>?_⟩
  rcases List.mem_cons.1 hb with rfl | hb
  ·exact ht a ha
  ·exact h3 a ha b hb
 ·rw[cond_true]
  obtain⟨h,e⟩:=dL.1 hf
  unfold Up
  have hm:(l.set i w).map (·.Key)=l.map (·.Key):=by
   rw[List.map_set]
   apply List.ext_getElem (by simp)
   intro j h1 h2
   rw[List.getElem_set]
   split
   ·rename_i hij;subst hij;rw[List.getElem_map];exact e.symm
   ·rfl
  have h1:((l.set i w).map (·.Key)).Pairwise fun a b=>jJ a b=true:=by rw[hm];exact List.pairwise_map.2 hu
  exact List.pairwise_map.1 h1
theorem JP{l:List jA}(hu:Up l)(hl:l.length≤1000000)(w:jA):Up (YB l w)∧(∀y∈YB l w,y∈l∨y=w)∧(YB l w).length≤l.length+1:=by
 obtain⟨i,hp⟩:=JR hu oM w.Key
 refine⟨by rw[bP hu hl w hp];exact BZ hu hp,fun y hy=>by rw[bP hu hl w hp]at hy;exact LY hy,?_⟩
 rw[←fU hu hl w];exact PL l w
theorem sT{l:List jA}(hu:Up l)(k:uA){ρ:Type}{body:Nat→Unit→YI ρ Unit}(f:jA→ρ)(e:ρ){i:Nat}(hp:rU l k i)(hb:∀j,body j ()=bif(l.getD j xA).Key==k then .ret (f (l.getD j xA))else .cont ()) :
  rE (iB body (l.length-0) 0 ()) (fun r=>r) (fun _=>e)=bif aS l k i then f (l.getD i xA)else e:=by
 refine fF (fun j _=>∀q (h:q<l.length),q<j→l[q].Key≠k) (fun v=>v=bif aS l k i then f (l.getD i xA)else e) (fun q _ h=>absurd h (Nat.not_lt_zero _)) (fun s hs=>?_) (fun j s _ hj hs=>?_)
 ·have:aS l k i=false:=by
   rw[←Bool.not_eq_true,dL]
   rintro⟨h,h3⟩
   exact hs i h oM h3
  rw[this];rfl
 ·have hj':j<l.length:=by omega
  cases s
  rw[hb]
  cases hk:((l.getD j xA).Key==k)
  ·intro q h hq hqk
   rcases Nat.lt_or_ge q j with hlt | hge
   ·exact hs q h hlt hqk
   ·obtain rfl:q=j:=by omega
    rw[QF hj',hqk,beq_self_eq_true]at hk;cases hk
  ·rw[QF hj']at hk
   have e1:=hp.uniq (rU.fnd_at hu hj' (eq_of_beq hk))
   subst e1
   show f (l.getD i xA)=_
   rw[dL.2 ⟨hj',eq_of_beq hk⟩];rfl
theorem YV{buf:List jA}(hu:Up buf)(hl:buf.length≤1000000)(got:List AF)(k:uA):eF k buf got=qC buf got k:=by
 obtain⟨i,hp,e⟩:=iO hu oM k
 unfold eF qC
 rw[e,sT hu k (body:=QG buf got k) (fun w=>(w.Val,!w.Gone,true)) _ hp fun j=>rfl]
 cases hf:aS buf k i
 ·rfl
 ·rfl
theorem qY{rows:List jA}(hu:Up rows)(hl:rows.length≤1000000)(k:uA):vH rows k=HG rows k:=by
 obtain⟨i,hp,e⟩:=iO hu oM k
 unfold vH HG
 rw[e,sT hu k (body:=NH rows k) (fun w=>(⟨k,w.Val,true⟩:AF)) _ hp fun j=>rfl]
 cases hf:aS rows k i<;>rfl
def AK(l:List OH):Prop:=∀y∈l,y.Kind=2∨y.Kind=3∨y.Kind=6∨y.Kind=7
theorem bT{o:OH}(h:o.Kind=2∨o.Kind=3)(v:uA)(th:Bool):xE o v th=false:=by
 unfold xE
 rw[decide_eq_false (show ¬o.Kind=4 by omega),decide_eq_false (show ¬o.Kind=5 by omega),decide_eq_false (show ¬o.Kind=6 by omega),decide_eq_false (show ¬o.Kind=7 by omega)];rfl
theorem tY{o:OH}(h:o.Kind=6∨o.Kind=7)(v:uA)(th:Bool):UE o v th=!xE o v th:=by
 unfold UE xE
 rw[decide_eq_false (show ¬o.Kind=4 by omega),decide_eq_false (show ¬o.Kind=5 by omega)]
 rcases h with h | h
 ·rw[decide_eq_true h];rfl
 ·rw[decide_eq_false (show ¬o.Kind=6 by omega),decide_eq_true h]
  cases th
  ·rfl
  ·cases v==o.Val<;>rfl
theorem DP{ρ σ:Type}{b b':Nat→σ→YI ρ σ}(I:Nat→σ→Prop):∀(n k:Nat) (s:σ),I k s→(∀j s,k≤j→j<k+n→I j s→b j s=b' j s∧∀s',b j s=.cont s'→I (j+1) s')→iB b n k s=iB b' n k s
 | 0,_,_,_,_=>rfl
 | n+1,k,s,h0,h=>by
  obtain⟨h1,h2⟩:=h k s (Nat.le_refl _) oM h0
  simp only[iB]
  rw[←h1]
  cases hb:b k s with
  | ret r=>rfl
  | brk s=>rfl
  | cont s'=>exact DP I n (k+1) s' (h2 s' hb) fun j s h3 h4=>h j s oM oM
theorem tT{l:List OH}(hk:AK l)(hl:l.length≤1000)(got:List AF){j:Nat}(hj:j<l.length){x:List jA}(hu:Up x)(hx:x.length≤j) :
  TD l got j x=jD l got j x∧∀s',TD l got j x=.cont s'→(Up s'∧s'.length≤j+1)∧∀y∈s',y∈x∨(y.Key=(l.getD j MC).Key∧((y.Val=(l.getD j MC).Val∧y.Gone=false∧(l.getD j MC).Kind=2)∨(y.Val=[]∧y.Gone=true∧(l.getD j MC).Kind=3))):=by
 have hko:=hk _ (yG (d:=MC) hj)
 unfold TD jD
 dsimp only
 generalize l.getD j MC=o at *
 have hc:=YV hu oM got o.Key
 rw[hc]
 rcases hko with h2 | h3 | h67
 ·have hg:=bT (.inl h2) (qC x got o.Key).1 (qC x got o.Key).2.1
  have hp:=JP hu oM (⟨o.Key,o.Val,false⟩:jA)
  rw[decide_eq_true h2,hg,cond_true,fU hu oM]
  refine⟨by cases (qC x got o.Key).2.2<;>rfl,fun s' hs=>?_⟩
  cases hs
  refine⟨⟨hp.1,by omega⟩,fun y hy=>?_⟩
  rcases hp.2.1 y hy with h | rfl
  ·exact .inl h
  ·exact .inr ⟨rfl,.inl ⟨rfl,rfl,h2⟩⟩
 ·have hg:=bT (.inr h3) (qC x got o.Key).1 (qC x got o.Key).2.1
  have hp:=JP hu oM (⟨o.Key,[],true⟩:jA)
  rw[decide_eq_false (show ¬o.Kind=2 by omega),decide_eq_true h3,hg,cond_true,cond_false,fU hu oM]
  refine⟨by cases (qC x got o.Key).2.2<;>rfl,fun s' hs=>?_⟩
  cases hs
  refine⟨⟨hp.1,by omega⟩,fun y hy=>?_⟩
  rcases hp.2.1 y hy with h | rfl
  ·exact .inl h
  ·exact .inr ⟨rfl,.inr ⟨rfl,rfl,h3⟩⟩
 ·rw[decide_eq_false (show ¬o.Kind=2 by omega),decide_eq_false (show ¬o.Kind=3 by omega),decide_eq_false (show ¬o.Kind=4 by omega),tY h67]
  cases (qC x got o.Key).2.2
  ·exact⟨rfl,fun s' hs=>by cases hs⟩
  ·cases xE o (qC x got o.Key).1 (qC x got o.Key).2.1
   ·exact⟨rfl,fun s' hs=>by cases hs;exact⟨⟨hu,by omega⟩,fun y hy=>.inl hy⟩⟩
   ·exact⟨rfl,fun s' hs=>by cases hs⟩
theorem aX{l:List OH}(hk:AK l)(hl:l.length≤1000)(got:List AF):ID l got=XD l got:=by
 unfold ID XD
 have h:=DP (b:=TD l got) (b':=jD l got) (fun j (x:List jA)=>Up x∧x.length≤j) (l.length-0) 0 [] ⟨List.Pairwise.nil,Nat.le_refl _⟩ fun j s _ hj hI=>by
  obtain⟨h1,h2⟩:=tT hk hl got (j:=j) oM hI.1 hI.2
  exact⟨h1,fun s' hs=>(h2 s' hs).1⟩
 rw[h]
def aY(l:List OH)(x:List jA):Prop:=Up x∧x.length≤l.length∧∀y∈x,∃o∈l,y.Key=o.Key∧((y.Val=o.Val∧y.Gone=false∧o.Kind=2)∨(y.Val=[]∧y.Gone=true∧o.Kind=3))
theorem aY.nil(l:List OH):aY l []:=⟨List.Pairwise.nil,Nat.zero_le _,fun _ h=>by cases h⟩
theorem RY{l:List OH}(hk:AK l)(hl:l.length≤1000)(got:List AF):aY l (XD l got).2.2:=by
 rw[←aX hk hl got]
 unfold ID
 refine fF (fun j (x:List jA)=>Up x∧x.length≤j∧∀y∈x,∃o∈l,y.Key=o.Key∧((y.Val=o.Val∧y.Gone=false∧o.Kind=2)∨(y.Val=[]∧y.Gone=true∧o.Kind=3))) (fun(v:Int×uA×List jA)=>aY l v.2.2) ⟨List.Pairwise.nil,Nat.le_refl _,fun _ h=>by cases h⟩ (fun s hs=>⟨hs.1,by have:=hs.2.1;show s.length≤_;omega,hs.2.2⟩) (fun j s _ hj hI=>?_)
 have hj':j<l.length:=by omega
 obtain⟨_,h2⟩:=tT hk hl got hj' hI.1 hI.2.1
 have hr:∀r,TD l got j s=.ret r→r.2.2=[]:=fun r hr=>by
  unfold TD at hr
  dsimp only at hr
  revert hr
  cases decide ((l.getD j MC).Kind=2)
  ·cases decide ((l.getD j MC).Kind=3)
   ·cases (eF (l.getD j MC).Key s got).2.2
    ·intro h;cases h;rfl
    ·cases UE (l.getD j MC) ((eF (l.getD j MC).Key s got).1) ((eF (l.getD j MC).Key s got).2.1)
     ·intro h;cases h;rfl
     ·intro h;cases h
   ·intro h;cases h
  ·intro h;cases h
 have hbk:∀r,TD l got j s≠.brk r:=fun r hr=>by
  unfold TD at hr
  dsimp only at hr
  revert hr
  cases decide ((l.getD j MC).Kind=2)
  ·cases decide ((l.getD j MC).Kind=3)
   ·cases (eF (l.getD j MC).Key s got).2.2
    ·intro h;cases h
    ·cases UE (l.getD j MC) ((eF (l.getD j MC).Key s got).1) ((eF (l.getD j MC).Key s got).2.1)
     ·intro h;cases h
     ·intro h;cases h
   ·intro h;cases h
  ·intro h;cases h
 cases hb:TD l got j s with
 | ret r=>show aY l r.2.2;rw[hr r hb];exact aY.nil l
 | brk s'=>exact absurd hb (hbk s')
 | cont s'=>
  obtain⟨⟨a,b⟩,c⟩:=h2 s' hb
  refine⟨a,b,fun y hy=>?_⟩
  rcases c y hy with h | h
  ·exact hI.2.2 y h
  ·exact⟨_,yG (d:=MC) hj',h⟩
theorem bY{rows:List jA}(hu:Up rows)(hr:rows.length≤1000000){l:List OH}(hk:AK l)(hl:l.length≤1000):WF rows l=vC rows l:=by
 have hb:pH rows l=XG rows l:=by
  funext x
  unfold pH XG
  dsimp only
  rw[aX hk hl x,qY hu hr]
 unfold WF vC
 rw[hb]
theorem VP(rows:List jA){l:List OH}(hk:AK l)(hl:l.length≤1000):aY l (vC rows l).2.1:=by
 unfold vC
 refine TK (body:=XG rows l) (fun _=>True) (fun(x:List AF)=>(l.filter fun o=>!(x.any fun g=>g.Key==o.Key)).length) (fun(v:List AF×List jA×Bool)=>aY l v.2.1) ?_ _ _ trivial (Nat.lt_succ_self _)
 intro x _
 unfold XG
 dsimp only
 cases hd:decide ((XD l x).1=1)
 ·exact RY hk hl x
 ·exact⟨trivial,iR (rows:=rows) (of_decide_eq_true hd)⟩
theorem vP:∀(w rows:List jA),Up rows→rows.length+w.length≤1000000→Up (w.foldl YB rows)∧(∀y∈w.foldl YB rows,y∈rows∨y∈w)∧w.foldl EF rows=w.foldl YB rows
 | [],rows,h,_=>⟨h,fun y hy=>.inl hy,rfl⟩
 | x::w,rows,h,hl=>by
  rw[List.length_cons]at hl
  obtain⟨a,b,c⟩:=JP h oM x
  obtain⟨a2,b2,c2⟩:=vP w (YB rows x) a oM
  refine⟨a2,fun y hy=>?_,?_⟩
  ·rcases b2 y hy with h | h
   ·rcases b y h with h | h
    ·exact .inl h
    ·exact .inr (by rw[h];exact List.mem_cons_self ..)
   ·exact .inr (List.mem_cons_of_mem _ h)
  ·rw[List.foldl_cons,List.foldl_cons,fU h oM,c2]
theorem YS{T:Type}(f:List jA→jA→List jA){body:Nat→List jA→YI T (List jA)}(w rows:List jA)(hb:∀j x,body j x=.cont (f x (w.getD j xA))){U:Type}(fr:T→U)(fd:List jA→U):rE (iB body (w.length-0) 0 rows) fr fd=fd (w.foldl f rows):=by
 refine fF (fun k (p:List jA)=>p=(w.take k).foldl f rows) (fun v=>v=fd (w.foldl f rows)) rfl (fun s hs=>by rw[hs,List.take_of_length_le oM]) (fun j s _ hj hs=>?_)
 have hj':j<w.length:=by omega
 rw[hb]
 show f s (w.getD j xA)=_
 rw[List.take_succ_eq_append_getElem hj',List.foldl_append,←hs,←QF (d:=xA) hj'];rfl
theorem oK(rows w:List jA):CC rows w=(w.foldl YB rows).filter fun y=>!y.Gone:=by
 unfold CC
 rw[YS YB (body:=JI rows w) w _ fun j x=>rfl]
 rw[List.nil_append]
 generalize w.foldl YB rows=l
 refine fF (fun k (p:List jA)=>p=(l.take k).filter fun y=>!y.Gone) (fun(v:List jA)=>v=l.filter fun y=>!y.Gone) rfl (fun s h=>by rw[h,List.take_of_length_le oM]) ?_
 intro j s _ hj hs
 have hj':j<l.length:=by omega
 unfold uH
 dsimp only
 rw[List.take_succ_eq_append_getElem hj',List.filter_append,←hs,←QF (d:=xA) hj',List.filter_cons]
 cases (l.getD j xA).Gone<;>simp
theorem pW{rows w:List jA}(hu:Up rows)(hl:rows.length+w.length≤1000000):IH rows w=bif decide (24<((CC rows w).length:Int))then([],false)else(CC rows w,true):=by
 unfold IH
 rw[YS EF (body:=tJ rows w) w _ fun j x=>rfl]
 have hc:CB rows=rows:=rfl
 rw[hc,(vP w rows hu hl).2.2,oK];rfl
theorem EZ{l:List jA}(h:dD l=true):Up l:=by
 have h1:=TM (GI l▸h)
 rw[BL,Bool.and_eq_true,List.all_eq_true]at h1
 have h24:l.length≤24:=by have:=of_decide_eq_true h1.2;omega
 have step:∀i (hi:i+1<l.length),jJ l[i].Key l[i+1].Key=true:=fun i hi=>by
  have h3:=h1.1 (i+1) (List.mem_range.2 hi)
  rw[Bool.and_eq_true]at h3
  have h4:=h3.2
  unfold fL at h4
  rw[decide_eq_true oM,cond_true,RE oM,show(((i+1:Nat):Int)-1).toNat=i by omega,QF (by rw[List.length_map];omega),QF (by rw[List.length_map];exact hi),List.getElem_map,List.getElem_map]at h4
  exact h4
 have all:∀d i (hj:i+d+1<l.length),jJ l[i].Key l[i+d+1].Key=true:=by
  intro d
  induction d with
  | zero=>exact fun i hj=>step i hj
  | succ d ih=>exact fun i hj=>UL (ih i oM) (step (i+d+1) oM)
 refine List.pairwise_iff_getElem.2 fun i j hi hj hij=>?_
 obtain⟨d,rfl⟩:∃d,j=i+d+1:=⟨j-i-1,by omega⟩
 exact all d i hj
theorem rJ(l:List jA):dD l=true↔(∀y∈l,TE y.Key y.Val y.Gone=true)∧(∀y∈l,y.Gone=false)∧Up l∧l.length≤24:=by
 constructor
 ·intro h
  have hu:=EZ h
  rw[GI,kO,Bool.and_eq_true,BL,Bool.and_eq_true,List.all_eq_true,List.all_eq_true]at h
  refine⟨fun y hy=>?_,fun y hy=>by simpa using h.2 y hy,hu,by have:=of_decide_eq_true h.1.2;omega⟩
  obtain⟨j,hj,rfl⟩:=List.mem_iff_getElem.1 hy
  have h1:=h.1.1 j (List.mem_range.2 hj)
  rw[Bool.and_eq_true,QF hj]at h1
  exact h1.1
 ·rintro⟨h1,h2,hu,h4⟩
  rw[GI,kO,Bool.and_eq_true,BL,Bool.and_eq_true,List.all_eq_true,List.all_eq_true]
  refine⟨⟨fun j hj=>?_,decide_eq_true oM⟩,fun y hy=>by rw[h2 y hy];rfl⟩
  have hj:=List.mem_range.1 hj
  rw[Bool.and_eq_true,QF hj]
  refine⟨h1 _ (List.getElem_mem hj),?_⟩
  unfold fL
  by_cases h0:0<j
  ·rw[decide_eq_true oM,cond_true,RE oM,QF (by rw[List.length_map];omega),QF (by rw[List.length_map];exact hj),List.getElem_map,List.getElem_map]
   exact hu.lt _ _ oM
  ·rw[decide_eq_false oM];rfl
theorem OK{l:List OH}(h:JH l=true):(∀o∈l,FF o=true)∧l.length≤8:=by
 unfold JH at h
 rw[iS MC FF (r:=false) fun k=>by unfold qI;rfl]at h
 obtain⟨h1,h2⟩:=WD h
 exact⟨List.all_eq_true.1 h1,by have:=of_decide_eq_true h2;omega⟩
theorem TX{l:List OH}(hg:∀o∈l,FF o=true){x:List jA}(h:aY l x):∀y∈x,TE y.Key y.Val y.Gone=true:=fun y hy=>by
 obtain⟨o,ho,hk,h2⟩:=h.2.2 y hy
 have hg:=hg o ho
 unfold FF at hg
 obtain⟨g1,g2⟩:=WD hg
 unfold TE
 rw[hk,g1]
 rcases h2 with⟨hv,hn,h2⟩ | ⟨hv,hn,_⟩
 ·rw[decide_eq_true h2,cond_true]at g2
  rw[hv,hn,(WD g2).1];rfl
 ·rw[hv,hn];rfl
theorem dU{rows w:List jA}(hr:dD rows=true)(hw:∀y∈w,TE y.Key y.Val y.Gone=true)(hl:w.length≤1000):dD (CC rows w)=decide ((CC rows w).length≤24):=by
 obtain⟨h1,h2,h3,h4⟩:=(rJ rows).1 hr
 obtain⟨a,b,_⟩:=vP w rows h3 oM
 by_cases hlen:(CC rows w).length≤24
 ·rw[decide_eq_true hlen,rJ]
  rw[oK]at hlen ⊢
  refine⟨fun y hy=>?_,fun y hy=>?_,List.Pairwise.filter _ a,hlen⟩
  ·rcases b y (List.mem_filter.1 hy).1 with h | h
   ·exact h1 y h
   ·exact hw y h
  ·simpa using(List.mem_filter.1 hy).2
 ·rw[decide_eq_false hlen,←Bool.not_eq_true,rJ]
  exact fun h=>hlen h.2.2.2
theorem rT{rows:List jA}{l:List OH}(hr:dD rows=true)(hg:JH l=true)(hk:AK l):oG rows l=xD rows l∧dD (xD rows l).1=true:=by
 obtain⟨h1,h2,h3,h4⟩:=(rJ rows).1 hr
 obtain⟨g1,g2⟩:=OK hg
 have hw:=VP rows hk oM
 have hx:=TX g1 hw
 have hgood:=dU hr hx (by have:=hw.2.1;omega)
 have hput:=pW (w:=(vC rows l).2.1) h3 (by have:=hw.2.1;omega)
 have hrun:=WQ hr hg (show vC rows l=((vC rows l).1,(vC rows l).2.1,(vC rows l).2.2)from rfl)
 unfold oG xD
 rw[bY h3 oM hk oM,hput,hrun,hgood]
 by_cases hlen:(CC rows (vC rows l).2.1).length≤24
 ·rw[decide_eq_false (show ¬(24:Int)<_ by omega)]
  rw[decide_eq_true hlen]at hgood ⊢
  cases (vC rows l).2.2
  ·exact⟨rfl,hr⟩
  ·exact⟨rfl,hgood⟩
 ·rw[decide_eq_true (show(24:Int)<_ by omega),decide_eq_false hlen]
  cases (vC rows l).2.2<;>exact⟨rfl,hr⟩
def Jb(y:OH):Prop:=FF y=true∧(y.Kind=2∨y.Kind=3∨y.Kind=6∨y.Kind=7)
theorem yZ{l:List OH}(h:JH l=true):xF JL l:=by
 obtain⟨h1,h2⟩:=OK h
 refine DB oM fun y hy=>?_
 have hg:=h1 y hy
 unfold FF at hg
 obtain⟨g1,g2⟩:=WD hg
 have hk:=iQ g1
 have hv:y.Val.length≤24:=by
  have e0:∀{c:Bool},(bif y.Val==([]:uA)then c else false)=true→y.Val.length≤24:=fun h=>by rw[eq_of_beq (WD h).1];exact Nat.zero_le _
  revert g2
  cases decide (y.Kind=2)
  ·cases decide (y.Kind=7)
   ·cases decide (y.Kind=4)
    ·cases decide (y.Kind=5)
     ·cases decide (y.Kind=1)
      ·cases decide (y.Kind=3)
       ·intro g2;first | exact e0 g2 | exact e0 (WD g2).2 | exact e0 (WD g2).1 | (revert g2;cases decide (y.Kind=6)<;>intro g2<;>first | exact e0 g2 | cases g2)
       ·exact e0
      ·exact e0
     ·exact e0
    ·exact e0
   ·exact fun g2=>jQ (WD g2).1
  ·exact fun g2=>jQ (WD g2).1
 exact⟨by show _≤_;omega,by show _≤_;omega⟩
theorem fK{t:dB}{n:uA}{st:List jA}{f:dE}{m:Int}(h:dF t n st f m=true):cE t n=true∧UG st=true∧DH f=true∧OD m 1 24=true:=by
 unfold dF CF at h
 obtain⟨h1,h2⟩:=WD h
 obtain⟨h3,h4⟩:=WD h1
 obtain⟨h5,h6⟩:=WD h2
 exact⟨h3,h4,h5,h6⟩
theorem nT{t:dB}{n:uA}{st:List jA}{f:dE}{m:Int}(h:dF t n st f m=true):st.length≤100:=by
 have:=xJ (fK h).2.1;omega
theorem ZM{α β:Type}(d:α)(f:α→β)(l:List α){body:Nat→List β→YI (List β) (List β)}(hb:∀k x,body k x=.cont (x++[f (l.getD k d)])):rE (iB body (l.length-0) 0 []) (fun r=>r) (fun x=>x)=l.map f:=by
 refine fF (fun k (x:List β)=>x=(l.take k).map f) (fun v=>v=l.map f) rfl (fun s hs=>by rw[hs,List.take_of_length_le oM]) (fun j s _ hj hs=>?_)
 have hj':j<l.length:=by omega
 rw[hb]
 show s++[f (l.getD j d)]=_
 rw[List.take_succ_eq_append_getElem hj',List.map_append,←hs,←QF (d:=d) hj'];rfl
theorem RK(t:dB)(n:uA)(st:List jA):JB t n st=(mB t st).map fun r=>⟨(vB t r).Key,SB t n r⟩:=by
 unfold JB
 exact ZM DD (fun r=>(⟨(vB t r).Key,SB t n r⟩:DE)) _ fun k x=>rfl
theorem bM(t:dB)(n:uA)(st:List jA):UB t n st=(TB t n st).map fun k=>⟨k,[⟨3,k,[],0⟩]⟩:=by
 unfold UB
 exact ZM IB (fun k=>(⟨k,[⟨3,k,[],0⟩]⟩:DE)) _ fun k x=>rfl
def UP(y:DE):Prop:=nF y.key=true∧JH y.ops=true∧AK y.ops
theorem BV{l:List OH}(h:∀y∈l,Jb y)(hl:l.length≤8):JH l=true∧AK l:=⟨pY _ (List.all_eq_true.2 fun y hy=>(h y hy).1) hl,fun y hy=>(h y hy).2⟩
theorem OR{t:dB}(hg:LC t=true){r:mD}(h:jF t r=true):WH t r=true:=by
 rw[aR]
 unfold VM
 rw[hg,h];rfl
theorem fQ{t:dB}{n:uA}(hi:cE t n=true){r:mD}(h:WH t r=true):UP ⟨(vB t r).Key,SB t n r⟩:=by
 obtain⟨h1,h2,h3⟩:=JX h hi
 refine⟨h1,BV (fun y hy=>?_) (nb rfl)⟩
 unfold SB at hy
 rcases List.mem_cons.1 hy with rfl | hy
 ·exact⟨Za h1 h2,.inr (.inr (.inr rfl))⟩
 ·rw[List.mem_singleton.1 hy];exact⟨Ha h3 GZ,.inl rfl⟩
theorem PO{k:uA}(h:nF k=true):UP ⟨k,[⟨3,k,[],0⟩]⟩:=
 ⟨h,BV (fun y hy=>by rw[List.mem_singleton.1 hy];exact⟨zZ h,.inr (.inl rfl)⟩) (nb rfl)⟩
theorem bV{t:dB}{n:uA}(hi:cE t n=true)(st:List jA):∀y∈JB t n st,UP y:=fun y hy=>by
 rw[RK]at hy
 obtain⟨r,hr,rfl⟩:=List.mem_map.1 hy
 have hg:=zG hi
 exact fQ hi (OR hg (pN hg hr))
theorem UU{t:dB}{n:uA}{st:List jA}{k:uA}(h:k∈TB t n st):∃w∈st,w.Key=k:=by
 unfold TB at h
 revert h
 refine fF (fun _ (x:List uA)=>∀y∈x,∃w∈st,w.Key=y) (fun(v:List uA)=>k∈v→∃w∈st,w.Key=k) (fun y hy=>by cases hy) (fun s hs h=>hs k h) (fun j s _ hj hs=>?_)
 have hj':j<st.length:=by omega
 unfold CE
 dsimp only
 cases (TC t n (st.getD j xA).Key).2.2
 ·exact hs
 ·intro y hy
  rcases List.mem_append.1 hy with hy | hy
  ·exact hs y hy
  ·rw[List.mem_singleton.1 hy];exact⟨_,yG hj',rfl⟩
theorem eQ{t:dB}{n:uA}{st:List jA}(h:UG st=true):∀y∈UB t n st,UP y:=fun y hy=>by
 rw[bM]at hy
 obtain⟨k,hk,rfl⟩:=List.mem_map.1 hy
 obtain⟨w,hw,rfl⟩:=UU hk
 have h1:=((rJ st).1 (by rw[GI];exact h)).1 w hw
 refine PO ?_
 unfold TE at h1
 exact(WD h1).1
theorem vT{l:List DE}(h:∀y∈l,UP y):∀y∈l,y.ops.length≤100∧∀o∈y.ops,o.Kind≠4:=fun y hy=>by
 obtain⟨_,h2,h3⟩:=h y hy
 exact⟨by have:=(OK h2).2;omega,fun o ho=>by have:=h3 o ho;omega⟩
theorem SY{l:List DE}(h:∀y∈l,UP y)(hl:l.length≤24):xF BJ l:=DB oM fun y hy=>by
 obtain⟨h1,h2,_⟩:=h y hy
 exact⟨by have:=iQ h1;show _≤_;omega,yZ h2⟩
theorem rX{t:dB}{n:uA}{st:List jA}{f:dE}{m:Int}(h:dF t n st f m=true):∀y∈JB t n st,y.ops.length≤100∧∀o∈y.ops,o.Kind≠4:=vT (bV (fK h).1 st)
theorem XV{t:dB}{n:uA}{st:List jA}{f:dE}{m:Int}(h:dF t n st f m=true):∀y∈UB t n st,y.ops.length≤100∧∀o∈y.ops,o.Kind≠4:=vT (eQ (fK h).2.1)
theorem GY{t:dB}{n:uA}{st:List jA}{f:dE}{m:Int}(h:dF t n st f m=true):xF BJ (JB t n st):=SY (bV (fK h).1 st) (by
 have h1:=iM (fK h).1 st
 have h2:=xJ (fK h).2.1
 rw[RK,List.length_map];omega)
theorem AS(t:dB)(x:MG)(r:mD):∀y∈bH t x r,y.Kind≠4:=fun y hy=>by
 unfold bH at hy
 rcases List.mem_cons.1 hy with rfl | hy
 ·exact(show(7:Int)≠4 by decide)
 ·rw[List.mem_singleton.1 hy];exact(show(2:Int)≠4 by decide)
theorem jW(k:uA):∀y∈([⟨3,k,[],0⟩]:List OH),y.Kind≠4:=fun y hy=>by rw[List.mem_singleton.1 hy];exact(show(3:Int)≠4 by decide)
theorem xZ{a b c:Int}(h:decide (a<min b c)=true):a<b∧a<c:=Int.lt_min.1 (of_decide_eq_true h)
theorem UY(s:List jA)(o:List (List OH)):(YC s o).1.length≤s.length∨(YC s o).1.length≤24:=by
 unfold YC
 cases dD s
 ·exact .inr (Nat.zero_le _)
 ·cases decide (20<(o.length:Int))
  ·refine fF (fun _ (_:Unit)=>True) (fun(v:List jA×List Bool×Bool)=>v.1.length≤s.length∨v.1.length≤24) trivial (fun _ _=>?_) (fun j _ _ _ _=>?_)
   ·refine fF (fun _ (x:List jA×List Bool)=>x.1.length≤s.length∨x.1.length≤24) (fun(v:List jA×List Bool×Bool)=>v.1.length≤s.length∨v.1.length≤24) (.inl (Nat.le_refl _)) (fun _ h=>h) (fun j x _ _ h=>?_)
    obtain⟨x,y⟩:=x
    unfold zF
    dsimp only
    cases (vC x (o.getD j FI)).2.2
    ·exact h
    ·cases hr:dD (CC x (vC x (o.getD j FI)).2.1)
     ·exact h
     ·exact .inr (ZO hr)
   ·unfold LF
    cases JH (o.getD j FI)
    ·exact .inr (Nat.zero_le _)
    ·trivial
  ·exact .inr (Nat.zero_le _)
theorem fT(s:List jA)(o:List OH):(xD s o).1.length≤s.length∨(xD s o).1.length≤24:=by
 have h:=UY s [o]
 unfold xD
 cases decide ((((YC s [o]).2.1).length:Int)=1)<;>exact h
theorem MS{t:dB}{n:uA}{l:List jA}(h:iF t n l=true):l.length≤24:=by
 unfold iF at h
 have h1:=(WD (WD h).2).2
 rw[GI]at h1
 exact xJ h1
theorem rZ(l:List DE)(f:DE→Bool):(bB (BB l) f).length≤l.length:=List.length_filter_le _ _
theorem OT(t:dB)(n:uA)(l:List jA):(TB t n l).length≤l.length:=by
 unfold TB
 refine fF (fun k (x:List uA)=>x.length≤k) (fun(v:List uA)=>v.length≤l.length) (Nat.le_refl _) (fun s hs=>by omega) (fun j s _ _ hs=>?_)
 unfold CE
 dsimp only
 cases (TC t n (l.getD j xA).Key).2.2
 ·show s.length≤j+1;omega
 ·show(s++_).length≤j+1
  rw[List.length_append]
  show s.length+1≤j+1
  omega
theorem cU{st:List jA}(hu:Up st)(hg:∀y∈st,y.Gone=false)(hl:st.length≤1000)(k:uA):CC st [⟨k,[],true⟩]=st.filter fun y=>!(y.Key==k):=by
 rw[oK]
 show(YB st ⟨k,[],true⟩).filter _=_
 obtain⟨i,hp⟩:=JR hu oM k
 rw[bP hu oM ⟨k,[],true⟩ hp]
 unfold mN
 have hne:∀j (h:j<st.length),j≠i→(!(st[j].Key==k))=true:=fun j h hj=>by
  cases hb:(st[j].Key==k)
  ·rfl
  ·exact absurd (hp.uniq (rU.fnd_at hu h (eq_of_beq hb))).symm hj
 have hgt:∀y∈st.take i,(fun y:jA=>!y.Gone) y=true:=fun y hy=>by simp[hg y (List.mem_of_mem_take hy)]
 have hkt:∀y∈st.take i,(fun y:jA=>!(y.Key==k)) y=true:=fun y hy=>by
  obtain⟨j,hj,rfl⟩:=List.mem_iff_getElem.1 hy
  rw[List.length_take]at hj
  rw[List.getElem_take]
  exact hne j oM oM
 cases hf:aS st k i
 ·rw[cond_false,List.filter_append,List.filter_cons]
  have hkd:∀y∈st.drop i,(fun y:jA=>!(y.Key==k)) y=true:=fun y hy=>by
   obtain⟨j,hj,rfl⟩:=List.mem_iff_getElem.1 hy
   rw[List.length_drop]at hj
   rw[List.getElem_drop]
   by_cases h0:j=0
   ·subst h0
    have hil:i<st.length:=by omega
    show(!(st[i+0].Key==k))=true
    cases hb:(st[i+0].Key==k)
    ·rfl
    ·rw[dL.2 ⟨hil,eq_of_beq hb⟩]at hf;cases hf
   ·exact hne (i+j) oM oM
  have hgd:∀y∈st.drop i,(fun y:jA=>!y.Gone) y=true:=fun y hy=>by simp[hg y (List.mem_of_mem_drop hy)]
  show(st.take i).filter _++(st.drop i).filter _=_
  rw[List.filter_eq_self.2 hgt,List.filter_eq_self.2 hgd,List.take_append_drop]
  refine(List.filter_eq_self.2 fun y hy=>?_).symm
  rw[←List.take_append_drop i st]at hy
  rcases List.mem_append.1 hy with hy | hy
  ·exact hkt y hy
  ·exact hkd y hy
 ·rw[cond_true]
  obtain⟨h,e⟩:=dL.1 hf
  have hs:st.set i ⟨k,[],true⟩=st.take i++(⟨k,[],true⟩:jA)::st.drop (i+1):=List.set_eq_take_append_cons_drop▸(if_pos h)
  have ht:st=st.take i++st[i]::st.drop (i+1):=by rw[←List.drop_eq_getElem_cons h,List.take_append_drop]
  have hgd:∀y∈st.drop (i+1),(fun y:jA=>!y.Gone) y=true:=fun y hy=>by simp[hg y (List.mem_of_mem_drop hy)]
  have hkd:∀y∈st.drop (i+1),(fun y:jA=>!(y.Key==k)) y=true:=fun y hy=>by
   obtain⟨j,hj,rfl⟩:=List.mem_iff_getElem.1 hy
   rw[List.length_drop]at hj
   rw[List.getElem_drop]
   exact hne (i+1+j) oM oM
  rw[hs,List.filter_append,List.filter_cons,List.filter_eq_self.2 hgt]
  show st.take i++(st.drop (i+1)).filter _=_
  rw[List.filter_eq_self.2 hgd]
  conv=>rhs;rw[ht]
  rw[List.filter_append,List.filter_cons,List.filter_eq_self.2 hkt,List.filter_eq_self.2 hkd]
  have:(!(st[i].Key==k))=false:=by rw[e,beq_self_eq_true];rfl
  rw[this];rfl
def xL(st:List jA)(k:uA):List jA:=st.filter fun y=>!(y.Key==k)
theorem sP{st:List jA}{k:uA}(hr:dD st=true)(hk:nF k=true):xD st [⟨3,k,[],0⟩]=(xL st k,true)∧dD (xL st k)=true:=by
 obtain⟨h1,h2,hu,h4⟩:=(rJ st).1 hr
 have hgood:dD (xL st k)=true:=(rJ _).2 ⟨fun y hy=>h1 y (List.mem_filter.1 hy).1,fun y hy=>h2 y (List.mem_filter.1 hy).1,List.Pairwise.filter _ hu,Nat.le_trans (List.length_filter_le _ _) h4⟩
 have e1:CC st [⟨k,[],true⟩]=xL st k:=cU hu h2 oM k
 have hrun:=WQ hr (PO hk).2.1 (OV st k)
 rw[e1,hgood]at hrun
 refine⟨?_,hgood⟩
 unfold xD
 rw[hrun];rfl
theorem pX{st:List jA}{k:uA}(hr:dD st=true)(hk:nF k=true):oG st [⟨3,k,[],0⟩]=(xL st k,true):=by
 obtain⟨_,h2,h3⟩:=PO hk
 rw[(rT hr h2 h3).1,(sP hr hk).1]
def gZ(t:dB)(n k:uA):Bool:=(eE t n k).2.2
theorem bL(t:dB)(n:uA)(l:List jA):lB t n l=(l.map (·.Key)).filter (gZ t n):=by
 unfold lB
 refine fF (fun k (x:List uA)=>x=((l.take k).map (·.Key)).filter (gZ t n)) (fun v=>v=(l.map (·.Key)).filter (gZ t n)) rfl (fun s hs=>by rw[hs,List.take_of_length_le oM]) (fun j s _ hj hs=>?_)
 have hj':j<l.length:=by omega
 unfold aG
 dsimp only
 rw[List.take_succ_eq_append_getElem hj',List.map_append,List.filter_append,←hs,←QF (d:=xA) hj',List.map_cons,List.map_nil,List.filter_cons]
 show YI.sat _ _ _ (bif gZ t n (l.getD j xA).Key then _ else _)
 cases gZ t n (l.getD j xA).Key
 ·show s=_;simp
 ·rfl
theorem TU(t:dB)(n:uA)(st:List jA)(k:uA):lB t n (xL st k)=(lB t n st).filter fun y=>!(y==k):=by
 rw[bL,bL]
 unfold xL
 rw[show(st.filter fun y=>!(y.Key==k)).map (·.Key)=(st.map (·.Key)).filter fun y=>!(y==k)by rw[List.filter_map];rfl]
 rw[List.filter_filter,List.filter_filter]
 congr 1
 funext y
 exact Bool.and_comm _ _
def VZ(l:List uA):Prop:=l.Pairwise fun a b=>jJ a b=true
theorem ZV{t:dB}{n:uA}{st:List jA}(h:Up st):VZ (lB t n st):=by
 rw[bL]
 exact List.Pairwise.filter _ (List.pairwise_map.2 h)
theorem PY{a b c:uA}(h1:XH a b=true)(h2:XH b c=true):XH a c=true:=by
 rw[qN]at *
 cases h:jJ c a
 ·rfl
 ·cases hb:jJ b a
  ·cases hc:jJ c b
   ·have e1:a=b:=by
     cases hab:jJ a b
     ·exact YW hab hb
     ·rw[UL h hab]at hc;cases hc
    rw[e1]at h;rw[h]at hc;cases hc
   ·rw[hc]at h2;cases h2
  ·rw[hb]at h1;cases h1
theorem qQ{a b:uA}(h:jJ a b=true):XH a b=true:=by unfold XH;rw[h];rfl
theorem FP{a b:uA}(h:XH a b=false):jJ b a=true:=by
 rw[qN]at h
 simpa using h
theorem oO{a b:uA}(h:jJ b a=true):XH a b=false:=by rw[qN,h];rfl
def oX:List uA→Int→List jA→uA→Int×List jA×uA
 | [],c,x,z=>(c,x,z)
 | k::l,c,x,z=>bif decide (c=0)then oX l c x z else bif XH k z then oX l c x z else oX l (IntKind.wrap .i64 (c-1)) (xD x [⟨3,k,[],0⟩]).1 k
theorem nX(t:dB)(n:uA)(st:List jA)(f:dE)(m:Int):kF t n st f m=((oX (lB t n st) m st f.Last).2.1,⟨(oX (lB t n st) m st f.Last).2.2,f.Over||!(oF (lB t n (oX (lB t n st) m st f.Last).2.1) (oX (lB t n st) m st f.Last).2.2)⟩):=by
 unfold kF
 generalize hR:oX (lB t n st) m st f.Last=R
 refine fF (fun j (s:Int×List jA×uA)=>oX ((lB t n st).drop j) s.1 s.2.1 s.2.2=R) (fun(v:List jA×dE)=>v=_) hR (fun s hs=>?_) (fun j s _ hj hs=>?_)
 ·rw[List.drop_of_length_le oM]at hs
  rw[←hs]
  cases f.Over<;>rfl
 ·have hj':j<(lB t n st).length:=by omega
  rw[List.drop_eq_getElem_cons hj',←QF (d:=IB) hj']at hs
  obtain⟨c,x,z⟩:=s
  unfold oX at hs
  unfold PG
  dsimp only at hs ⊢
  cases h1:decide (c=0)
  ·rw[h1,cond_false]at hs
   cases h2:XH ((lB t n st).getD j IB) z
   ·rw[h2,cond_false]at hs;exact hs
   ·rw[h2,cond_true]at hs;exact hs
  ·rw[h1,cond_true]at hs;exact hs
theorem yR{l:List uA}{k z:uA}(h:∀y∈l,jJ k y=true)(hk:XH k z=false∨k=z):(l.filter fun y=>!(XH y z))=l:=List.filter_eq_self.2 fun y hy=>by
 have h1:=h y hy
 have:jJ z y=true:=by
  rcases hk with hk | rfl
  ·exact UL (FP hk) h1
  ·exact h1
 rw[oO this];rfl
theorem pP:∀(E:List uA),VZ E→(∀k∈E,nF k=true)→∀(b:Nat) (x:List jA) (z:uA),b≤24→dD x=true →
  oX E b x z=(((b-(E.filter fun y=>!(XH y z)).length:Nat):Int),((E.filter fun y=>!(XH y z)).take b).foldl xL x,((E.filter fun y=>!(XH y z)).take b).getLastD z)
 | [],_,_,b,x,z,_,_=>by unfold oX;simp
 | k::l,hu,hk,b,x,z,hb,hr=>by
  obtain⟨hu1,hu2⟩:=List.pairwise_cons.1 hu
  have hk2:∀y∈l,nF y=true:=fun y hy=>hk y (List.mem_cons_of_mem _ hy)
  unfold oX
  cases b with
  | zero=>
   rw[show decide (((0:Nat):Int)=0)=true from rfl,cond_true,pP l hu2 hk2 0 x z hb hr]
   simp
  | succ b=>
   rw[show decide (((b+1:Nat):Int)=0)=false from decide_eq_false oM,cond_false]
   cases hz:XH k z
   ·have hw:IntKind.wrap .i64 (((b+1:Nat):Int)-1)=(b:Int):=by rw[RE oM];omega
    have hd:=sP hr (hk k (List.mem_cons_self ..))
    rw[cond_false,hw,hd.1,pP l hu2 hk2 b (xL x k) k oM hd.2]
    have e1:=yR (z:=k) hu1 (.inr rfl)
    have e2:=yR (z:=z) hu1 (.inl hz)
    rw[e1,List.filter_cons,hz,e2]
    show _=(((b+1-(k::l).length:Nat):Int),((k::l).take (b+1)).foldl xL x,((k::l).take (b+1)).getLastD z)
    rw[List.take_succ_cons,List.foldl_cons,List.length_cons,show b+1-(l.length+1)=b-l.length by omega,List.getLastD_cons]
   ·rw[cond_true,pP l hu2 hk2 (b+1) x z hb hr,List.filter_cons,hz]
    rfl
def KL(k:uA):DE:=⟨k,[⟨3,k,[],0⟩]⟩
theorem IX(E:List uA)(z:uA):((E.map KL).filter fun y=>!(XH y.key z))=(E.filter fun k=>!(XH k z)).map KL:=by
 rw[List.filter_map];rfl
theorem LQ{E:List uA}(hk:∀k∈E,nF k=true){st:List jA}(hr:dD st=true)(f:dE)(b:Nat)(hl:E.length≤1000) :
  rC (E.map KL) st f b=(((E.filter fun y=>!(XH y f.Last)).take b).foldl xL st,⟨((E.filter fun y=>!(XH y f.Last)).take b).getLastD f.Last,f.Over||decide ((E.filter fun y=>!(XH y f.Last)).length≤b)⟩):=by
 have hrest:bB (BB (E.map KL)) (fun y0=>rD y0 f)=(E.filter fun y=>!(XH y f.Last)).map KL:=IX E f.Last
 have hB:∀s,uG (E.map KL) st f b s=uG (E.map KL) st f b s:=fun _=>rfl
 generalize hF:(E.filter fun y=>!(XH y f.Last))=F at *
 have hkF:∀k∈F,nF k=true:=fun k h=>by rw[←hF]at h;exact hk k (List.mem_filter.1 h).1
 have hlF:F.length≤1000:=by rw[←hF];exact Nat.le_trans (List.length_filter_le _ _) hl
 unfold rC
 rw[hrest]
 refine TK (body:=uG (E.map KL) st f b) (fun(s:List jA×Int×uA)=>∃j:Nat,s.2.1=j∧j≤min b F.length∧s.1=(F.take j).foldl xL st∧s.2.2=(F.take j).getLastD f.Last∧dD s.1=true) (fun s=>((F.length:Int)-s.2.1).toNat) (fun(v:List jA×dE)=>v=((F.take b).foldl xL st,⟨(F.take b).getLastD f.Last,f.Over||decide (F.length≤b)⟩)) ?_ _ _ ⟨0,rfl,Nat.zero_le _,rfl,rfl,hr⟩ (by rw[List.length_map];show((F.length:Int)-0).toNat<_;omega)
 rintro⟨x,c,z⟩ ⟨j,hc,hj,hx,hz,hrx⟩
 dsimp only at hc hx hz hrx
 subst hc
 unfold uG
 dsimp only
 rw[hrest,List.length_map]
 by_cases hlt:j<min b F.length
 ·have hjF:j<F.length:=by omega
  rw[decide_eq_true (show(j:Int)<min (b:Int) (F.length:Int)by omega),cond_true,Int.toNat_natCast]
  have hg:(F.map KL).getD j zI=KL F[j]:=by rw[QF (by rw[List.length_map];exact hjF),List.getElem_map]
  rw[hg]
  have hkj:=hkF F[j] (List.getElem_mem hjF)
  have hrun:=pX hrx hkj
  have hd:=sP hrx hkj
  show YI.sat _ _ _ (bif(oG x [⟨3,F[j],[],0⟩]).2 then _ else _)
  rw[show(KL F[j]).ops=[⟨3,F[j],[],0⟩]from rfl,hrun,cond_true]
  have hw:IntKind.wrap .i64 ((j:Int)+1)=((j+1:Nat):Int):=by rw[RE oM];rfl
  refine⟨⟨j+1,hw,oM,?_,?_,hd.2⟩,?_⟩
  ·show xL x F[j]=_
   rw[List.take_succ_eq_append_getElem hjF,List.foldl_append,←hx];rfl
  ·show F[j]=_
   rw[List.take_succ_eq_append_getElem hjF,List.getLastD_concat]
  ·show((F.length:Int)-IntKind.wrap .i64 ((j:Int)+1)).toNat<((F.length:Int)-(j:Int)).toNat
   rw[hw];omega
 ·have he:j=min b F.length:=by omega
  rw[decide_eq_false (show ¬(j:Int)<min (b:Int) (F.length:Int)by omega),cond_false]
  have ht:F.take j=F.take b:=by
   by_cases hb:b≤F.length
   ·rw[show j=b by omega]
   ·rw[show j=F.length by omega,List.take_length,List.take_of_length_le oM]
  show(bif f.Over then _ else _)=_
  rw[hx,hz,ht]
  have hd:decide ((j:Int)=(F.length:Int))=decide (F.length≤b):=by
   rw[Bool.eq_iff_iff,decide_eq_true_eq,decide_eq_true_eq];omega
  cases f.Over
  ·show(_,(⟨_,decide ((j:Int)=(F.length:Int))⟩:dE))=_
   rw[hd];rfl
  ·rfl
theorem sV(l:List uA)(z:uA):oF l z=l.any fun y=>!(XH y z):=by
 unfold oF
 refine fF (fun k (_:Unit)=>∀j (h:j<l.length),j<k→XH l[j] z=true) (fun v=>v=l.any fun y=>!(XH y z)) (fun j _ h=>absurd h (Nat.not_lt_zero _)) (fun _ hs=>?_) (fun j u _ hj hs=>?_)
 ·refine(Bool.eq_false_iff.2 fun h=>?_).symm
  obtain⟨y,hy,h2⟩:=List.any_eq_true.1 h
  obtain⟨i,hi,rfl⟩:=List.mem_iff_getElem.1 hy
  rw[hs i hi oM]at h2;cases h2
 ·have hj':j<l.length:=by omega
  cases u
  unfold MH
  cases h:XH (l.getD j IB) z
  ·refine(List.any_eq_true.2 ⟨l.getD j IB,yG hj',?_⟩).symm
   rw[h];rfl
  ·intro i hi hij
   rcases Nat.lt_or_ge i j with hlt | hge
   ·exact hs i hi hlt
   ·obtain rfl:i=j:=by omega
    rw[←QF (d:=IB) hi];exact h
theorem BO(t:dB)(n:uA):∀(D:List uA) (st:List jA),∀y,y∈lB t n (D.foldl xL st)↔y∈lB t n st∧y∉D
 | [],st,y=>by simp
 | k::D,st,y=>by
  rw[List.foldl_cons,BO t n D (xL st k) y,TU,List.mem_filter]
  constructor
  ·rintro⟨⟨h1,h2⟩,h3⟩
   refine⟨h1,fun h=>?_⟩
   rcases List.mem_cons.1 h with rfl | h
   ·rw[beq_self_eq_true]at h2;cases h2
   ·exact h3 h
  ·rintro⟨h1,h2⟩
   refine⟨⟨h1,?_⟩,fun h=>h2 (List.mem_cons_of_mem _ h)⟩
   cases hb:(y==k)
   ·rfl
   ·exact absurd (eq_of_beq hb▸List.mem_cons_self ..) h2
theorem AX{E L:List uA}(hu:VZ E){z:uA}{b:Nat}(hb:1≤b)(hL:∀y,y∈L↔y∈E∧y∉(E.filter fun y=>!(XH y z)).take b) :
  oF L (((E.filter fun y=>!(XH y z)).take b).getLastD z)=!decide ((E.filter fun y=>!(XH y z)).length≤b):=by
 have hF:∀y,y∈(E.filter fun y=>!(XH y z))↔y∈E∧XH y z=false:=fun y=>by rw[List.mem_filter];simp
 have huF:VZ (E.filter fun y=>!(XH y z)):=List.Pairwise.filter _ hu
 generalize (E.filter fun y=>!(XH y z))=F at *
 rw[sV]
 by_cases hlen:F.length≤b
 ·rw[decide_eq_true hlen,List.take_of_length_le hlen]at *
  refine Bool.eq_false_iff.2 fun h=>?_
  obtain⟨y,hy,h2⟩:=List.any_eq_true.1 h
  obtain⟨hyE,hyF⟩:=(hL y).1 hy
  have hyz:XH y z=true:=by
   cases h3:XH y z
   ·exact absurd ((hF y).2 ⟨hyE,h3⟩) hyF
   ·rfl
  have:XH y (F.getLastD z)=true:=by
   cases hl:F.getLast? with
   | none=>rw[List.getLastD_eq_getLast?,hl];exact hyz
   | some q=>
    rw[List.getLastD_eq_getLast?,hl]
    have hq:=(hF q).1 (List.mem_of_getLast? hl)
    exact PY hyz (qQ (FP hq.2))
  rw[this]at h2;cases h2
 ·rw[decide_eq_false hlen]
  refine List.any_eq_true.2 ⟨F[b]'oM,?_,?_⟩
  ·refine(hL _).2 ⟨((hF _).1 (List.getElem_mem _)).1,fun h=>?_⟩
   obtain⟨j,hj,e⟩:=List.mem_iff_getElem.1 h
   rw[List.length_take]at hj
   rw[List.getElem_take]at e
   have:=List.pairwise_iff_getElem.1 huF j b oM oM oM
   rw[e]at this;exact rL _ this
  ·obtain⟨c,rfl⟩:∃c,b=c+1:=⟨b-1,by omega⟩
   rw[List.take_succ_eq_append_getElem oM,List.getLastD_concat,oO (List.pairwise_iff_getElem.1 huF c (c+1) oM oM oM)];rfl
theorem XK{m:Int}(h:OD m 1 24=true):1≤m∧m≤24:=by
 unfold OD at h
 first | exact⟨of_decide_eq_true (WD h).1,of_decide_eq_true (WD h).2⟩ | simpa using h
theorem bS(t:dB)(n:uA)(st:List jA)(f:dE)(m:Int):aB t n st f m=HB t n st f m:=by
 have hcond:(bif iF t n st then bif pG f then XI m else false else false)=dF t n st f m:=by
  have h1:iF t n st=CF t n st:=by
   unfold CF iF cE
   rw[NG,PJ,←GI]
   cases LC t<;>rfl
  have h3:XI m=OD m 1 24:=rfl
  unfold dF
  rw[h1,zN,h3]
 unfold aB HB
 cases h:dF t n st f m
 ·rw[h]at hcond
  revert hcond
  cases iF t n st
  ·intro _;rfl
  ·cases pG f
   ·intro _;rfl
   ·cases XI m
    ·intro _;rfl
    ·intro h;cases h
 ·rw[h]at hcond
  obtain⟨c1,c2⟩:=WD hcond
  obtain⟨c3,c4⟩:=WD c2
  rw[c1,c3,c4]
  obtain⟨hi,hr,_,hm⟩:=fK h
  obtain⟨hm1,hm2⟩:=XK hm
  obtain⟨b,rfl⟩:∃b:Nat,m=(b:Int):=⟨m.toNat,by omega⟩
  have hr5:dD st=true:=by rw[GI];exact hr
  have hup:=ZV (t:=t) (n:=n) ((rJ st).1 hr5).2.2.1
  have hE:TB t n st=lB t n st:=SO hi (TM hr)
  have hk:∀k∈lB t n st,nF k=true:=fun k hk=>by
   have:=eQ (t:=t) (n:=n) hr (KL k) (by rw[bM,hE];exact List.mem_map.2 ⟨k,hk,rfl⟩)
   exact this.1
  have hlen:=TO t n st
  have hst:=xJ hr
  have e1:=LQ hk hr5 f b oM
  have e2:=pP _ hup hk b st f.Last oM hr5
  rw[bM,hE]
  show((rC ((lB t n st).map KL) st f b).1,(rC ((lB t n st).map KL) st f b).2,true)=_
  rw[e1]
  show _=((kF t n st f b).1,(kF t n st f b).2,true)
  rw[nX,e2]
  dsimp only
  rw[AX hup oM (BO t n _ st)]
  rw[Bool.not_not]
theorem aT:∀(D:List uA) (st:List jA),(D.foldl xL st).length≤st.length
 | [],_=>Nat.le_refl _
 | k::D,st=>Nat.le_trans (aT D (xL st k)) (List.length_filter_le _ _)
def jN(t:dB)(w:jA):Bool:=(ZB t w).2
theorem dV{t:dB}(hg:LC t=true)(n:uA)(st:List jA):(JB t n st).map (·.key)=(st.filter (jN t)).map (·.Key):=by
 rw[RK,oN,List.map_map,List.map_map]
 refine List.map_congr_left fun w hw=>?_
 have:=(LR (by rw[NG];exact hg) (List.mem_filter.1 hw).2).2
 show(vB t (ZB t w).1).Key=w.Key
 rw[this]
theorem sW{t:dB}(hg:LC t=true)(st:List jA):YA t st=(st.filter (jN t)).map (·.Key):=by
 unfold YA
 rw[ZM (body:=fI t st) DD (fun r=>(dC t r).Key) (LB t st) fun k x=>rfl,←wK hg,oN,List.map_map]
 refine List.map_congr_left fun w hw=>?_
 have:=(LR (by rw[NG];exact hg) (List.mem_filter.1 hw).2).2
 show(dC t (ZB t w).1).Key=w.Key
 rw[←aO,this]
def yK:List DE→Nat→List jA→uA→List jA×uA×Nat
 | [],_,x,z=>(x,z,0)
 | _::_,0,x,z=>(x,z,0)
 | y::l,b+1,x,z=>bif(xD x y.ops).2 then((yK l b (xD x y.ops).1 y.key).1,(yK l b (xD x y.ops).1 y.key).2.1,(yK l b (xD x y.ops).1 y.key).2.2+1)else(x,z,0)
theorem QT:∀(l:List DE) (b:Nat) (x:List jA) (z:uA),(yK l b x z).2.2≤l.length∧(yK l b x z).2.1=((l.take (yK l b x z).2.2).map (·.key)).getLastD z
 | [],_,_,_=>⟨Nat.le_refl _,rfl⟩
 | _::_,0,_,_=>⟨Nat.zero_le _,rfl⟩
 | y::l,b+1,x,z=>by
  obtain⟨h1,h2⟩:=QT l b (xD x y.ops).1 y.key
  unfold yK
  cases (xD x y.ops).2
  ·exact⟨Nat.zero_le _,rfl⟩
  ·refine⟨by rw[List.length_cons];exact Nat.succ_le_succ h1,?_⟩
   show(yK l b (xD x y.ops).1 y.key).2.1=_
   rw[h2]
   show _=(((y::l).take ((yK l b (xD x y.ops).1 y.key).2.2+1)).map (·.key)).getLastD z
   rw[List.take_succ_cons,List.map_cons,List.getLastD_cons]
theorem VU{t:dB}(hg:LC t=true){n:uA}(hi:cE t n=true)(r:mD)(w:jA)(h:w.Key=WC t n r):jN t w=false:=by
 unfold jN
 rw[KR hg]
 have hn:=(uN.of hg).name
 have h2:(SE t w).2=false:=by
  rw[kN]
  cases decide ((w.Key.length:Int)<3)
  ·show(_&&(_&&_))=false
   have:((t.Name++([47]:uA))++w.Key.drop 2==w.Key)=false:=by
    cases hb:((t.Name++([47]:uA))++w.Key.drop 2==w.Key)
    ·rfl
    ·exfalso
     have e:=eq_of_beq hb
     rw[h,VT hi]at e
     unfold QE at e
     obtain⟨c,hc⟩:∃c,t.Name=[c]:=by
      match t.Name,hn with
      | [c],_=>exact⟨c,rfl⟩
     rw[hc]at e
     simp at e
   rw[this]
   cases jF t (DO w)<;>rfl
  ·rfl
 rw[h2];rfl
theorem FX{t:dB}{l:List jA}{w:jA}(hw:∀y:jA,y.Key=w.Key→jN t y=false)(i:Nat):(mN l w i).filter (jN t)=l.filter (jN t):=by
 unfold mN
 cases hf:aS l w.Key i
 ·rw[cond_false,List.filter_append,List.filter_cons,hw w rfl]
  show(l.take i).filter _++(l.drop i).filter _=_
  rw[←List.filter_append,List.take_append_drop]
 ·rw[cond_true]
  obtain⟨h,e⟩:=dL.1 hf
  have hs:l.set i w=l.take i++w::l.drop (i+1):=List.set_eq_take_append_cons_drop▸(if_pos h)
  have ht:l=l.take i++l[i]::l.drop (i+1):=by rw[←List.drop_eq_getElem_cons h,List.take_append_drop]
  rw[hs,List.filter_append,List.filter_cons,hw w rfl]
  conv=>rhs;rw[ht]
  rw[List.filter_append,List.filter_cons,hw l[i] e]
  rfl
theorem ZS{t:dB}:∀(ws l:List jA),Up l→l.length+ws.length≤1000000→(∀w∈ws,∀y:jA,y.Key=w.Key→jN t y=false)→(ws.foldl YB l).filter (jN t)=l.filter (jN t)
 | [],_,_,_,_=>rfl
 | w::ws,l,hu,hl,hw=>by
  rw[List.length_cons]at hl
  obtain⟨i,hp⟩:=JR hu oM w.Key
  have h1:=JP hu oM w
  rw[List.foldl_cons,ZS ws _ h1.1 oM fun w hw2=>hw w (List.mem_cons_of_mem _ hw2),bP hu oM w hp,FX (hw w (List.mem_cons_self ..))]
theorem eU{t:dB}{l ws:List jA}(hu:Up l)(hg:∀y∈l,y.Gone=false)(hl:l.length+ws.length≤1000000)(hw:∀w∈ws,w.Gone=false∧∀y:jA,y.Key=w.Key→jN t y=false):(CC l ws).filter (jN t)=l.filter (jN t):=by
 rw[oK]
 obtain⟨_,h2,_⟩:=vP ws l hu hl
 have e:(ws.foldl YB l).filter (fun y=>!y.Gone)=ws.foldl YB l:=List.filter_eq_self.2 fun y hy=>by
  rcases h2 y hy with h | h
  ·rw[hg y h];rfl
  ·rw[(hw y h).1];rfl
 rw[e,ZS ws l hu hl fun w h=>(hw w h).2]
theorem aV{t:dB}{n:uA}(hi:cE t n=true){st:List jA}(hr:dD st=true){r:mD}(h:WH t r=true) :
  oG st (SB t n r)=xD st (SB t n r)∧dD (xD st (SB t n r)).1=true∧(xD st (SB t n r)).1.filter (jN t)=st.filter (jN t):=by
 obtain⟨_,g2,g3⟩:=fQ hi h
 have g2:JH (SB t n r)=true:=g2
 have g3:AK (SB t n r):=g3
 obtain⟨e1,e2⟩:=rT hr g2 g3
 refine⟨e1,e2,?_⟩
 obtain⟨k1,k2,hu,k4⟩:=(rJ st).1 hr
 have hw:aY (SB t n r) (vC st (SB t n r)).2.1:=VP st g3 (by have:=(OK g2).2;omega)
 have hrun:=WQ hr g2 (show vC st (SB t n r)=((vC st (SB t n r)).1,(vC st (SB t n r)).2.1,(vC st (SB t n r)).2.2)from rfl)
 have hput:=eU (t:=t) hu k2 (by have:=hw.2.1;have:=(OK g2).2;omega) (ws:=(vC st (SB t n r)).2.1) fun w hwm=>by
  obtain⟨o,ho,hk,h2⟩:=hw.2.2 w hwm
  unfold SB at ho
  rcases List.mem_cons.1 ho with rfl | ho
  ·rcases h2 with⟨_,_,h2⟩ | ⟨_,_,h2⟩
   ·exact absurd h2 (show ¬(7:Int)=2 by decide)
   ·exact absurd h2 (show ¬(7:Int)=3 by decide)
  ·rw[List.mem_singleton.1 ho]at hk h2
   rcases h2 with⟨_,h2,_⟩ | ⟨_,_,h2⟩
   ·exact⟨h2,fun y hy=>VU (zG hi) hi r y (hy.trans hk)⟩
   ·exact absurd h2 (show ¬(2:Int)=3 by decide)
 unfold xD
 rw[hrun]
 cases ((vC st (SB t n r)).2.2&&dD (CC st (vC st (SB t n r)).2.1))
 ·rfl
 ·exact hput
theorem gQ(l:List DE)(x:List jA)(z:uA):yK l 0 x z=(x,z,0):=by cases l<;>rfl
theorem wP(b:Nat)(x:List jA)(z:uA):yK [] b x z=(x,z,0):=by cases b<;>rfl
theorem IR{T:List DE}{P:List jA→Prop}(hP:∀x,P x→∀y∈T,oG x y.ops=xD x y.ops∧P (xD x y.ops).1){st:List jA}(h0:P st)(f:dE)(b:Nat)(hl:T.length≤1000) :
  rC T st f b=((yK (T.filter fun y=>!(XH y.key f.Last)) b st f.Last).1,⟨(yK (T.filter fun y=>!(XH y.key f.Last)) b st f.Last).2.1,f.Over||decide ((yK (T.filter fun y=>!(XH y.key f.Last)) b st f.Last).2.2=(T.filter fun y=>!(XH y.key f.Last)).length)⟩):=by
 have hrest:bB (BB T) (fun y0=>rD y0 f)=T.filter fun y=>!(XH y.key f.Last):=rfl
 generalize hF:(T.filter fun y=>!(XH y.key f.Last))=F at *
 have hmF:∀y∈F,y∈T:=fun y h=>by rw[←hF]at h;exact(List.mem_filter.1 h).1
 have hlF:F.length≤1000:=by rw[←hF];exact Nat.le_trans (List.length_filter_le _ _) hl
 generalize hR:yK F b st f.Last=R
 unfold rC
 rw[hrest]
 refine TK (body:=uG T st f b) (fun(s:List jA×Int×uA)=>∃j:Nat,s.2.1=j∧j≤min b F.length∧P s.1∧R=((yK (F.drop j) (b-j) s.1 s.2.2).1,(yK (F.drop j) (b-j) s.1 s.2.2).2.1,(yK (F.drop j) (b-j) s.1 s.2.2).2.2+j)) (fun s=>((F.length:Int)-s.2.1).toNat) (fun(v:List jA×dE)=>v=(R.1,⟨R.2.1,f.Over||decide (R.2.2=F.length)⟩)) ?_ _ _ ⟨0,rfl,Nat.zero_le _,h0,by rw[←hR];rfl⟩ (by show((F.length:Int)-0).toNat<_;omega)
 rintro⟨x,c,z⟩ ⟨j,hc,hj,hPx,hRx⟩
 dsimp only at hc hPx hRx
 subst hc
 have fin:∀q:Nat,q=j→R=(x,z,q)→(bif f.Over then(CB x,(⟨z,true⟩:dE))else(CB x,(⟨z,decide ((j:Int)=(F.length:Int))⟩:dE)))=(R.1,⟨R.2.1,f.Over||decide (R.2.2=F.length)⟩):=fun q hq hR=>by
  subst hq
  rw[hR]
  have hd:decide ((q:Int)=(F.length:Int))=decide (q=F.length):=by rw[Bool.eq_iff_iff,decide_eq_true_eq,decide_eq_true_eq];omega
  rw[hd]
  cases f.Over<;>rfl
 unfold uG
 dsimp only
 rw[hrest]
 by_cases hlt:j<min b F.length
 ·have hjF:j<F.length:=by omega
  rw[decide_eq_true (show(j:Int)<min (b:Int) (F.length:Int)by omega),cond_true,Int.toNat_natCast,QF hjF]
  obtain⟨e1,e2⟩:=hP x hPx F[j] (hmF _ (List.getElem_mem hjF))
  rw[e1]
  have hw:IntKind.wrap .i64 ((j:Int)+1)=((j+1:Nat):Int):=by rw[RE oM];rfl
  obtain⟨c,hc⟩:∃c,b-j=c+1:=⟨b-j-1,by omega⟩
  rw[List.drop_eq_getElem_cons hjF,hc]at hRx
  unfold yK at hRx
  cases hd:(xD x F[j].ops).2
  ·rw[hd]at hRx
   exact fin j rfl (by rw[hRx];show(x,z,0+j)=_;rw[Nat.zero_add])
  ·rw[hd,cond_true]at hRx
   refine⟨⟨j+1,hw,oM,e2,?_⟩,?_⟩
   ·rw[hRx,show b-(j+1)=c by omega]
    show(_,_,_+1+j)=(_,_,_+(j+1))
    rw[Nat.add_assoc,Nat.add_comm 1 j]
   ·show((F.length:Int)-IntKind.wrap .i64 ((j:Int)+1)).toNat<((F.length:Int)-(j:Int)).toNat
    rw[hw];omega
 ·rw[decide_eq_false (show ¬(j:Int)<min (b:Int) (F.length:Int)by omega),cond_false]
  refine fin j rfl ?_
  rw[hRx]
  by_cases hb:b≤F.length
  ·rw[show b-j=0 by omega,gQ,Nat.zero_add]
  ·rw[List.drop_of_length_le (show F.length≤j by omega),wP,Nat.zero_add]
def VX:List DE→Int→List jA→uA→Int×List jA×uA
 | [],c,x,z=>(c,x,z)
 | y::l,c,x,z=>bif decide (c=0)then VX l c x z else bif XH y.key z then VX l c x z else bif(xD x y.ops).2 then VX l (IntKind.wrap .i64 (c-1)) (xD x y.ops).1 y.key else(c,x,z)
def FO(t:dB)(n:uA)(r:mD):DE:=⟨(dC t r).Key,bH t (t.Idxs.getD (iD t n).toNat AB) r⟩
theorem mY(t:dB)(n:uA)(st:List jA)(f:dE)(m:Int):lF t n st f m=((VX ((LB t st).map (FO t n)) m st f.Last).2.1,⟨(VX ((LB t st).map (FO t n)) m st f.Last).2.2,f.Over||!(oF (YA t (VX ((LB t st).map (FO t n)) m st f.Last).2.1) (VX ((LB t st).map (FO t n)) m st f.Last).2.2)⟩):=by
 unfold lF
 generalize hR:VX ((LB t st).map (FO t n)) m st f.Last=R
 have fin:∀s:Int×List jA×uA,s=R→(bif f.Over then(s.2.1,(⟨s.2.2,true⟩:dE))else(s.2.1,(⟨s.2.2,!(oF (YA t s.2.1) s.2.2)⟩:dE)))=(R.2.1,⟨R.2.2,f.Over||!(oF (YA t R.2.1) R.2.2)⟩):=fun s h=>by
  subst h
  cases f.Over<;>rfl
 refine fF (fun j (s:Int×List jA×uA)=>VX (((LB t st).drop j).map (FO t n)) s.1 s.2.1 s.2.2=R) (fun(v:List jA×dE)=>v=_) hR (fun s hs=>?_) (fun j s _ hj hs=>?_)
 ·rw[List.drop_of_length_le oM]at hs
  exact fin s hs
 ·have hj':j<(LB t st).length:=by omega
  rw[List.drop_eq_getElem_cons hj',←QF (d:=DD) hj',List.map_cons]at hs
  obtain⟨c,x,z⟩:=s
  unfold VX at hs
  unfold qG
  dsimp only at hs ⊢
  cases h1:decide (c=0)
  ·rw[h1,cond_false]at hs
   cases h2:XH (FO t n ((LB t st).getD j DD)).key z
   ·rw[h2,cond_false]at hs
    rw[show XH (dC t ((LB t st).getD j DD)).Key z=false from h2]
    cases h3:(xD x (FO t n ((LB t st).getD j DD)).ops).2
    ·rw[h3,cond_false]at hs
     rw[show(xD x (bH t (t.Idxs.getD (iD t n).toNat AB) ((LB t st).getD j DD))).2=false from h3]
     exact fin _ hs
    ·rw[h3,cond_true]at hs
     rw[show(xD x (bH t (t.Idxs.getD (iD t n).toNat AB) ((LB t st).getD j DD))).2=true from h3]
     exact hs
   ·rw[h2,cond_true]at hs
    rw[show XH (dC t ((LB t st).getD j DD)).Key z=true from h2]
    exact hs
  ·rw[h1,cond_true]at hs;exact hs
theorem FQ{l:List DE}{k z:uA}(h:∀y∈l,jJ k y.key=true)(hk:XH k z=false∨k=z):(l.filter fun y=>!(XH y.key z))=l:=List.filter_eq_self.2 fun y hy=>by
 have h1:=h y hy
 have:jJ z y.key=true:=by
  rcases hk with hk | rfl
  ·exact UL (FP hk) h1
  ·exact h1
 rw[oO this];rfl
theorem uP:∀(T:List DE),T.Pairwise (fun a b=>jJ a.key b.key=true)→∀(b:Nat) (x:List jA) (z:uA),b≤24 →
  (VX T b x z).2=((yK (T.filter fun y=>!(XH y.key z)) b x z).1,(yK (T.filter fun y=>!(XH y.key z)) b x z).2.1)
 | [],_,b,x,z,_=>by rw[show([]:List DE).filter _=[]from rfl,wP];rfl
 | y::l,hu,b,x,z,hb=>by
  obtain⟨hu1,hu2⟩:=List.pairwise_cons.1 hu
  unfold VX
  cases b with
  | zero=>
   rw[show decide (((0:Nat):Int)=0)=true from rfl,cond_true,uP l hu2 0 x z hb,gQ,gQ]
  | succ b=>
   rw[show decide (((b+1:Nat):Int)=0)=false from decide_eq_false oM,cond_false]
   cases hz:XH y.key z
   ·have hw:IntKind.wrap .i64 (((b+1:Nat):Int)-1)=(b:Int):=by rw[RE oM];omega
    have e1:=FQ (z:=y.key) hu1 (.inr rfl)
    have e2:=FQ (z:=z) hu1 (.inl hz)
    rw[cond_false,List.filter_cons,hz,e2]
    show _=((yK (y::l) (b+1) x z).1,(yK (y::l) (b+1) x z).2.1)
    unfold yK
    cases (xD x y.ops).2
    ·rfl
    ·rw[cond_true,cond_true,hw,uP l hu2 b _ _ oM,e1]
   ·rw[cond_true,uP l hu2 (b+1) x z hb,List.filter_cons,hz]
    rfl
theorem zR{P:List jA→Prop}:∀(l:List DE),(∀x,P x→∀y∈l,P (xD x y.ops).1)→∀(b:Nat) (x:List jA) (z:uA),P x→P (yK l b x z).1
 | [],_,b,x,z,h=>by rw[wP];exact h
 | _::_,_,0,x,z,h=>h
 | y::l,hP,b+1,x,z,h=>by
  unfold yK
  cases (xD x y.ops).2
  ·exact h
  ·exact zR l (fun x hx y hy=>hP x hx y (List.mem_cons_of_mem _ hy)) b _ _ (hP x h y (List.mem_cons_self ..))
theorem eW{E:List uA}(hu:VZ E){z:uA}{c:Nat}(hc:c≤(E.filter fun y=>!(XH y z)).length) :
  oF E (((E.filter fun y=>!(XH y z)).take c).getLastD z)=!decide (c=(E.filter fun y=>!(XH y z)).length):=by
 have hF:∀y,y∈(E.filter fun y=>!(XH y z))↔y∈E∧XH y z=false:=fun y=>by rw[List.mem_filter];simp
 have huF:VZ (E.filter fun y=>!(XH y z)):=List.Pairwise.filter _ hu
 generalize (E.filter fun y=>!(XH y z))=F at *
 rw[sV]
 by_cases hlen:c=F.length
 ·rw[decide_eq_true hlen,hlen,List.take_length]
  refine Bool.eq_false_iff.2 fun h=>?_
  obtain⟨y,hyE,h2⟩:=List.any_eq_true.1 h
  have:XH y (F.getLastD z)=true:=by
   cases h3:XH y z
   ·obtain⟨i,hi,rfl⟩:=List.mem_iff_getElem.1 ((hF y).2 ⟨hyE,h3⟩)
    obtain⟨q,hq⟩:∃q,F.length=q+1:=⟨F.length-1,by omega⟩
    have e:F.getLastD z=F[q]'oM:=by
     conv=>lhs;rw[←List.take_length (l:=F),hq,List.take_succ_eq_append_getElem oM]
     exact List.getLastD_concat ..
    rw[e]
    rcases Nat.lt_or_ge i q with hlt | hge
    ·exact qQ (List.pairwise_iff_getElem.1 huF i q hi oM hlt)
    ·obtain rfl:i=q:=by omega
     unfold XH;rw[beq_self_eq_true,Bool.or_true]
   ·cases hl:F.getLast? with
    | none=>rw[List.getLastD_eq_getLast?,hl];exact h3
    | some q=>
     rw[List.getLastD_eq_getLast?,hl]
     have hq:=(hF q).1 (List.mem_of_getLast? hl)
     exact PY h3 (qQ (FP hq.2))
  rw[this]at h2;cases h2
 ·rw[decide_eq_false hlen]
  have hcF:c<F.length:=by omega
  refine List.any_eq_true.2 ⟨F[c],((hF _).1 (List.getElem_mem hcF)).1,?_⟩
  cases c with
  | zero=>
   show(!(XH F[0] z))=true
   rw[((hF _).1 (List.getElem_mem hcF)).2];rfl
  | succ c=>rw[List.take_succ_eq_append_getElem oM,List.getLastD_concat,oO (List.pairwise_iff_getElem.1 huF c (c+1) oM oM oM)];rfl
theorem cV{t:dB}{n:uA}(hi:cE t n=true)(st:List jA):JB t n st=(LB t st).map (FO t n):=by
 rw[RK,wK (zG hi)]
 refine List.map_congr_left fun r _=>?_
 unfold FO SB bH
 rw[aO,VT hi]
theorem mW(t:dB)(n:uA)(st:List jA)(f:dE)(m:Int):(bif iF t n st then bif pG f then XI m else false else false)=dF t n st f m:=by
 have h1:iF t n st=CF t n st:=by
  unfold CF iF cE
  rw[NG,PJ,←GI]
  cases LC t<;>rfl
 have h3:XI m=OD m 1 24:=rfl
 unfold dF
 rw[h1,zN,h3]
theorem wT(t:dB)(n:uA)(st:List jA)(f:dE)(m:Int):OA t n st f m=VA t n st f m∧(OA t n st f m).1.length≤24:=by
 have hcond:=mW t n st f m
 unfold OA VA
 cases h:dF t n st f m
 ·rw[h]at hcond
  refine⟨?_,Nat.zero_le _⟩
  revert hcond
  cases iF t n st
  ·intro _;rfl
  ·cases pG f
   ·intro _;rfl
   ·cases XI m
    ·intro _;rfl
    ·intro h;cases h
 ·rw[h]at hcond
  obtain⟨c1,c2⟩:=WD hcond
  obtain⟨c3,c4⟩:=WD c2
  rw[c1,c3,c4]
  obtain⟨hi,hr,_,hm⟩:=fK h
  obtain⟨hm1,hm2⟩:=XK hm
  obtain⟨b,rfl⟩:∃b:Nat,m=(b:Int):=⟨m.toNat,by omega⟩
  have hr5:dD st=true:=by rw[GI];exact hr
  have hg:=zG hi
  have hst:=xJ hr
  have hlen:=iM hi st
  have hk:=dV hg n st
  have hP:∀x,(dD x=true∧x.filter (jN t)=st.filter (jN t))→∀y∈JB t n st,oG x y.ops=xD x y.ops∧(dD (xD x y.ops).1=true∧(xD x y.ops).1.filter (jN t)=st.filter (jN t)):=fun x hx y hy=>by
   rw[RK]at hy
   obtain⟨r,hrm,rfl⟩:=List.mem_map.1 hy
   obtain⟨a1,a2,a3⟩:=aV hi hx.1 (OR hg (pN hg hrm))
   exact⟨a1,a2,a3.trans hx.2⟩
  have hup:(JB t n st).Pairwise (fun a b=>jJ a.key b.key=true):=by
   have:VZ ((JB t n st).map (·.key)):=by
    rw[hk]
    exact List.pairwise_map.2 (List.Pairwise.filter _ ((rJ st).1 hr5).2.2.1)
   exact List.pairwise_map.1 this
  have e1:=IR hP ⟨hr5,rfl⟩ f b (by rw[RK,List.length_map];omega)
  have e2:=uP _ hup b st f.Last oM
  have e3:=mY t n st f b
  rw[←cV hi st]at e3
  have hF:(((JB t n st).filter fun y=>!(XH y.key f.Last)).map (·.key))=((JB t n st).map (·.key)).filter fun y=>!(XH y f.Last):=by rw[List.filter_map];rfl
  have hinv:=zR (P:=fun x=>dD x=true∧x.filter (jN t)=st.filter (jN t)) ((JB t n st).filter fun y=>!(XH y.key f.Last)) (fun x hx y hy=>(hP x hx y (List.mem_filter.1 hy).1).2) b st f.Last ⟨hr5,rfl⟩
  obtain⟨hcl,hz⟩:=QT ((JB t n st).filter fun y=>!(XH y.key f.Last)) b st f.Last
  have hlF:((JB t n st).filter fun y=>!(XH y.key f.Last)).length=(((JB t n st).map (·.key)).filter fun y=>!(XH y f.Last)).length:=by rw[←hF,List.length_map]
  have hLe:=eW (E:=(JB t n st).map (·.key)) (List.pairwise_map.2 hup) (z:=f.Last) (c:=(yK ((JB t n st).filter fun y=>!(XH y.key f.Last)) b st f.Last).2.2) (by rw[←hlF];exact hcl)
  rw[←hlF,←hF,←List.map_take,←hz]at hLe
  refine⟨?_,?_⟩
  ·show((rC (JB t n st) st f b).1,(rC (JB t n st) st f b).2,true)=((lF t n st f b).1,(lF t n st f b).2,true)
   rw[e1,e3,e2]
   dsimp only
   rw[sW hg,hinv.2,←hk,hLe,Bool.not_not]
  ·show(rC (JB t n st) st f b).1.length≤24
   rw[e1]
   exact((rJ _).1 hinv.1).2.2.2
theorem uT{t:dB}(h:LC t=true):t.Name.length≤2∧1≤t.Cols.length∧t.Cols.length≤5:=by
 have h1:=tI h
 have h2:=RT h
 omega
theorem HY{t:dB}{r:mD}(h:t.Name.length≤2)(hl:r.Vals.length≤5)(hr:gH r):PB (dC t r):=by
 have h1:=SM (r.Vals.drop 1) fun x hx=>hr x (List.mem_of_mem_drop hx)
 rw[List.length_drop]at h1
 have h2:=hr.getD 0
 unfold dC
 rw[xT]
 refine⟨?_,?_⟩
 ·show HE ((t.Name++([47]:uA))++(r.Vals.getD 0 IB))
  unfold HE
  simp only[lN]
  omega
 ·show HE (([44]:uA).intercalate (r.Vals.drop 1))
  unfold HE
  omega
theorem pT(n:Int):(cI n).length≤2:=by
 unfold cI
 cases decide (n<10)
 ·simp only[cond_false]
  rw[List.length_append]
  have h:=ZN (IntKind.wrap .i64 (Int.tdiv n 10))
  have h2:(LV ([IntKind.wrap .u8 (IntKind.wrap .i64 (48+(Int.tmod n 10)))]:List Int)).length=1:=by rw[mC];rfl
  omega
 ·rw[cond_true,mC]
  exact Nat.le_succ 1
theorem Ia{q:jA→Bool}{l:List jA}{w:jA}(hw:∀y:jA,y.Key=w.Key→q y=false)(i:Nat):(mN l w i).filter q=l.filter q:=by
 unfold mN
 cases hf:aS l w.Key i
 ·rw[cond_false,List.filter_append,List.filter_cons,hw w rfl]
  show(l.take i).filter _++(l.drop i).filter _=_
  rw[←List.filter_append,List.take_append_drop]
 ·rw[cond_true]
  obtain⟨h,e⟩:=dL.1 hf
  have hs:l.set i w=l.take i++w::l.drop (i+1):=List.set_eq_take_append_cons_drop▸(if_pos h)
  have ht:l=l.take i++l[i]::l.drop (i+1):=by rw[←List.drop_eq_getElem_cons h,List.take_append_drop]
  rw[hs,List.filter_append,List.filter_cons,hw w rfl]
  conv=>rhs;rw[ht]
  rw[List.filter_append,List.filter_cons,hw l[i] e]
  rfl
theorem AZ(l:List jA)(w:jA)(i:Nat):l.length≤(mN l w i).length:=by
 unfold mN
 cases aS l w.Key i
 ·rw[cond_false,List.length_append,List.length_cons,List.length_take,List.length_drop];omega
 ·rw[cond_true,List.length_set];exact Nat.le_refl _
theorem nY{q:jA→Bool}:∀(ws l:List jA),Up l→l.length+ws.length≤1000000→(∀w∈ws,∀y:jA,y.Key=w.Key→q y=false)→(ws.foldl YB l).filter q=l.filter q∧l.length≤(ws.foldl YB l).length
 | [],_,_,_,_=>⟨rfl,Nat.le_refl _⟩
 | w::ws,l,hu,hl,hw=>by
  rw[List.length_cons]at hl
  obtain⟨i,hp⟩:=JR hu oM w.Key
  have h1:=JP hu oM w
  obtain⟨h2,h3⟩:=nY ws _ h1.1 oM fun w hw2=>hw w (List.mem_cons_of_mem _ hw2)
  have h4:=AZ l w i
  rw[←bP hu oM w hp]at h4
  refine⟨?_,by rw[List.foldl_cons];omega⟩
  rw[List.foldl_cons,h2,bP hu oM w hp,Ia (hw w (List.mem_cons_self ..))]
theorem EX{q:jA→Bool}{l ws:List jA}(hu:Up l)(hg:∀y∈l,y.Gone=false)(hl:l.length+ws.length≤1000000)(hw:∀w∈ws,w.Gone=false∧∀y:jA,y.Key=w.Key→q y=false):(CC l ws).filter q=l.filter q∧l.length≤(CC l ws).length:=by
 rw[oK]
 obtain⟨_,h2,_⟩:=vP ws l hu hl
 have e:(ws.foldl YB l).filter (fun y=>!y.Gone)=ws.foldl YB l:=List.filter_eq_self.2 fun y hy=>by
  rcases h2 y hy with h | h
  ·rw[hg y h];rfl
  ·rw[(hw y h).1];rfl
 rw[e]
 exact nY ws l hu hl fun w h=>(hw w h).2
theorem zW{k:uA}:∀{l:List jA},Up l→l.length≤(l.filter fun y=>!(y.Key==k)).length+1
 | [],_=>Nat.zero_le _
 | a::l,hu=>by
  obtain⟨h1,h2⟩:=List.pairwise_cons.1 hu
  rw[List.filter_cons]
  cases hk:a.Key==k
  ·have:=zW (k:=k) h2
   show l.length+1≤(a::l.filter fun y=>!(y.Key==k)).length+1
   rw[List.length_cons];omega
  ·have e:(l.filter fun y=>!(y.Key==k))=l:=List.filter_eq_self.2 fun y hy=>by
    cases hb:y.Key==k
    ·rfl
    ·have h3:=h1 y hy
     rw[eq_of_beq hk,eq_of_beq hb,hU]at h3;cases h3
   show l.length+1≤(l.filter fun y=>!(y.Key==k)).length+1
   rw[e];exact Nat.le_refl _
theorem US{t:dB}{n:uA}(hi:cE t n=true){st:List jA}(hr:dD st=true){r:mD}(h:WH t r=true){q:jA→Bool}(hq:∀y:jA,y.Key=WC t n r→q y=false) :
  (xD st (SB t n r)).1.filter q=st.filter q∧st.length≤(xD st (SB t n r)).1.length:=by
 obtain⟨_,g2,g3⟩:=fQ hi h
 have g2:JH (SB t n r)=true:=g2
 have g3:AK (SB t n r):=g3
 obtain⟨k1,k2,hu,k4⟩:=(rJ st).1 hr
 have hw:aY (SB t n r) (vC st (SB t n r)).2.1:=VP st g3 (by have:=(OK g2).2;omega)
 have hrun:=WQ hr g2 (show vC st (SB t n r)=((vC st (SB t n r)).1,(vC st (SB t n r)).2.1,(vC st (SB t n r)).2.2)from rfl)
 have hput:=EX (q:=q) hu k2 (by have:=hw.2.1;have:=(OK g2).2;omega) (ws:=(vC st (SB t n r)).2.1) fun w hwm=>by
  obtain⟨o,ho,hk,h2⟩:=hw.2.2 w hwm
  unfold SB at ho
  rcases List.mem_cons.1 ho with rfl | ho
  ·rcases h2 with⟨_,_,h2⟩ | ⟨_,_,h2⟩
   ·exact absurd h2 (show ¬(7:Int)=2 by decide)
   ·exact absurd h2 (show ¬(7:Int)=3 by decide)
  ·rw[List.mem_singleton.1 ho]at hk h2
   rcases h2 with⟨_,h2,_⟩ | ⟨_,_,h2⟩
   ·exact⟨h2,fun y hy=>hq y (hy.trans hk)⟩
   ·exact absurd h2 (show ¬(2:Int)=3 by decide)
 unfold xD
 rw[hrun]
 cases ((vC st (SB t n r)).2.2&&dD (CC st (vC st (SB t n r)).2.1))
 ·exact⟨rfl,Nat.le_refl _⟩
 ·exact hput
theorem jV{P:List jA→Prop}:∀(l:List DE),(∀x,P x→∀y∈l,P (xD x y.ops).1∧x.length≤(xD x y.ops).1.length∧(xD x y.ops).1.length≤x.length+1)→∀(b:Nat) (x:List jA) (z:uA),P x→x.length≤(yK l b x z).1.length∧(yK l b x z).1.length≤x.length+b
 | [],_,b,x,z,h=>by rw[wP];exact⟨Nat.le_refl _,Nat.le_add_right _ _⟩
 | _::_,_,0,x,z,h=>⟨Nat.le_refl _,Nat.le_refl _⟩
 | y::l,hP,b+1,x,z,h=>by
  unfold yK
  cases (xD x y.ops).2
  ·exact⟨Nat.le_refl _,Nat.le_add_right _ _⟩
  ·obtain⟨h1,h2,h3⟩:=hP x h y (List.mem_cons_self ..)
   obtain⟨h4,h5⟩:=jV l (fun x hx y hy=>hP x hx y (List.mem_cons_of_mem _ hy)) b _ y.key h1
   show x.length≤(yK l b (xD x y.ops).1 y.key).1.length∧(yK l b (xD x y.ops).1 y.key).1.length≤x.length+(b+1)
   omega
theorem gT:∀(l:List uA) (z:uA),l.getLastD z=z∨l.getLastD z∈l
 | [],_=>.inl rfl
 | a::l,z=>by
  rw[List.getLastD_cons]
  rcases gT l a with h | h
  ·rw[h];exact .inr (List.mem_cons_self ..)
  ·exact .inr (List.mem_cons_of_mem _ h)
theorem RW{l:List uA}{z:uA}(h:∀y∈l,XH y z=false):jJ (l.getLastD z) z=false:=by
 rcases gT l z with e | e
 ·rw[e];exact hU z
 ·exact QR (FP (h _ e))
theorem eP(t:dB)(n:uA)(l:List jA):AG t n l=(LB t l).map fun r=>QE t (t.Idxs.getD (iD t n).toNat AB) r:=by
 unfold AG
 exact ZM (body:=EL t n l) DD (fun r=>QE t (t.Idxs.getD (iD t n).toNat AB) r) (LB t l) fun k x=>rfl
def qW(t:dB)(n:uA)(W:List uA)(w:jA):Bool:=gZ t n w.Key&&!(W.any fun x=>x==w.Key)
theorem oQ{t:dB}(hg:LC t=true){a b:List jA}(h:a.filter (jN t)=b.filter (jN t)):mB t a=mB t b:=by
 rw[oN,oN]
 exact congrArg _ h
theorem mT{t:dB}{n:uA}(hi:cE t n=true){l:List jA}(hr:UG l=true):vF t n l=(l.filter (qW t n (AG t n l))).map (·.Key):=by
 rw[aU hi hr,UW,bL,List.filter_filter,List.filter_map]
 congr 1
 refine List.filter_congr fun w _=>?_
 show(!(_:Bool)&&gZ t n w.Key)=(gZ t n w.Key&&!_)
 exact Bool.and_comm _ _
theorem bU{t:dB}{n:uA}(hi:cE t n=true){a b:List jA}(ha:UG a=true)(hb:UG b=true)(h:a.filter (jN t)=b.filter (jN t))(hq:a.filter (qW t n (AG t n b))=b.filter (qW t n (AG t n b))):vF t n a=vF t n b:=by
 have hw:AG t n a=AG t n b:=by
  rw[eP,eP,←wK (zG hi),←wK (zG hi),oQ (zG hi) h]
 rw[mT hi ha,mT hi hb,hw,hq]
theorem bW{t:dB}{n:uA}{st:List jA}{f:dE}{m:Int}(h:dF t n st f m=true) :
  UG (rC (JB t n st) st f m).1=true∧(rC (JB t n st) st f m).1.filter (jN t)=st.filter (jN t) ∧
  (rC (JB t n st) st f m).1.filter (qW t n (AG t n st))=st.filter (qW t n (AG t n st)) ∧
  st.length≤(rC (JB t n st) st f m).1.length∧(((rC (JB t n st) st f m).1.length:Nat):Int)≤(st.length:Int)+m∧jJ (rC (JB t n st) st f m).2.Last f.Last=false:=by
 obtain⟨hi,hr,_,hm⟩:=fK h
 obtain⟨hm1,hm2⟩:=XK hm
 obtain⟨b,rfl⟩:∃b:Nat,m=(b:Int):=⟨m.toNat,by omega⟩
 have hr5:dD st=true:=by rw[GI];exact hr
 have hg:=zG hi
 have hst:=xJ hr
 have hlen:=iM hi st
 let P:List jA→Prop:=fun x=>dD x=true∧x.filter (jN t)=st.filter (jN t)∧x.filter (qW t n (AG t n st))=st.filter (qW t n (AG t n st))
 have hP:∀x,P x→∀y∈JB t n st,(oG x y.ops=xD x y.ops∧P (xD x y.ops).1)∧x.length≤(xD x y.ops).1.length∧(xD x y.ops).1.length≤x.length+1:=fun x hx y hy=>by
  rw[RK]at hy
  obtain⟨r,hrm,rfl⟩:=List.mem_map.1 hy
  have hgr:=OR hg (pN hg hrm)
  obtain⟨a1,a2,a3⟩:=aV hi hx.1 hgr
  have hq:∀y:jA,y.Key=WC t n r→qW t n (AG t n st) y=false:=fun y hy=>by
   have hmem:WC t n r∈AG t n st:=by
    rw[eP,VT hi,←wK hg]
    exact List.mem_map.2 ⟨r,hrm,rfl⟩
   have:((AG t n st).any fun x=>x==y.Key)=true:=List.any_eq_true.2 ⟨_,hmem,by rw[hy];exact beq_self_eq_true _⟩
   unfold qW
   rw[this,Bool.not_true,Bool.and_false]
  obtain⟨a4,a5⟩:=US hi hx.1 hgr hq
  obtain⟨a6,_⟩:=US hi hx.1 hgr (q:=fun y=>!(y.Key==WC t n r)) fun y hy=>by rw[hy,beq_self_eq_true];rfl
  have a7:=zW (k:=WC t n r) ((rJ _).1 a2).2.2.1
  have a8:=List.length_filter_le (fun y:jA=>!(y.Key==WC t n r)) x
  rw[a6]at a7
  exact⟨⟨a1,a2,a3.trans hx.2.1,a4.trans hx.2.2⟩,a5,by show(xD x (SB t n r)).1.length≤_;omega⟩
 have h0:P st:=⟨hr5,rfl,rfl⟩
 have e1:=IR (P:=P) (fun x hx y hy=>(hP x hx y hy).1) h0 f b (by rw[RK,List.length_map];omega)
 have hinv:=zR (P:=P) ((JB t n st).filter fun y=>!(XH y.key f.Last)) (fun x hx y hy=>(hP x hx y (List.mem_filter.1 hy).1).1.2) b st f.Last h0
 obtain⟨hl1,hl2⟩:=jV (P:=P) ((JB t n st).filter fun y=>!(XH y.key f.Last)) (fun x hx y hy=>⟨(hP x hx y (List.mem_filter.1 hy).1).1.2,(hP x hx y (List.mem_filter.1 hy).1).2⟩) b st f.Last h0
 obtain⟨_,hz⟩:=QT ((JB t n st).filter fun y=>!(XH y.key f.Last)) b st f.Last
 rw[e1]
 refine⟨by rw[←GI];exact hinv.1,hinv.2.1,hinv.2.2,hl1,by dsimp only;omega,?_⟩
 dsimp only
 rw[hz]
 refine RW fun y hy=>?_
 obtain⟨w,hw,rfl⟩:=List.mem_map.1 hy
 have:=(List.mem_filter.1 (List.mem_of_mem_take hw)).2
 cases hb:XH w.key f.Last
 ·rfl
 ·rw[hb]at this;cases this
theorem kY{t:dB}{n k:uA}(hi:cE t n=true)(hE:gZ t n k=true)(y:jA)(h:y.Key=k):jN t y=false:=by
 have hg:=zG hi
 unfold jN
 rw[KR hg]
 have hn:=(uN.of hg).name
 have hs:=SR hi
 have h2:(SE t y).2=false:=by
  rw[kN]
  cases decide ((y.Key.length:Int)<3)
  ·show(_&&(_&&_))=false
   have:((t.Name++([47]:uA))++y.Key.drop 2==y.Key)=false:=by
    cases hb:((t.Name++([47]:uA))++y.Key.drop 2==y.Key)
    ·rfl
    ·exfalso
     have e:=eq_of_beq hb
     rw[h]at e
     have hc:(47:UInt8)∉t.Name:=fun hm=>hs (List.mem_append_left _ (List.mem_append_left _ hm))
     have e':k=t.Name++47::k.drop 2:=by
      rw[List.append_assoc]at e
      exact e.symm
     have hf:(uC k 47).getD 0 IB=t.Name:=by
      rw[show uC k 47=sp 47 k from YO k 47,e',gL hc];rfl
     unfold gZ eE at hE
     rw[hf]at hE
     have hne:(t.Name==(t.Name++([46]:uA))++n)=false:=by
      cases hq:(t.Name==(t.Name++([46]:uA))++n)
      ·rfl
      ·have:=congrArg List.length (eq_of_beq hq)
       simp only[lN]at this
       omega
     rw[hne]at hE
     revert hE
     cases decide (((uC k 47).length:Int)=3)<;>intro hE<;>cases hE
   rw[this]
   cases jF t (DO y)<;>rfl
  ·rfl
 rw[h2];rfl
theorem gY{t:dB}{k:uA}(hk:∀y:jA,y.Key=k→jN t y=false)(x:List jA):(xL x k).filter (jN t)=x.filter (jN t):=by
 unfold xL
 rw[List.filter_filter]
 refine List.filter_congr fun y _=>?_
 cases hb:y.Key==k
 ·exact Bool.and_true _
 ·rw[hk y (eq_of_beq hb)];rfl
theorem fV{t:dB}:∀(D:List uA) (x:List jA),Up x→(∀k∈D,∀y:jA,y.Key=k→jN t y=false)→(D.foldl xL x).filter (jN t)=x.filter (jN t)∧x.length≤(D.foldl xL x).length+D.length
 | [],_,_,_=>⟨rfl,Nat.le_refl _⟩
 | k::D,x,hu,hk=>by
  obtain⟨h1,h2⟩:=fV D (xL x k) (List.Pairwise.filter _ hu) fun k hk2=>hk k (List.mem_cons_of_mem _ hk2)
  have h3:=zW (k:=k) hu
  refine⟨?_,?_⟩
  ·rw[List.foldl_cons,h1,gY (hk k (List.mem_cons_self ..))]
  ·have h3:x.length≤(xL x k).length+1:=h3
   rw[List.foldl_cons,List.length_cons];omega
theorem XS:∀(D:List uA) (x:List jA),dD x=true→(∀k∈D,nF k=true)→dD (D.foldl xL x)=true
 | [],_,h,_=>h
 | k::D,x,h,hk=>XS D (xL x k) (sP h (hk k (List.mem_cons_self ..))).2 fun k hk2=>hk k (List.mem_cons_of_mem _ hk2)
theorem PU{t:dB}{n:uA}{st:List jA}{f:dE}{m:Int}(h:dF t n st f m=true) :
  UG (rC (UB t n st) st f m).1=true∧(rC (UB t n st) st f m).1.filter (jN t)=st.filter (jN t) ∧
  (rC (UB t n st) st f m).1.length≤st.length∧(st.length:Int)-m≤(((rC (UB t n st) st f m).1.length:Nat):Int)∧jJ (rC (UB t n st) st f m).2.Last f.Last=false:=by
 obtain⟨hi,hr,_,hm⟩:=fK h
 obtain⟨hm1,hm2⟩:=XK hm
 obtain⟨b,rfl⟩:∃b:Nat,m=(b:Int):=⟨m.toNat,by omega⟩
 have hr5:dD st=true:=by rw[GI];exact hr
 have hE:TB t n st=lB t n st:=SO hi (TM hr)
 have hk:∀k∈lB t n st,nF k=true:=fun k hk=>by
  have:=eQ (t:=t) (n:=n) hr (KL k) (by rw[bM,hE];exact List.mem_map.2 ⟨k,hk,rfl⟩)
  exact this.1
 have hlen:=TO t n st
 have hst:=xJ hr
 have e1:=LQ hk hr5 f b oM
 have hD:∀k∈((lB t n st).filter fun y=>!(XH y f.Last)).take b,k∈lB t n st∧XH k f.Last=false:=fun k hk=>by
  obtain⟨h1,h2⟩:=List.mem_filter.1 (List.mem_of_mem_take hk)
  refine⟨h1,?_⟩
  cases hb:XH k f.Last
  ·rfl
  ·rw[hb]at h2;cases h2
 obtain⟨h1,h2⟩:=fV (t:=t) (((lB t n st).filter fun y=>!(XH y f.Last)).take b) st ((rJ st).1 hr5).2.2.1 fun k hk y hy=>by
  have:=(hD k hk).1
  rw[bL]at this
  exact kY hi (List.mem_filter.1 this).2 y hy
 have h3:=aT (((lB t n st).filter fun y=>!(XH y f.Last)).take b) st
 have h4:=XS (((lB t n st).filter fun y=>!(XH y f.Last)).take b) st hr5 fun k hq=>hk k (hD k hq).1
 have h5:=List.length_take_le b ((lB t n st).filter fun y=>!(XH y f.Last))
 have e0:UB t n st=(lB t n st).map KL:=by rw[bM,hE];rfl
 rw[e0,e1]
 exact⟨by rw[←GI];exact h4,h1,h3,by dsimp only;omega,RW fun y hy=>(hD y hy).2⟩
theorem DV(a:List jA):PD a a=true:=by
 unfold PD
 rw[decide_eq_true rfl,cond_true]
 rw[iS xA (fun _=>true) (r:=false) fun k=>by unfold mI;simp only[beq_self_eq_true,Bool.and_self]]
 simp
theorem nO{t:dB}(hg:LC t=true){l:List jA}(hr:UG l=true):YD t l=(mB t l,true):=by
 unfold YD
 rw[NG,hg,hr];rfl
theorem IP{t:dB}{n:uA}(hi:cE t n=true){l:List jA}(hr:UG l=true):JF t n l=(vF t n l,true):=by
 unfold JF CF
 rw[hi,hr];rfl
theorem DS(a b:List Int):OB a b=true:=by
 unfold OB
 obtain⟨t,n,st,f,m⟩:=aA a
 obtain⟨t2,n2,st2,f2,m2⟩:=bA b
 dsimp only
 cases decide (1048576<IntKind.wrap .i64 ((a.length:Int)+(b.length:Int)))
 case true=>rfl
 have tail:(bif(aB t2 n2 st2 f2 m2).2.2 then bif(YD t2 st2).2 then bif(YD t2 (aB t2 n2 st2 f2 m2).1).2 then bif JG (YD t2 st2).1 (YD t2 (aB t2 n2 st2 f2 m2).1).1 then bif jJ (aB t2 n2 st2 f2 m2).2.1.Last f2.Last then false else bif decide (IntKind.wrap .i64 ((st2.length:Int)-m2)≤((aB t2 n2 st2 f2 m2).1.length:Int))then decide (((aB t2 n2 st2 f2 m2).1.length:Int)≤(st2.length:Int))else false else false else false else false else true)=true:=by
  unfold aB
  cases h:dF t2 n2 st2 f2 m2
  ·rfl
  ·obtain⟨hi,hr,_,hm⟩:=fK h
   obtain⟨hm1,hm2⟩:=XK hm
   have hst:=xJ hr
   obtain⟨c1,c2,c3,c4,c5⟩:=PU h
   have hg:=zG hi
   simp only[cond_true]
   rw[nO hg hr,nO hg c1,oQ hg c2,YN,c5,RE oM,decide_eq_true c4]
   simp only[cond_true,cond_false]
   exact decide_eq_true oM
 simp only[cond_false]
 rw[←(wT t n st f m).1,←bS,←zN]
 simp only[beq_self_eq_true,DV,cond_true,Bool.and_self]
 unfold OA
 cases h:dF t n st f m
 ·simp only[cond_false]
  exact tail
 ·obtain⟨hi,hr,_,hm⟩:=fK h
  obtain⟨hm1,hm2⟩:=XK hm
  have hst:=xJ hr
  obtain⟨c1,c2,c3,c4,c5,c6⟩:=bW h
  have hg:=zG hi
  simp only[cond_true]
  rw[nO hg hr,nO hg c1,IP hi hr,IP hi c1,oQ hg c2,bU hi c1 hr c2 c3,c6,RE oM]
  simp only[cond_true,cond_false,YN,MQ]
  rw[decide_eq_false oM,cond_false,decide_eq_false oM,cond_false]
  exact tail
end Go.Proofs.YtjgimhdmpcincaaGreatDoor
