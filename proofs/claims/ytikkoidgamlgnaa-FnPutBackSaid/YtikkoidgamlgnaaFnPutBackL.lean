/- Fn Put Back: plain laws of the models. -/
import Derived.Test.YtikkoidgamlgnaaFnPutBackT
set_option linter.unusedVariables false
set_option linter.unusedSimpArgs false
namespace Go.Proofs.Ytikkoidgamlgnaa
open Go.RowKit Go.X
theorem NF(xs:List FA)(f:FA→Bool):iC xs f=xs.any f:=tL f bA xs
theorem bJ:pD=pF:=rfl
theorem ZJ{n lo hi:Int}(h:pF n lo hi=true):lo≤n∧n≤hi:=by
 unfold pF at h
 obtain⟨h1,h2⟩:=AH h
 exact⟨of_decide_eq_true h1,of_decide_eq_true h2⟩
theorem gI{n lo hi:Int}(h:pD n lo hi=true):lo≤n∧n≤hi:=ZJ h
theorem II(l:List UInt8)(c:UInt8):decide (Lib.indexByte l c<0)=!(l.contains c):=by
 induction l with
 | nil=>rfl
 | cons b l ih=>
  have hge:=Lib.indexByte_ge l c
  rw[Bool.eq_iff_iff]at ih ⊢
  simp only[decide_eq_true_eq,Bool.not_eq_true',List.contains_cons]at ih ⊢
  unfold Lib.indexByte
  by_cases hb:b=c
  ·subst hb;simp
  ·have hb1:(b==c)=false:=by simpa using hb
   have hb2:(c==b)=false:=by simpa using fun h=>hb h.symm
   rw[hb1,hb2]
   simp only[Bool.false_or,Bool.false_eq_true,if_false]
   split
   ·rename_i h
    have:Lib.indexByte l c=-1:=by simpa using h
    rw[←ih];omega
   ·rename_i h
    have:Lib.indexByte l c≠-1:=by simpa using h
    constructor
    ·intro h;omega
    ·intro h;have:=ih.2 h;omega
theorem CK(b:UInt8):((b.toNat:Int)).toNat.toUInt8=b:=by simp
theorem sL(s:tB)(b:UInt8):decide (rL s (b.toNat:Int)<0)=!(s.contains b):=by
 unfold rL
 rw[CK,II]
def DG(more:tB)(b:UInt8):Bool:=wB (b.toNat:Int)||more.contains b
theorem LH(s more:tB):tE s more=s.all (DG more):=by
 unfold tE
 rw[MM (0:UInt8) (DG more) (r:=false) fun k=>by
  unfold wC DG jD ZB
  rw[sL]
  cases wB ((s.getD k 0).toNat:Int)<;>cases more.contains (s.getD k 0)<;>rfl]
 cases s.all (DG more)<;>rfl
theorem HL(a b:UInt8):decide ((a.toNat:Int)=(b.toNat:Int))=(a==b):=by
 rw[Bool.eq_iff_iff,decide_eq_true_iff,beq_iff_eq]
 constructor
 ·intro h;exact UInt8.toNat.inj oM
 ·intro h;rw[h]
theorem AN{T:Type}(s more:tB)(k:Nat)(x0:Bool)(fr:Bool→T)(fd:Bool→T):KC (IA (GA s more k) (more.length-0) 0 x0) fr fd=fd (x0||more.contains (s.getD k 0)):=by
 rw[JN (0:UInt8) (fun b=>(s.getD k 0)==b) fun j x=>by
  unfold GA
  rw[HL]
  cases x<;>rfl]
 rw[List.contains_eq_any_beq]
theorem lI(s more:tB):ZC s more=s.all (DG more):=by
 unfold ZC
 rw[MM (0:UInt8) (DG more) (r:=false) fun k=>by
  unfold TA DG wB
  simp only[AN]
  cases decide (97≤((s.getD k 0).toNat:Int))<;>cases decide (((s.getD k 0).toNat:Int)≤122)<;>cases decide (48≤((s.getD k 0).toNat:Int))<;>cases decide (((s.getD k 0).toNat:Int)≤57)<;>cases more.contains (s.getD k 0)<;>rfl]
 cases s.all (DG more)<;>rfl
theorem KJ(s:tB):QE s=lC s:=by
 unfold QE lC
 rw[LH,lI,bJ]
theorem LJ(s:tB):RE s=KE s:=by
 unfold RE KE
 rw[LH,lI]
theorem jJ(l:List FA):vD l=l.map (·.Key):=by
 unfold vD
 rw[BN (body:=zD l) (xs:=l) bA (fun w=>w.Key) fun k x _=>rfl]
 rfl
def wD(ks:List tB)(k:Nat):Bool:=bif decide (0<(k:Int))then SG (ks.getD ((IntKind.wrap .i64 ((k:Int)-1)).toNat) zC) (ks.getD k zC)else true
theorem gH(ks:List tB):mD ks=(List.range ks.length).all fun k=>lC (ks.getD k zC)&&wD ks k:=by
 unfold mD
 rw[VI (fun k=>lC (ks.getD k zC)&&wD ks k) (r:=false) fun k _=>by
  unfold FB wD
  rw[KJ,mM]
  cases lC (ks.getD k zC)<;>cases decide (0<(k:Int))<;>cases SG (ks.getD ((IntKind.wrap .i64 ((k:Int)-1)).toNat) zC) (ks.getD k zC)<;>rfl]
 cases (List.range ks.length).all fun k=>lC (ks.getD k zC)&&wD ks k<;>rfl
theorem AF(l:List FA):uE l=(((List.range l.length).all fun k=>xB ((l.getD k bA).Key) ((l.getD k bA).Val) ((l.getD k bA).Gone)&&wD (l.map (·.Key)) k)&&decide ((l.length:Int)≤24)):=by
 have hg:∀k,(l.map (·.Key)).getD k zC=(l.getD k bA).Key:=by
  intro k
  simp only[List.getD_eq_getElem?_getD,List.getElem?_map]
  cases l[k]? <;> rfl
 unfold uE
 rw[VI (fun k=>xB ((l.getD k bA).Key) ((l.getD k bA).Val) ((l.getD k bA).Gone)&&wD (l.map (·.Key)) k) (r:=false) fun k _=>by
  unfold CG wD
  rw[hg,hg]
  cases xB ((l.getD k bA).Key) ((l.getD k bA).Val) ((l.getD k bA).Gone)<;>cases decide (0<(k:Int))<;>cases SG (l.getD ((IntKind.wrap .i64 ((k:Int)-1)).toNat) bA).Key (l.getD k bA).Key<;>rfl]
 cases ((List.range l.length).all fun k=>xB ((l.getD k bA).Key) ((l.getD k bA).Val) ((l.getD k bA).Gone)&&wD (l.map (·.Key)) k)<;>rfl
theorem tK{α:Type}(l:List α)(p q:α→Bool):(l.all p&&l.all q)=l.all fun x=>p x&&q x:=by
 induction l with
 | nil=>rfl
 | cons x l ih=>
  simp only[List.all_cons,←ih]
  cases p x<;>cases q x<;>cases l.all p<;>rfl
theorem MH(v:tB)(g:Bool):aB v g=(KE v&&(!g||v==([]:tB))):=by
 unfold aB
 rw[LJ]
 cases KE v<;>cases g<;>cases (v==([]:tB))<;>rfl
theorem wG(k v:tB)(g:Bool):xB k v g=(lC k&&aB v g):=by
 rw[MH]
 unfold xB
 cases lC k<;>cases KE v<;>cases g<;>cases (v==([]:tB))<;>rfl
theorem zI(l:List FA):fD l=uE l:=by
 have hg:∀k,(l.map (·.Key)).getD k zC=(l.getD k bA).Key:=by
  intro k
  simp only[List.getD_eq_getElem?_getD,List.getElem?_map]
  cases l[k]? <;> rfl
 unfold fD
 rw[jJ,gH,AF,NF,List.length_map]
 have h1:(!(l.any fun y=>AD y))=(List.range l.length).all fun k=>aB (l.getD k bA).Val (l.getD k bA).Gone:=by
  rw[List.not_any_eq_all_not,←RG bA]
  unfold AD
  simp only[Bool.not_not]
 rw[h1]
 have h2:((List.range l.length).all fun k=>xB ((l.getD k bA).Key) ((l.getD k bA).Val) ((l.getD k bA).Gone)&&wD (l.map (·.Key)) k)=(((List.range l.length).all fun k=>lC ((l.map (·.Key)).getD k zC)&&wD (l.map (·.Key)) k)&&(List.range l.length).all fun k=>aB (l.getD k bA).Val (l.getD k bA).Gone):=by
  rw[tK]
  congr 1;funext k
  rw[wG,hg]
  cases lC (l.getD k bA).Key<;>cases aB (l.getD k bA).Val (l.getD k bA).Gone<;>cases wD (l.map (·.Key)) k<;>rfl
 rw[h2]
 cases decide ((l.length:Int)≤24)<;>cases ((List.range l.length).all fun k=>lC ((l.map (·.Key)).getD k zC)&&wD (l.map (·.Key)) k)<;>cases ((List.range l.length).all fun k=>aB (l.getD k bA).Val (l.getD k bA).Gone)<;>rfl
theorem OG(l:List FA):lE l=(uE l&&l.all fun w=>!w.Gone):=by
 unfold lE
 rw[zI,NF,List.not_any_eq_all_not]
 cases uE l<;>rfl
theorem QG(l:List FA):pH l=lE l:=by
 rw[OG]
 unfold pH
 rw[MM bA (fun w=>!w.Gone) (r:=false) fun k=>by
  unfold eH
  cases (l.getD k bA).Gone<;>rfl]
 cases uE l<;>cases (l.all fun w=>!w.Gone)<;>rfl
theorem PK{s:tB}(h:lC s=true):s.length≤12:=by
 unfold lC at h
 have:=ZJ (AH h).1
 omega
theorem QK{s:tB}(h:KE s=true):s.length≤24:=by
 unfold KE at h
 have:=of_decide_eq_true (AH h).1
 omega
theorem AJ{k v:tB}{g:Bool}(h:xB k v g=true):k.length≤12∧v.length≤24:=by
 rw[wG,MH]at h
 simp only[Bool.and_eq_true]at h
 exact⟨PK h.1,QK h.2.1⟩
theorem aK{l:List FA}(h:uE l=true):l.length≤24∧∀k,k<l.length→(l.getD k bA).Key.length≤12∧(l.getD k bA).Val.length≤24:=by
 rw[AF,Bool.and_eq_true,decide_eq_true_eq]at h
 refine⟨by omega,fun k hk=>?_⟩
 have:=List.all_eq_true.1 h.1 k (List.mem_range.2 hk)
 rw[Bool.and_eq_true]at this
 exact AJ this.1
theorem zJ{l:List FA}(h:lE l=true):uE l=true:=by
 rw[OG,Bool.and_eq_true]at h
 exact h.1
theorem aG(a:Int):0≤IntKind.wrap .i64 (TH .u64 a 255)∧IntKind.wrap .i64 (TH .u64 a 255)≤255:=by
 have:=qL a
 rw[IF oM];exact this
theorem pL{l:List tB}{m:Nat}(h:∀y∈l,y.length≤m)(k:Nat):(l.getD k zC).length≤m:=by
 rcases Nat.lt_or_ge k l.length with hk | hk
 ·exact h _ (jG hk)
 ·rw[List.getD,List.getElem?_eq_none hk];exact Nat.zero_le _
theorem WM(m:Nat)(c:List Int)(s:Int×Int)(l:List tB)(h:∀y∈l,y.length≤m):(kG c s l).1.length≤m:=by
 unfold kG
 exact pL h _
theorem CH{a b c:tB}(h1:SG a b=true)(h2:SG b c=true):SG a c=true:=by
 unfold SG at *
 rw[rG,decide_eq_true_eq]at *
 exact List.lt_trans h1 h2
theorem CN{α β ρ T:Type}{body:Nat→List β→wF ρ (List β)}{fr:ρ→T}{fd:List β→T}{xs:List α}(d:α)(p:α→Bool)(q:α→β){r:ρ}(hb:∀k x,body k x=bif p (xs.getD k d)then .cont (x++[q (xs.getD k d)])else .ret r) :
  KC (IA body (xs.length-0) 0 []) fr fd=bif xs.all p then fd (xs.map q)else fr r:=by
 have key:∀m k (x0:List β),KC (IA body m k x0) fr fd=bif(List.range' k m).all (fun j=>p (xs.getD j d))then fd (x0++(List.range' k m).map fun j=>q (xs.getD j d))else fr r:=by
  intro m
  induction m with
  | zero=>intro k x0;rw[show List.range' k 0=[]from rfl,List.map_nil,List.append_nil];rfl
  | succ m ih=>
   intro k x0
   unfold IA
   rw[hb k x0,List.range'_succ,List.all_cons,List.map_cons]
   cases hp:p (xs.getD k d)
   ·rfl
   ·refine(ih (k+1) (x0++[q (xs.getD k d)])).trans ?_
    rw[Bool.true_and,List.append_assoc];rfl
 rw[Nat.sub_zero,key xs.length 0 [],←List.range_eq_range',RG d p xs,List.nil_append]
 congr 2
 apply List.ext_getElem
 ·simp
 ·intro i h1 h2
  simp only[List.getElem_map,List.getElem_range]
  rw[nD (by simpa using h1)]
def GL(vs:List VA)(k:Nat):Bool:=bif decide (0<(k:Int))then !(decide ((vs.getD k rA).Time≤(vs.getD ((IntKind.wrap .i64 ((k:Int)-1)).toNat) rA).Time))else true
def lG(vs:List VA)(k:Nat):Bool:=BC (vs.getD k rA).Time&&aB (vs.getD k rA).Val (vs.getD k rA).Gone&&GL vs k
theorem xH(c:tA):gD c=((List.range c.Vers.length).all (lG c.Vers)&&pF (c.Vers.length:Int) 1 16):=by
 unfold gD
 rw[VI (lG c.Vers) (r:=false) fun k _=>by
  unfold RB lG GL
  cases BC (c.Vers.getD k rA).Time<;>cases aB (c.Vers.getD k rA).Val (c.Vers.getD k rA).Gone<;>cases decide (0<(k:Int))<;>cases decide ((c.Vers.getD k rA).Time≤(c.Vers.getD ((IntKind.wrap .i64 ((k:Int)-1)).toNat) rA).Time)<;>rfl]
 rw[bJ]
 cases (List.range c.Vers.length).all (lG c.Vers)<;>rfl
theorem zH(c:tA):PB c=(lC c.Key&&gD c):=by
 rw[xH]
 unfold PB
 rw[VI (fun k=>lG c.Vers k&&lC c.Key) (r:=false) fun k _=>by
  unfold SB lG GL
  rw[wG,show qD=BC from rfl]
  cases BC (c.Vers.getD k rA).Time<;>cases lC c.Key<;>cases aB (c.Vers.getD k rA).Val (c.Vers.getD k rA).Gone<;>cases decide (0<(k:Int))<;>cases decide ((c.Vers.getD k rA).Time≤(c.Vers.getD ((IntKind.wrap .i64 ((k:Int)-1)).toNat) rA).Time)<;>rfl]
 cases lC c.Key
 ·cases (List.range c.Vers.length).all (fun k=>lG c.Vers k&&false)<;>rfl
 ·rw[show(fun k=>lG c.Vers k&&true)=lG c.Vers from funext fun k=>Bool.and_true _]
  cases (List.range c.Vers.length).all (lG c.Vers)<;>rfl
theorem eI(l:List tA)(k:Nat):(l.map (·.Key)).getD k zC=(l.getD k iA).Key:=by
 simp only[List.getD_eq_getElem?_getD,List.getElem?_map]
 cases l[k]? <;> rfl
theorem PG(l:List tA):SC l=(((List.range l.length).all fun k=>PB (l.getD k iA)&&wD (l.map (·.Key)) k)&&decide ((l.length:Int)≤24)):=by
 unfold SC
 rw[VI (fun k=>PB (l.getD k iA)&&wD (l.map (·.Key)) k) (r:=false) fun k _=>by
  unfold tC wD
  rw[eI,eI]
  cases PB (l.getD k iA)<;>cases decide (0<(k:Int))<;>cases SG (l.getD ((IntKind.wrap .i64 ((k:Int)-1)).toNat) iA).Key (l.getD k iA).Key<;>rfl]
 cases ((List.range l.length).all fun k=>PB (l.getD k iA)&&wD (l.map (·.Key)) k)<;>rfl
theorem cJ(l:List tA):lD l=SC l:=by
 unfold lD
 rw[CN (body:=HC l) (xs:=l) iA gD (·.Key) (r:=false) fun k x=>rfl]
 rw[gH,PG,List.length_map]
 have h2:((List.range l.length).all fun k=>PB (l.getD k iA)&&wD (l.map (·.Key)) k)=(((List.range l.length).all fun k=>lC ((l.map (·.Key)).getD k zC)&&wD (l.map (·.Key)) k)&&(List.range l.length).all fun k=>gD (l.getD k iA)):=by
  rw[tK]
  congr 1;funext k
  rw[zH,eI]
  cases lC (l.getD k iA).Key<;>cases gD (l.getD k iA)<;>cases wD (l.map (·.Key)) k<;>rfl
 rw[h2,RG iA gD l]
 cases l.all gD<;>cases decide ((l.length:Int)≤24)<;>cases ((List.range l.length).all fun k=>lC ((l.map (·.Key)).getD k zC)&&wD (l.map (·.Key)) k)<;>rfl
def eF(t:Int)(vs:List VA):Bool×Int×tB×Bool:=match vs.reverse.find? (fun v=>decide (v.Time≤t))with
 | some v=>(true,v.Time,v.Val,v.Gone)
 | none=>(false,0,[],false)
theorem mI(c:tA)(t:Int):jC c t=((⟨(eF t c.Vers).2.1,(eF t c.Vers).2.2.1,(eF t c.Vers).2.2.2⟩:VA),(eF t c.Vers).1):=by
 unfold jC
 refine TE (fun k s=>s=eF t (c.Vers.take k)) (fun v=>v=((⟨(eF t c.Vers).2.1,(eF t c.Vers).2.2.1,(eF t c.Vers).2.2.2⟩:VA),(eF t c.Vers).1)) rfl ?_ ?_
 ·intro s hs
  rw[hs,show 0+(c.Vers.length-0)=c.Vers.length by omega,List.take_length]
 ·intro j s _ hj hs
  have hj':j<c.Vers.length:=by omega
  obtain⟨s1,s2,s3,s4⟩:=s
  unfold SD
  rw[nD hj']
  have e:eF t (c.Vers.take (j+1))=bif decide (c.Vers[j].Time≤t)then(true,c.Vers[j].Time,c.Vers[j].Val,c.Vers[j].Gone)else eF t (c.Vers.take j):=by
   unfold eF
   rw[List.take_succ_eq_append_getElem hj',List.reverse_append,List.reverse_singleton,List.singleton_append,List.find?_cons]
   cases decide (c.Vers[j].Time≤t)<;>rfl
  cases hd:decide (c.Vers[j].Time≤t)
  ·show(s1,s2,s3,s4)=_
   rw[e,hd];exact hs
  ·show(true,_,_,_)=_
   rw[e,hd];rfl
theorem fM(vs:List VA):(fI vs.length vs.length).map (fun x=>vs.getD x rA)=vs.reverse:=by
 unfold fI
 apply List.ext_getElem
 ·simp
 ·intro i h1 h2
  have:i<vs.length:=by simpa using h2
  simp only[List.getElem_map,List.getElem_range,List.getElem_reverse]
  rw[nD oM]
theorem IJ(c:tA)(t:Int):qC c t=bif(jC c t).2 then((jC c t).1.Val,!(jC c t).1.Gone)else([],false):=by
 rw[mI]
 have h:c.Vers.reverse.find? (fun v=>decide (v.Time≤t))=((fI c.Vers.length c.Vers.length).find? (fun x=>decide ((c.Vers.getD x rA).Time≤t))).map fun x=>c.Vers.getD x rA:=by
  rw[←fM,List.find?_map];rfl
 unfold qC eF
 rw[h]
 cases (fI c.Vers.length c.Vers.length).find? (fun x=>decide ((c.Vers.getD x rA).Time≤t))<;>rfl
def xE(t:Int)(c:tA):List FA:=bif(jC c t).2 then(bif(jC c t).1.Gone then[]else[⟨c.Key,(jC c t).1.Val,false⟩])else[]
theorem JH(l:List tA)(t:Int):QD l t=(l.map (xE t)).flatten:=by
 unfold QD
 rw[OM (body:=cD l t) (xs:=l) iA (xE t) fun k x _=>by
  unfold cD xE
  rw[IJ]
  cases (jC (l.getD k iA) t).2
  ·exact congrArg wF.cont (List.append_nil x).symm
  ·cases (jC (l.getD k iA) t).1.Gone
   ·rfl
   ·exact congrArg wF.cont (List.append_nil x).symm]
 rfl
theorem yH(l:List tA)(t:Int):GF l t=(l.map (xE t)).flatten:=by
 unfold GF
 rw[OM (body:=kD l t) (xs:=l) iA (xE t) fun k x _=>by
  unfold kD xE
  cases (jC (l.getD k iA) t).2
  ·exact congrArg wF.cont (List.append_nil x).symm
  ·cases (jC (l.getD k iA) t).1.Gone
   ·rfl
   ·exact congrArg wF.cont (List.append_nil x).symm]
 rfl
theorem LI(l:List tA)(t:Int):lB l t=MC l t:=by
 unfold lB MC jB
 rw[cJ,JH,yH,show ZE=bF from rfl]
 cases SC l<;>cases bF t<;>rfl
theorem JJ(l:List tA)(t:Int):(lB l t).1.Rows.length≤l.length:=by
 have h:(l.map (xE t)).flatten.length≤l.length:=by
  induction l with
  | nil=>exact Nat.le_refl _
  | cons x xs ih=>
   rw[List.map_cons,List.flatten_cons,List.length_append,List.length_cons]
   have:(xE t x).length≤1:=by
    unfold xE
    cases (jC x t).2
    ·exact Nat.zero_le _
    ·cases (jC x t).1.Gone<;>simp
   omega
 unfold lB
 rw[JH]
 cases lD l
 ·exact Nat.zero_le _
 ·cases ZE t
  ·exact Nat.zero_le _
  ·exact h
theorem dK{l:List FA}(h:lE l=true):l.length≤24:=(aK (zJ h)).1
def Up(l:List FA):Prop:=l.Pairwise fun a b=>SG a.Key b.Key=true
theorem Up.lt{l:List FA}(h:Up l){i j:Nat}(hi:i<l.length)(hj:j<l.length)(hij:i<j):SG l[i].Key l[j].Key=true:=List.pairwise_iff_getElem.1 h i j hi hj hij
theorem Up.down{l:List FA}(h:Up l){m:Nat}{k:tB}(hm:m<l.length)(hk:SG l[m].Key k=true):∀j (h:j<l.length),j≤m→SG l[j].Key k=true:=fun j hj hjm=>by
 rcases Nat.lt_or_ge j m with hlt | hge
 ·exact CH (h.lt hj hm hlt) hk
 ·obtain rfl:j=m:=by omega
  exact hk
theorem Up.up{l:List FA}(h:Up l){m:Nat}{k:tB}(hm:m<l.length)(hk:SG l[m].Key k=false):∀j (h:j<l.length),m≤j→SG l[j].Key k=false:=fun j hj hjm=>by
 cases hh:SG l[j].Key k
 ·rfl
 ·rw[h.down hj hh m hm hjm]at hk;cases hk
theorem lM{l:List FA}(h:pH l=true):Up l:=by
 have h1:=zJ (QG l▸h)
 rw[AF,Bool.and_eq_true,List.all_eq_true]at h1
 have h24:l.length≤24:=by have:=of_decide_eq_true h1.2;omega
 have step:∀i (hi:i+1<l.length),SG l[i].Key l[i+1].Key=true:=fun i hi=>by
  have h3:=h1.1 (i+1) (List.mem_range.2 hi)
  rw[Bool.and_eq_true]at h3
  have h4:=h3.2
  unfold wD at h4
  rw[decide_eq_true oM,cond_true,IF oM,show(((i+1:Nat):Int)-1).toNat=i by omega,nD (by rw[List.length_map];omega),nD (by rw[List.length_map];exact hi),List.getElem_map,List.getElem_map]at h4
  exact h4
 have all:∀d i (hj:i+d+1<l.length),SG l[i].Key l[i+d+1].Key=true:=by
  intro d
  induction d with
  | zero=>exact fun i hj=>step i hj
  | succ d ih=>exact fun i hj=>CH (ih i oM) (step (i+d+1) oM)
 refine List.pairwise_iff_getElem.2 fun i j hi hj hij=>?_
 obtain⟨d,rfl⟩:∃d,j=i+d+1:=⟨j-i-1,by omega⟩
 exact all d i hj
theorem FL(l:List FA):pH l=true↔(∀y∈l,xB y.Key y.Val y.Gone=true)∧(∀y∈l,y.Gone=false)∧Up l∧l.length≤24:=by
 constructor
 ·intro h
  have hu:=lM h
  rw[QG,OG,Bool.and_eq_true,AF,Bool.and_eq_true,List.all_eq_true,List.all_eq_true]at h
  refine⟨fun y hy=>?_,fun y hy=>by simpa using h.2 y hy,hu,by have:=of_decide_eq_true h.1.2;omega⟩
  obtain⟨j,hj,rfl⟩:=List.mem_iff_getElem.1 hy
  have h1:=h.1.1 j (List.mem_range.2 hj)
  rw[Bool.and_eq_true,nD hj]at h1
  exact h1.1
 ·rintro⟨h1,h2,hu,h4⟩
  rw[QG,OG,Bool.and_eq_true,AF,Bool.and_eq_true,List.all_eq_true,List.all_eq_true]
  refine⟨⟨fun j hj=>?_,decide_eq_true oM⟩,fun y hy=>by rw[h2 y hy];rfl⟩
  have hj:=List.mem_range.1 hj
  rw[Bool.and_eq_true,nD hj]
  refine⟨h1 _ (List.getElem_mem hj),?_⟩
  unfold wD
  by_cases h0:0<j
  ·rw[decide_eq_true oM,cond_true,IF oM,nD (by rw[List.length_map];omega),nD (by rw[List.length_map];exact hj),List.getElem_map,List.getElem_map]
   exact hu.lt _ _ oM
  ·rw[decide_eq_false oM];rfl
theorem MJ{α β:Type}(d:α)(f:α→β)(l:List α){body:Nat→List β→wF (List β) (List β)}(hb:∀k x,body k x=.cont (x++[f (l.getD k d)])):KC (IA body (l.length-0) 0 []) (fun r=>r) (fun x=>x)=l.map f:=by
 refine TE (fun k (x:List β)=>x=(l.take k).map f) (fun v=>v=l.map f) rfl (fun s hs=>by rw[hs,List.take_of_length_le oM]) (fun j s _ hj hs=>?_)
 have hj':j<l.length:=by omega
 rw[hb]
 show s++[f (l.getD j d)]=_
 rw[List.take_succ_eq_append_getElem hj',List.map_append,←hs,←nD (d:=d) hj'];rfl
theorem AL(l:List tA):fE l=l:=by
 unfold fE
 rw[MJ (body:=NE l) iA (fun c=>(⟨c.Key,c.Vers⟩:tA)) l fun k x=>rfl]
 exact List.map_id l
theorem jM(l:List tA):(fE l).length=l.length:=by rw[AL]
theorem gL(l:List tA)(k:tB):-1≤BD l k∧BD l k<(l.length:Int):=by
 unfold BD
 refine TE (fun _ (_:Unit)=>True) (fun(v:Int)=>-1≤v∧v<(l.length:Int)) trivial (fun _ _=>⟨by decide,by omega⟩) ?_
 intro j s _ hj _
 unfold ZD
 cases ((l.getD j iA).Key==k)
 ·trivial
 ·exact⟨by omega,by omega⟩
def PC(m:Nat)(l:List tA):Prop:=l.length≤m∧∀y∈l,0<y.Vers.length∧y.Vers.length≤m
theorem PC.at{m:Nat}{l:List tA}(h:PC m l){i:Nat}(hi:i<l.length):0<(l.getD i iA).Vers.length∧(l.getD i iA).Vers.length≤m:=h.2 _ (jG hi)
theorem PC.own{m:Nat}{l:List tA}(h:PC m l):PC m (fE l):=by rw[AL];exact h
theorem PC.mono{m n:Nat}{l:List tA}(h:PC m l)(hn:m≤n):PC n l:=⟨Nat.le_trans h.1 hn,fun y hy=>⟨(h.2 y hy).1,Nat.le_trans (h.2 y hy).2 hn⟩⟩
theorem PC.nil(m:Nat):PC m []:=⟨Nat.zero_le _,fun _ h=>by cases h⟩
theorem PC.put{m:Nat}{l:List tA}(h:PC m l){i:Nat}(hi:i<l.length){k:tB}{v:VA}:PC (m+1) (l.set i (⟨k,(l.getD i iA).Vers++([v]:List VA)⟩:tA)):=by
 refine⟨by rw[List.length_set];exact Nat.le_succ_of_le h.1,fun y hy=>?_⟩
 rcases List.mem_or_eq_of_mem_set hy with hy | rfl
 ·exact⟨(h.2 y hy).1,Nat.le_succ_of_le (h.2 y hy).2⟩
 ·have:=h.at hi
  show 0<((l.getD i iA).Vers++[v]).length∧((l.getD i iA).Vers++[v]).length≤m+1
  rw[List.length_append,List.length_singleton];omega
theorem PC.ins{m:Nat}{l:List tA}(h:PC m l)(i:Nat){k:tB}{v:VA}:PC (m+1) (((l.take i)++([(⟨k,([v]:List VA)⟩:tA)]:List tA))++(l.drop i)):=by
 refine⟨by have:=h.1;simp only[List.length_append,List.length_take,List.length_drop,List.length_cons,List.length_nil];omega,fun y hy=>?_⟩
 rcases List.mem_append.1 hy with hy | hy
 ·rcases List.mem_append.1 hy with hy | hy
  ·have:=h.2 y (List.mem_of_mem_take hy);exact⟨this.1,by omega⟩
  ·rw[List.mem_singleton.1 hy];exact⟨Nat.succ_pos 0,Nat.succ_le_succ (Nat.zero_le _)⟩
 ·have:=h.2 y (List.mem_of_mem_drop hy);exact⟨this.1,by omega⟩
def iK(w:List FA)(t:Int)(j:Nat)(x:List tA)(k:Int):wF ((List tA)×Bool) (List tA):=
 bif decide (0<k)then bif((x.getD ((IntKind.wrap .i64 (k-1)).toNat) iA).Key)==((w.getD j bA).Key)then bif decide (t≤qF x (w.getD j bA).Key)then wF.ret (([]:List tA),false)else .cont (x.set ((IntKind.wrap .i64 (k-1)).toNat) (⟨(x.getD ((IntKind.wrap .i64 (k-1)).toNat) iA).Key,((x.getD ((IntKind.wrap .i64 (k-1)).toNat) iA).Vers++([(⟨t,(w.getD j bA).Val,(w.getD j bA).Gone⟩:VA)]:List VA))⟩:tA))else .cont (((x.take ((k).toNat))++([(⟨(w.getD j bA).Key,([(⟨t,(w.getD j bA).Val,(w.getD j bA).Gone⟩:VA)]:List VA)⟩:tA)]:List tA))++(x.drop ((k).toNat)))else .cont (((x.take ((k).toNat))++([(⟨(w.getD j bA).Key,([(⟨t,(w.getD j bA).Val,(w.getD j bA).Gone⟩:VA)]:List VA)⟩:tA)]:List tA))++(x.drop ((k).toNat)))
def gM(a b:Nat):wF ((List tA)×Bool) (List tA)→Prop
 | .ret r=>PC a r.1
 | .brk s'=>PC a s'
 | .cont s'=>PC b s'
theorem yK{w:List FA}{t:Int}{j m:Nat}{x:List tA}(hx:PC m x){k:Int}(hk:0≤k∧k≤(x.length:Int))(hm:x.length≤1000000)(a:Nat):gM a (m+1) (iK w t j x k):=by
 unfold iK
 cases hd:decide (0<k)
 ·exact hx.ins _
 ·have hk0:=of_decide_eq_true hd
  have hw:IntKind.wrap .i64 (k-1)=k-1:=IF oM
  rw[hw]
  simp only[cond_true]
  cases ((x.getD ((k-1).toNat) iA).Key)==((w.getD j bA).Key)
  ·exact hx.ins _
  ·cases decide (t≤qF x (w.getD j bA).Key)
   ·exact hx.put oM
   ·exact PC.nil _
theorem kM{m:Nat}{l:List tA}(h:PC m l)(w:List FA)(t:Int)(hm:m+w.length≤1000000):PC (m+w.length) (WD l w t).1:=by
 unfold WD
 refine TE (fun j (x:List tA)=>PC (m+j) x) (fun(v:List tA×Bool)=>PC (m+w.length) v.1) (h.own) (fun s hs=>by rw[Nat.zero_add,Nat.sub_zero]at hs;exact hs) ?_
 intro j x _ hj hx
 have hxl:=hx.1
 have key:gM (m+w.length) (m+j+1) (EC l w t j x):=by
  show gM (m+w.length) (m+j+1) (KC (MD (VC l w t j x) ((((x.length:Int)).toNat)+1) ((x.length:Int))) (fun r=>wF.ret r) (iK w t j x))
  refine WI (fun(k:Int)=>0≤k∧k≤(x.length:Int)) (fun k=>k.toNat) (gM (m+w.length) (m+j+1)) ?_ _ _ ⟨by omega,by omega⟩ oM
  intro k hk
  unfold VC
  dsimp only
  cases hd:decide (0<k)
  ·exact yK hx hk oM _
  ·cases XK ((x.getD ((IntKind.wrap .i64 (k-1)).toNat) iA).Key) ((w.getD j bA).Key)
   ·have hk0:=of_decide_eq_true hd
    have hw:IntKind.wrap .i64 (k-1)=k-1:=IF oM
    show(0≤IntKind.wrap .i64 (k-1)∧IntKind.wrap .i64 (k-1)≤(x.length:Int))∧(IntKind.wrap .i64 (k-1)).toNat<k.toNat
    rw[hw]
    omega
   ·exact yK hx hk oM _
 revert key
 cases EC l w t j x<;>exact fun h=>h
theorem yD{n:Int}{l:List tA}(h:PC (100*(5-n).toNat) l)(hn:0<n∧n≤5){w:List FA}(hw:w.length≤8)(t:Int):PC (100*(5-IntKind.wrap .i64 (n-1)).toNat) (WD l w t).1:=by
 have:=kM h w t oM
 rw[show IntKind.wrap .i64 (n-1)=n-1 from IF oM]
 exact this.mono oM
theorem dD{n:Int}{l:List tA}(h:PC (100*(5-n).toNat) l)(hn:0<n∧n≤5):PC (100*(5-IntKind.wrap .i64 (n-1)).toNat) l:=by
 rw[show IntKind.wrap .i64 (n-1)=n-1 from IF oM]
 exact h.mono oM
theorem WJ(l:List tA)(t:Int):(MC l t).1.Rows.length≤24:=by
 have h:=JJ l t
 rw[LI]at h
 unfold MC jB at *
 cases hg:SC l
 ·exact Nat.zero_le _
 ·rw[hg]at h
  rw[PG,Bool.and_eq_true]at hg
  have:=of_decide_eq_true hg.2
  dsimp only[cond_true]at h ⊢
  omega
theorem RM{p:List Int}(h:MG p=false):p.length≤65536:=by
 unfold MG at h
 have:=of_decide_eq_false h
 omega
theorem uI(l:List FA):JE l l=true:=by
 unfold JE
 rw[decide_eq_true rfl,cond_true]
 refine TE (fun _ _=>True) (fun v=>v=true) trivial (fun _ _=>rfl) ?_
 intro j x _ hj _
 unfold CD
 simp only[beq_self_eq_true,Bool.and_self,cond_true]
def dN(ks:List tB):Prop:=ks.Pairwise fun a b=>SG a b=true
theorem VK{ks:List tB}(hl:ks.length≤1000)(h:∀k,k<ks.length→wD ks k=true):dN ks:=by
 have step:∀i (hi:i+1<ks.length),SG ks[i] ks[i+1]=true:=fun i hi=>by
  have h4:=h (i+1) hi
  unfold wD at h4
  rw[decide_eq_true oM,cond_true,IF oM,show(((i+1:Nat):Int)-1).toNat=i by omega,nD oM,nD hi]at h4
  exact h4
 have all:∀d i (hj:i+d+1<ks.length),SG ks[i] ks[i+d+1]=true:=by
  intro d
  induction d with
  | zero=>exact fun i hj=>step i hj
  | succ d ih=>exact fun i hj=>CH (ih i oM) (step (i+d+1) oM)
 refine List.pairwise_iff_getElem.2 fun i j hi hj hij=>?_
 obtain⟨d,rfl⟩:∃d,j=i+d+1:=⟨j-i-1,by omega⟩
 exact all d i hj
theorem UK{ks:List tB}(hl:ks.length≤1000)(h:dN ks)(k:Nat)(hk:k<ks.length):wD ks k=true:=by
 unfold wD
 by_cases h0:0<k
 ·rw[decide_eq_true oM,cond_true,IF oM,nD oM,nD hk]
  exact List.pairwise_iff_getElem.1 h _ _ oM hk oM
 ·rw[decide_eq_false oM,cond_false]
theorem IH(t:Int)(c:tA):xE t c=[]∨∃v∈c.Vers,v.Time≤t∧v.Gone=false∧xE t c=[⟨c.Key,v.Val,false⟩]:=by
 unfold xE
 rw[mI]
 unfold eF
 cases h:c.Vers.reverse.find? (fun v=>decide (v.Time≤t))with
 | none=>exact .inl rfl
 | some v=>
  have hm:=List.mem_reverse.1 (List.mem_of_find?_eq_some h)
  have hp:=of_decide_eq_true (@List.find?_some _ (fun v:VA=>decide (v.Time≤t)) _ _ h)
  dsimp only[cond_true]
  cases hg:v.Gone
  ·exact .inr ⟨v,hm,hp,hg,rfl⟩
  ·exact .inl rfl
def pG(t:Int)(w:FA):tA:=⟨w.Key,[⟨t,w.Val,false⟩]⟩
theorem gJ{t u:Int}(h:t≤u){w:FA}(hw:w.Gone=false):xE u (pG t w)=[w]:=by
 unfold xE
 rw[mI]
 unfold eF pG
 have hf:([⟨t,w.Val,false⟩]:List VA).reverse.find? (fun v=>decide (v.Time≤u))=some ⟨t,w.Val,false⟩:=by simp[h]
 rw[hf]
 obtain⟨k,v,g⟩:=w
 obtain rfl:g=false:=hw
 rfl
theorem KH{t u:Int}(h:t≤u):∀{r:List FA},(∀w∈r,w.Gone=false)→((r.map (pG t)).map (xE u)).flatten=r
 | [],_=>rfl
 | w::r,hw=>by
  rw[List.map_cons,List.map_cons,List.flatten_cons,gJ h (hw w (by simp)),KH h fun x hx=>hw x (by simp[hx])]
  rfl
theorem kH(t:Int):∀(l:List tA),(((l.map (xE t)).flatten).map (·.Key)).Sublist (l.map (·.Key))
 | []=>List.Sublist.refl _
 | c::l=>by
  rw[List.map_cons,List.flatten_cons,List.map_append,List.map_cons]
  rcases IH t c with h | ⟨v,_,_,_,h⟩
  ·rw[h];exact List.Sublist.cons _ (kH t l)
  ·rw[h];exact List.Sublist.cons_cons _ (kH t l)
theorem bK{l:List tA}(h:SC l=true):(∀c∈l,PB c=true)∧dN (l.map (·.Key))∧l.length≤24:=by
 rw[PG,Bool.and_eq_true,List.all_eq_true]at h
 have hl:l.length≤24:=by have:=of_decide_eq_true h.2;omega
 refine⟨fun c hc=>?_,VK (by rw[List.length_map];omega) fun k hk=>?_,hl⟩
 ·obtain⟨k,hk,rfl⟩:=List.getElem_of_mem hc
  have h1:=h.1 k (List.mem_range.2 hk)
  rw[Bool.and_eq_true,nD hk]at h1
  exact h1.1
 ·rw[List.length_map]at hk
  have h1:=h.1 k (List.mem_range.2 hk)
  rw[Bool.and_eq_true]at h1
  exact h1.2
theorem lL{c:tA}(h:PB c=true){v:VA}(hv:v∈c.Vers):lC c.Key=true∧BC v.Time=true∧aB v.Val v.Gone=true:=by
 rw[zH,Bool.and_eq_true,xH,Bool.and_eq_true,List.all_eq_true]at h
 obtain⟨k,hk,rfl⟩:=List.getElem_of_mem hv
 have h1:=h.2.1 k (List.mem_range.2 hk)
 unfold lG at h1
 rw[Bool.and_eq_true,Bool.and_eq_true,nD hk]at h1
 exact⟨h.1,h1.1.1,h1.1.2⟩
theorem VJ{l:List tA}(h:SC l=true)(t:Int):lE ((l.map (xE t)).flatten)=true∧(∀w∈(l.map (xE t)).flatten,lC w.Key=true∧aB w.Val false=true∧w.Gone=false∧1≤t)∧dN (((l.map (xE t)).flatten).map (·.Key))∧((l.map (xE t)).flatten).length≤24:=by
 obtain⟨h1,h2,h3⟩:=bK h
 have hp:dN (((l.map (xE t)).flatten).map (·.Key)):=List.Pairwise.sublist (kH t l) h2
 have hlen:((l.map (xE t)).flatten).length≤24:=by
  have:=(kH t l).length_le
  rw[List.length_map,List.length_map]at this
  omega
 have he:∀w∈(l.map (xE t)).flatten,lC w.Key=true∧aB w.Val false=true∧w.Gone=false∧1≤t:=by
  intro w hw
  obtain⟨x,hx,hw⟩:=List.mem_flatten.1 hw
  obtain⟨c,hc,rfl⟩:=List.mem_map.1 hx
  rcases IH t c with e | ⟨v,hv,ht,hg,e⟩
  ·rw[e]at hw;cases hw
  ·rw[e]at hw
   obtain rfl:=List.mem_singleton.1 hw
   obtain⟨a1,a2,a3⟩:=lL (h1 c hc) hv
   rw[hg]at a3
   refine⟨a1,a3,rfl,?_⟩
   have:=gI (show pD v.Time 1 100000=true from a2)
   omega
 refine⟨?_,he,hp,hlen⟩
 rw[←QG]
 refine(FL _).2 ⟨fun y hy=>?_,fun y hy=>(he y hy).2.2.1,List.pairwise_map.1 hp,hlen⟩
 obtain⟨b1,b2,b3,_⟩:=he y hy
 rw[wG,b3,b1,b2];rfl
theorem CJ(c:iE)(h:eD c=true):VB c=(c.Rows.map (pG c.Time),true):=by
 unfold VB
 rw[h,cond_true,OM (body:=YD c) (xs:=c.Rows) bA (fun w=>[pG c.Time w]) fun k x _=>rfl,List.nil_append]
 congr 1
 induction c.Rows with
 | nil=>rfl
 | cons w r ih=>rw[List.map_cons,List.flatten_cons,List.map_cons,ih];rfl
theorem dJ{t:Int}(ht:0≤t∧t≤100000){r:List FA}(h:∀w∈r,lC w.Key=true∧aB w.Val false=true∧w.Gone=false∧1≤t)(hp:dN (r.map (·.Key)))(hl:r.length≤24):SC (r.map (pG t))=true:=by
 have hk:(r.map (pG t)).map (·.Key)=r.map (·.Key):=by rw[List.map_map];rfl
 rw[PG,hk,Bool.and_eq_true,List.all_eq_true,List.length_map]
 refine⟨fun k hk=>?_,decide_eq_true oM⟩
 have hk:=List.mem_range.1 hk
 rw[Bool.and_eq_true]
 refine⟨?_,UK (by rw[List.length_map];omega) hp k (by rw[List.length_map];exact hk)⟩
 rw[nD (by rw[List.length_map];exact hk),List.getElem_map]
 obtain⟨a1,a2,a3,a4⟩:=h r[k] (List.getElem_mem hk)
 rw[zH,Bool.and_eq_true]
 refine⟨a1,?_⟩
 rw[xH,Bool.and_eq_true]
 have hT:BC t=true:=by
  show pD t 1 100000=true
  unfold pD
  rw[decide_eq_true oM,cond_true,decide_eq_true oM]
 refine⟨?_,rfl⟩
 show((lG [⟨t,r[k].Val,false⟩] 0)&&true)=true
 unfold lG
 show((BC t&&aB r[k].Val false&&true)&&true)=true
 rw[hT,a2]
 rfl
theorem tI(c:iE):mF c c=true:=by
 unfold mF
 rw[decide_eq_true rfl,cond_true]
 exact uI _
theorem qI(p:List Int):pB p=true:=by
 unfold pB
 generalize (dA p).1=l
 generalize (dA p).2=t
 cases MG p
 case true=>rfl
 rw[LI]
 simp only[beq_self_eq_true,tI,cond_true,cond_false]
 unfold MC
 cases hs:(jB l t).2
 ·dsimp only[cond_false];exact tI _
 ·dsimp only[cond_true]
  have hg:SC l=true:=by
   unfold jB at hs
   cases h:SC l
   ·rw[h]at hs;cases hs
   ·rfl
  have ht:bF t=true:=by
   unfold jB at hs
   rw[hg,cond_true]at hs
   cases h:bF t
   ·rw[h]at hs;cases hs
   ·rfl
  have htr:=gI (show pD t 0 100000=true from ht)
  have hrows:(jB l t).1=(l.map (xE t)).flatten:=by
   unfold jB
   rw[hg,ht,yH];rfl
  rw[hrows]
  obtain⟨h1,h2,h3,h4⟩:=VJ hg t
  generalize (l.map (xE t)).flatten=r at *
  have hcopy:eD (⟨t,r⟩:iE)=true:=by
   unfold eD
   dsimp only
   rw[show ZE t=true from ht,h1]
   dsimp only[cond_true]
   cases hd:decide (0<t)
   ·have:=of_decide_eq_false hd
    cases r with
    | nil=>rfl
    | cons w r=>have:=(h2 w (by simp)).2.2.2;omega
   ·rfl
  rw[CJ _ hcopy]
  dsimp only[cond_true]
  have hgc:=dJ ⟨htr.1,htr.2⟩ h2 h3 h4
  have hat:∀u,t≤u→u≤100000→jB (r.map (pG t)) u=(r,true):=by
   intro u hu hu2
   unfold jB
   rw[hgc,cond_true]
   have:bF u=true:=by
    show pD u 0 100000=true
    unfold pD
    rw[decide_eq_true oM,cond_true,decide_eq_true oM]
   rw[this,cond_true,yH,KH hu fun w hw=>(h2 w hw).2.2.1]
  rw[hat t (Int.le_refl _) htr.2,hat 100000 htr.2 (Int.le_refl _)]
  have hGC:hF (r.map (pG t))=true:=hgc
  rw[hGC]
  dsimp only[cond_true]
  rw[uI]
  rfl
end Go.Proofs.Ytikkoidgamlgnaa
