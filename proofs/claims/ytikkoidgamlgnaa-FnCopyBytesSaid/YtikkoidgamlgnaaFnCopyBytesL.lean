/- Fn Copy Bytes: plain laws of the models. -/
import Derived.Test.YtikkoidgamlgnaaFnCopyBytesT
set_option linter.unusedVariables false
set_option linter.unusedSimpArgs false
namespace Go.Proofs.Ytikkoidgamlgnaa
open Go.RowKit Go.X
theorem AG(xs:List LA)(f:LA→Bool):DC xs f=xs.any f:=xN f aA xs
theorem VI:cE=tF:=rfl
theorem EK{n lo hi:Int}(h:tF n lo hi=true):lo≤n∧n≤hi:=by
 unfold tF at h
 obtain⟨h1,h2⟩:=YF h
 exact⟨of_decide_eq_true h1,of_decide_eq_true h2⟩
theorem BJ{n lo hi:Int}(h:cE n lo hi=true):lo≤n∧n≤hi:=EK h
theorem ZJ(l:List UInt8)(c:UInt8):decide (Lib.indexByte l c<0)=!(l.contains c):=by
 induction l with
 | nil=>rfl
 | cons b l ih=>
  have hge:=Lib.indexByte_ge l c
  rw[Bool.eq_iff_iff]at ih ⊢
  simp only[decide_eq_true_eq,Bool.not_eq_true',List.contains_cons]at ih ⊢
  unfold Lib.indexByte
  by_cases hb:b=c
  ·subst hb;simp
  ·have hb1:(b==c)=false:=by simpa using hb
   have hb2:(c==b)=false:=by simpa using fun h=>hb h.symm
   rw[hb1,hb2]
   simp only[Bool.false_or,Bool.false_eq_true,if_false]
   split
   ·rename_i h
    have:Lib.indexByte l c=-1:=by simpa using h
    rw[←ih];omega
   ·rename_i h
    have:Lib.indexByte l c≠-1:=by simpa using h
    constructor
    ·intro h;omega
    ·intro h;have:=ih.2 h;omega
theorem byte_back(b:UInt8):((b.toNat:Int)).toNat.toUInt8=b:=by simp
theorem wN(s:YA)(b:UInt8):decide (vN s (b.toNat:Int)<0)=!(s.contains b):=by
 unfold vN
 rw[byte_back,ZJ]
def xH(more:YA)(b:UInt8):Bool:=SB (b.toNat:Int)||more.contains b
theorem cJ(s more:YA):cF s more=s.all (xH more):=by
 unfold cF
 rw[YO (0:UInt8) (xH more) (r:=false) fun k=>by
  unfold TC xH MD AC
  rw[wN]
  cases SB ((s.getD k 0).toNat:Int)<;>cases more.contains (s.getD k 0)<;>rfl]
 cases s.all (xH more)<;>rfl
theorem RN(a b:UInt8):decide ((a.toNat:Int)=(b.toNat:Int))=(a==b):=by
 rw[Bool.eq_iff_iff,decide_eq_true_iff,beq_iff_eq]
 constructor
 ·intro h;exact UInt8.toNat.inj oM
 ·intro h;rw[h]
theorem JP{T:Type}(s more:YA)(k:Nat)(x0:Bool)(fr:Bool→T)(fd:Bool→T):JC (NA (OA s more k) (more.length-0) 0 x0) fr fd=fd (x0||more.contains (s.getD k 0)):=by
 rw[TP (0:UInt8) (fun b=>(s.getD k 0)==b) fun j x=>by
  unfold OA
  rw[RN]
  cases x<;>rfl]
 rw[List.contains_eq_any_beq]
theorem EJ(s more:YA):CD s more=s.all (xH more):=by
 unfold CD
 rw[YO (0:UInt8) (xH more) (r:=false) fun k=>by
  unfold eB xH SB
  simp only[JP]
  cases decide (97≤((s.getD k 0).toNat:Int))<;>cases decide (((s.getD k 0).toNat:Int)≤122)<;>cases decide (48≤((s.getD k 0).toNat:Int))<;>cases decide (((s.getD k 0).toNat:Int)≤57)<;>cases more.contains (s.getD k 0)<;>rfl]
 cases s.all (xH more)<;>rfl
theorem xL(s:YA):xF s=dD s:=by
 unfold xF dD
 rw[cJ,EJ,VI]
theorem zL(s:YA):yF s=nF s:=by
 unfold yF nF
 rw[cJ,EJ]
theorem LK(l:List LA):dE l=l.map (·.Key):=by
 unfold dE
 rw[KP (body:=kE l) (xs:=l) aA (fun w=>w.Key) fun k x _=>rfl]
 rfl
def VE(ks:List YA)(k:Nat):Bool:=bif decide (0<(k:Int))then PJ (ks.getD ((IntKind.wrap .i64 ((k:Int)-1)).toNat) XC) (ks.getD k XC)else true
theorem lI(ks:List YA):QD ks=(List.range ks.length).all fun k=>dD (ks.getD k XC)&&VE ks k:=by
 unfold QD
 rw[tK (fun k=>dD (ks.getD k XC)&&VE ks k) (r:=false) fun k _=>by
  unfold eC VE
  rw[xL,xO]
  cases dD (ks.getD k XC)<;>cases decide (0<(k:Int))<;>cases PJ (ks.getD ((IntKind.wrap .i64 ((k:Int)-1)).toNat) XC) (ks.getD k XC)<;>rfl]
 cases (List.range ks.length).all fun k=>dD (ks.getD k XC)&&VE ks k<;>rfl
theorem eJ(l:List LA):lD l=(((List.range l.length).all fun k=>rB ((l.getD k aA).Key) ((l.getD k aA).Val) ((l.getD k aA).Gone)&&VE (l.map (·.Key)) k)&&decide ((l.length:Int)≤24)):=by
 have hg:∀k,(l.map (·.Key)).getD k XC=(l.getD k aA).Key:=by
  intro k
  simp only[List.getD_eq_getElem?_getD,List.getElem?_map]
  cases l[k]? <;> rfl
 unfold lD
 rw[tK (fun k=>rB ((l.getD k aA).Key) ((l.getD k aA).Val) ((l.getD k aA).Gone)&&VE (l.map (·.Key)) k) (r:=false) fun k _=>by
  unfold nC VE
  rw[hg,hg]
  cases rB ((l.getD k aA).Key) ((l.getD k aA).Val) ((l.getD k aA).Gone)<;>cases decide (0<(k:Int))<;>cases PJ (l.getD ((IntKind.wrap .i64 ((k:Int)-1)).toNat) aA).Key (l.getD k aA).Key<;>rfl]
 cases ((List.range l.length).all fun k=>rB ((l.getD k aA).Key) ((l.getD k aA).Val) ((l.getD k aA).Gone)&&VE (l.map (·.Key)) k)<;>rfl
theorem gM{α:Type}(l:List α)(p q:α→Bool):(l.all p&&l.all q)=l.all fun x=>p x&&q x:=by
 induction l with
 | nil=>rfl
 | cons x l ih=>
  simp only[List.all_cons,←ih]
  cases p x<;>cases q x<;>cases l.all p<;>rfl
theorem dJ(v:YA)(g:Bool):PC v g=(nF v&&(!g||v==([]:YA))):=by
 unfold PC
 rw[zL]
 cases nF v<;>cases g<;>cases (v==([]:YA))<;>rfl
theorem bI(k v:YA)(g:Bool):rB k v g=(dD k&&PC v g):=by
 rw[dJ]
 unfold rB
 cases dD k<;>cases nF v<;>cases g<;>cases (v==([]:YA))<;>rfl
theorem QJ(l:List LA):JD l=lD l:=by
 have hg:∀k,(l.map (·.Key)).getD k XC=(l.getD k aA).Key:=by
  intro k
  simp only[List.getD_eq_getElem?_getD,List.getElem?_map]
  cases l[k]? <;> rfl
 unfold JD
 rw[LK,lI,eJ,AG,List.length_map]
 have h1:(!(l.any fun y=>mE y))=(List.range l.length).all fun k=>PC (l.getD k aA).Val (l.getD k aA).Gone:=by
  rw[List.not_any_eq_all_not,←NH aA]
  unfold mE
  simp only[Bool.not_not]
 rw[h1]
 have h2:((List.range l.length).all fun k=>rB ((l.getD k aA).Key) ((l.getD k aA).Val) ((l.getD k aA).Gone)&&VE (l.map (·.Key)) k)=(((List.range l.length).all fun k=>dD ((l.map (·.Key)).getD k XC)&&VE (l.map (·.Key)) k)&&(List.range l.length).all fun k=>PC (l.getD k aA).Val (l.getD k aA).Gone):=by
  rw[gM]
  congr 1;funext k
  rw[bI,hg]
  cases dD (l.getD k aA).Key<;>cases PC (l.getD k aA).Val (l.getD k aA).Gone<;>cases VE (l.map (·.Key)) k<;>rfl
 rw[h2]
 cases decide ((l.length:Int)≤24)<;>cases ((List.range l.length).all fun k=>dD ((l.map (·.Key)).getD k XC)&&VE (l.map (·.Key)) k)<;>cases ((List.range l.length).all fun k=>PC (l.getD k aA).Val (l.getD k aA).Gone)<;>rfl
theorem MH(l:List LA):pF l=(lD l&&l.all fun w=>!w.Gone):=by
 unfold pF
 rw[QJ,AG,List.not_any_eq_all_not]
 cases lD l<;>rfl
theorem uH(c:TB):LB c=cI c:=by
 unfold LB cI BD qF
 rw[YO aA (fun w=>!w.Gone) (r:=false) fun k=>by
  unfold FD
  cases (c.Rows.getD k aA).Gone<;>rfl]
 rw[MH,VI]
 cases tF c.Time 0 100000<;>cases lD c.Rows<;>cases (c.Rows.all fun w=>!w.Gone)<;>rfl
theorem UI(n:Int):IntKind.wrap .u8 n=n % 256:=by
 simp[IntKind.wrap,IntKind.bits,IntKind.signed]
theorem TO{a b:Int}(h:a % 256=b % 256):IntKind.wrap .u8 a=IntKind.wrap .u8 b:=by rw[UI,UI,h]
theorem QL(n m:Int):hC n=VD m:=by
 funext ⟨a,x⟩
 unfold hC VD
 dsimp only
 have:IntKind.wrap .u8 ((IntKind.wrap .u8 (Int.tmod a 128))+128)=IntKind.wrap .u8 (IntKind.wrap .i64 ((Int.tmod a 128)+128)):=by
  simp only[UI,IntKind.wrap_i64];omega
 rw[this]
theorem OG(n:Int):bB n=KC n:=by
 unfold bB KC
 rw[QL n n]
theorem mH(s:YA):cB s=MC s:=by
 unfold cB MC
 rw[OG]
theorem aF(n:Int)(h:0≤n∧n≤1073741824):(bB n).length≤5:=by
 unfold bB
 refine cH (fun(p:Int×List Int)=>0≤p.1∧((p.2.length=0∧p.1≤1073741824)∨(p.2.length=1∧p.1≤8388608)∨(p.2.length=2∧p.1≤65536)∨(p.2.length=3∧p.1≤512)∨(p.2.length=4∧p.1≤4))) (fun(p:Int×List Int)=>p.1.toNat) (fun(v:YA)=>v.length≤5) ?_ _ _ ⟨h.1,.inl ⟨rfl,h.2⟩⟩ (Nat.lt_succ_self _)
 rintro⟨a,x⟩ ⟨h1,h2⟩
 unfold hC
 dsimp only at h1 h2 ⊢
 by_cases h3:128≤a
 ·have h4:=kP (n:=a) (c:=128) (by decide) oM oM
  simp only[decide_eq_true h3,cond_true,CF.sat,lN]
  omega
 ·simp only[decide_eq_false h3,cond_false,CF.sat,mD,lN]
  omega
theorem QI(n:Int)(h:0≤n∧n≤1073741824):(KC n).length≤5:=OG n▸aF n h
theorem UF(s:YA)(h:s.length≤1073741824):(cB s).length≤s.length+5:=by
 have:=aF (s.length:Int) oM
 unfold cB
 rw[List.length_append];omega
theorem HJ(s:YA)(h:s.length≤1073741824):(MC s).length≤s.length+5:=mH s▸UF s h
theorem gG(b:YA):(nE b).length=b.length+3:=by unfold nE;rw[List.length_append,mD];rfl
theorem SM(b:YA):(oG b).length=b.length+3:=by unfold oG BF;rw[List.length_append,mD];rfl
theorem NN(b:YA):QC b=PG b:=rfl
theorem JK(b:YA):0≤QC b∧QC b<16000057:=by
 unfold QC
 refine UE (fun _ (x:Int)=>0≤x∧x<16000057) (fun v=>0≤v∧v<16000057) ⟨by decide,by decide⟩ (fun s h=>h) ?_
 intro j x _ _ hx
 unfold XE
 have h1:0≤((b.getD j 0).toNat:Int)∧((b.getD j 0).toNat:Int)<256:=⟨by omega,by have:=(b.getD j 0).toNat_lt;omega⟩
 dsimp only
 rw[ZB (n:=31*x) oM,ZB (n:=((b.getD j 0).toNat:Int)) oM,ZB (n:=31*x+_) oM,ZB oM]
 exact⟨Int.tmod_nonneg _ oM,Int.tmod_lt_of_pos _ (by decide)⟩
theorem zO(b:YA):nE b=oG b:=by
 unfold nE oG BF
 rw[←NN]
 have h:=JK b
 generalize QC b=n at h
 have t1:Int.tdiv n 65536=n / 65536:=Int.tdiv_eq_ediv_of_nonneg oM
 have t2:Int.tdiv n 256=n / 256:=Int.tdiv_eq_ediv_of_nonneg oM
 have f1:Int.fdiv n 65536=n / 65536:=Int.fdiv_eq_ediv_of_nonneg _ (by decide)
 have f2:Int.fdiv n 256=n / 256:=Int.fdiv_eq_ediv_of_nonneg _ (by decide)
 rw[t1,t2,f1,f2,ZB (n:=n / 65536) oM,ZB (n:=n / 256) oM]
 have m1:Int.tmod (n / 256) 256=(n / 256) % 256:=Int.tmod_eq_emod_of_nonneg oM
 have m2:Int.tmod n 256=n % 256:=Int.tmod_eq_emod_of_nonneg oM
 rw[m1,m2]
 rw[TO (a:=n / 256) (b:=n / 256 % 256) oM,TO (a:=n) (b:=n % 256) oM]
def MI(c:TB):Prop:=∀k,k<c.Rows.length→(c.Rows.getD k aA).Key.length≤12∧(c.Rows.getD k aA).Val.length≤24
theorem NM{s:YA}(h:dD s=true):s.length≤12:=by
 unfold dD at h
 have:=EK (YF h).1
 omega
theorem OM{s:YA}(h:nF s=true):s.length≤24:=by
 unfold nF at h
 have:=of_decide_eq_true (YF h).1
 omega
theorem kL{k v:YA}{g:Bool}(h:rB k v g=true):k.length≤12∧v.length≤24:=by
 rw[bI,dJ]at h
 simp only[Bool.and_eq_true]at h
 exact⟨NM h.1,OM h.2.1⟩
theorem AJ{l:List LA}(h:lD l=true):l.length≤24∧∀k,k<l.length→(l.getD k aA).Key.length≤12∧(l.getD k aA).Val.length≤24:=by
 rw[eJ,Bool.and_eq_true,decide_eq_true_eq]at h
 refine⟨by omega,fun k hk=>?_⟩
 have:=List.all_eq_true.1 h.1 k (List.mem_range.2 hk)
 rw[Bool.and_eq_true]at this
 exact kL this.1
theorem bJ{c:TB}(h:BD c=true):(c.Rows.length≤24∧0≤c.Time∧c.Time≤100000)∧MI c:=by
 have h':LB c=true:=by rw[uH];exact h
 unfold LB qF at h'
 obtain⟨h1,h2⟩:=YF h'
 obtain⟨h2,_⟩:=YF h2
 rw[MH,Bool.and_eq_true]at h2
 have h3:=AJ h2.1
 have h4:=BJ h1
 exact⟨⟨h3.1,h4⟩,h3.2⟩
theorem uI{c:TB}(h:LB c=true):(c.Rows.length≤24∧0≤c.Time∧c.Time≤100000)∧MI c:=bJ (by have:=uH c;rw[h]at this;exact this.symm)
theorem iI(c:TB):CA c=AD c:=by
 unfold CA AD
 rw[uH]
 unfold cI
 cases BD c
 ·rfl
 ·simp only[cond_true]
  unfold gC
  rw[oN (body:=ND c) (xs:=c.Rows) aA (fun w=>cB w.Key++cB w.Val) fun k x _=>rfl,oN (body:=OD c) (xs:=c.Rows) aA (fun w=>cB w.Key++cB w.Val) fun k x _=>by unfold OD;dsimp only;rw[←mH,←mH,List.append_assoc]]
  rw[zO,OG,OG]
theorem yN{l:List LA}(h:pF l=true):lD l=true:=by
 rw[MH,Bool.and_eq_true]at h
 exact h.1
theorem pO{a f m:Int}(h1:0≤a)(h2:a≤127)(h3:0≤f)(h4:f≤m):0≤a*f∧a*f≤127*m:=
 ⟨Int.mul_nonneg h1 h3,Int.le_trans (Int.mul_le_mul_of_nonneg_right h2 h3) (Int.mul_le_mul_of_nonneg_left h4 (by decide))⟩
theorem nK(p:YA){f:Int}(h1:0≤f)(h2:f≤34359738368):0≤IntKind.wrap .i64 ((IntKind.wrap .i64 (Int.tmod ((p.getD 0 0).toNat:Int) 128))*f)∧IntKind.wrap .i64 ((IntKind.wrap .i64 (Int.tmod ((p.getD 0 0).toNat:Int) 128))*f)≤4363686772736:=by
 have h:=Int.tmod_eq_emod_of_nonneg (a:=((p.getD 0 0).toNat:Int)) (b:=128) oM
 have hw:IntKind.wrap .i64 (Int.tmod ((p.getD 0 0).toNat:Int) 128)=((p.getD 0 0).toNat:Int) % 128:=by rw[h];exact ZB oM
 rw[hw]
 have hm:=pO (a:=((p.getD 0 0).toNat:Int) % 128) (f:=f) (m:=34359738368) oM oM h1 h2
 rw[ZB oM];exact⟨hm.1,by omega⟩
theorem fG(b:YA)(s:Int×Bool):(WA b s).1=s.1:=rfl
theorem lH{b:YA}(o:xE b)(s:Int×Bool)(n:Int)(h:0≤s.1∧s.1≤(b.length:Int)∧0≤n∧n≤1073741824) :
  (cA b s n=([],(s.1,true))∧(s.2=true∨(b.length:Int)<s.1+n))∨(cA b s n=((b.drop s.1.toNat).take n.toNat,(s.1+n,false))∧s.2=false∧s.1+n≤(b.length:Int)):=by
 unfold xE at o
 unfold cA WA
 cases h2:s.2 with
 | true=>exact .inl ⟨rfl,.inl rfl⟩
 | false=>
  simp only[cond_false]
  rw[ZB (n:=(b.length:Int)-s.1) oM]
  by_cases h3:(b.length:Int)-s.1<n
  ·rw[decide_eq_true h3];exact .inl ⟨rfl,.inr oM⟩
  ·rw[decide_eq_false h3]
   refine .inr ⟨?_,trivial,by omega⟩
   simp only[cond_false]
   rw[ZB (n:=s.1+n) oM,ZB (n:=s.1+n-n) oM,List.drop_take,show s.1+n-n=s.1 by omega,show(s.1+n).toNat-s.1.toNat=n.toNat by omega]
theorem pJ{b:YA}(o:xE b)(s:Int×Bool)(n:Int)(h:0≤s.1∧s.1≤(b.length:Int)∧0≤n∧n≤1073741824):s.1≤(cA b s n).2.1∧(cA b s n).2.1≤(b.length:Int):=by
 rcases lH o s n h with⟨e,_⟩ | ⟨e,_,h2⟩<;>rw[e]<;>dsimp only<;>omega
theorem rN{b:YA}{s:Int×Bool}{n:Int}(hf:(cA b s n).2.2=false)(o:xE b)(h:0≤s.1∧s.1≤(b.length:Int)∧0≤n∧n≤1073741824):(cA b s n).2.1=s.1+n∧((cA b s n).1.length:Int)=n∧s.1+n≤(b.length:Int):=by
 rcases lH o s n h with⟨e,_⟩ | ⟨e,_,h2⟩<;>rw[e]at hf ⊢
 ·cases hf
 ·dsimp only;rw[List.length_take,List.length_drop];omega
theorem RI{b:YA}(o:xE b)(s:Int×Bool)(h:0≤s.1∧s.1≤(b.length:Int)):s.1≤(dA b s).2.1∧(dA b s).2.1≤(b.length:Int)∧0≤(dA b s).1∧(dA b s).1≤1000000000:=by
 have ho:b.length≤1073741824:=o
 unfold dA
 refine cH (fun(p:Int×Int×Int×Bool)=>s.1≤p.2.2.1∧p.2.2.1≤(b.length:Int)∧0≤p.1∧p.1≤1000000000∧p.2.2.1-s.1≤5∧0≤p.2.1∧((p.2.2.1-s.1=0∧p.2.1=1)∨(p.2.2.1-s.1=1∧p.2.1=128)∨(p.2.2.1-s.1=2∧p.2.1=16384)∨(p.2.2.1-s.1=3∧p.2.1=2097152)∨(p.2.2.1-s.1=4∧p.2.1=268435456)∨(p.2.2.1-s.1=5∧p.2.1=34359738368))) (fun(p:Int×Int×Int×Bool)=>(6-(p.2.2.1-s.1)).toNat) (fun(v:Int×(Int×Bool))=>s.1≤v.2.1∧v.2.1≤(b.length:Int)∧0≤v.1∧v.1≤1000000000) ?_ _ _ ⟨Int.le_refl _,h.2,by dsimp only;omega,by dsimp only;omega,by dsimp only;omega,by dsimp only;omega,.inl ⟨by dsimp only;omega,rfl⟩⟩ (by dsimp only;omega)
 rintro⟨n,f,a,g⟩ hI
 dsimp only at hI
 unfold fB
 dsimp only
 have hr:=pJ o (a,g) 1 ⟨by dsimp only;omega,hI.2.1,by decide,by decide⟩
 dsimp only at hr
 cases ht:(cA b (a,g) 1).2.2 with
 | true=>simp only[cond_true,CF.sat];exact⟨by omega,hr.2,oM,by omega⟩
 | false=>
  have hd:=rN ht o ⟨by dsimp only;omega,hI.2.1,by decide,by decide⟩
  dsimp only at hd
  have hm:=nK (cA b (a,g) 1).1 (f:=f) hI.2.2.2.2.2.1 oM
  simp only[cond_false]
  generalize IntKind.wrap .i64 ((IntKind.wrap .i64 (Int.tmod (((cA b (a,g) 1).1.getD 0 0).toNat:Int) 128))*f)=z at hm
  rw[ZB (n:=n+z) oM,ZB (n:=(cA b (a,g) 1).2.1-s.1) oM]
  by_cases h1:(1000000000:Int)<n+z
  ·simp only[decide_eq_true h1,cond_true,CF.sat,fG];exact⟨by omega,hr.2,oM,by omega⟩
  ·simp only[decide_eq_false h1,cond_false]
   by_cases h2:(5:Int)<(cA b (a,g) 1).2.1-s.1
   ·simp only[decide_eq_true h2,cond_true,CF.sat,fG];exact⟨by omega,hr.2,oM,by omega⟩
   ·simp only[decide_eq_false h2,cond_false]
    cases decide (((((cA b (a,g) 1).1).getD 0 0).toNat:Int)<128)with
    | true=>
     simp only[cond_true,CF.sat]
     cases hq:(bB (n+z))==((b.take ((cA b (a,g) 1).2.1).toNat).drop s.1.toNat)
     ·simp only[cond_false,fG];exact⟨by omega,hr.2,oM,by omega⟩
     ·simp only[cond_true];exact⟨by omega,hr.2,oM,by omega⟩
    | false=>
     simp only[cond_false,CF.sat]
     rw[ZB (n:=f*128) oM]
     refine⟨⟨by omega,hr.2,oM,by omega,oM,by omega,?_⟩,by omega⟩
     omega
theorem nM{b:YA}(o:xE b)(s:Int×Bool)(h:0≤s.1∧s.1≤(b.length:Int)):s.1≤(wA b s).2.1∧(wA b s).2.1≤(b.length:Int):=by
 have hn:=RI o s h
 unfold wA
 by_cases h1:60<(dA b s).1
 ·simp only[decide_eq_true h1,cond_true,fG];omega
 ·simp only[decide_eq_false h1,cond_false]
  have ht:=pJ o (dA b s).2 (dA b s).1 ⟨by omega,oM,by omega,by omega⟩
  omega
def lL:Nat→Nat→YA
 | 0,n=>[n.toUInt8]
 | f+1,n=>if n<128 then[n.toUInt8]else(n % 128+128).toUInt8::lL f (n / 128)
theorem SH(a:Int):∀(f n m:Nat) (x:List Int),n<128 ^ (f+1)→n≤1073741824→n<m→JC (IC (hC a) m ((n:Int),x)) (fun r=>r) (fun(x27,x28)=>TH (x28++([IntKind.wrap .u8 x27]:List Int)))=TH x++lL f n
 | f,n,0,x,_,_,h=>absurd h (Nat.not_lt_zero _)
 | f,n,m+1,x,h,hb,hm=>by
  have hs:∀y:List Int,TH (x++y)=TH x++TH y:=fun y=>List.map_append ..
  by_cases h1:(128:Int)≤(n:Int)
  ·have hf:∃g,f=g+1:=by cases f with | zero=>simp at h;omega | succ g=>exact⟨g,rfl⟩
   obtain⟨g,rfl⟩:=hf
   have hq:IntKind.wrap .i64 (Int.tdiv (n:Int) 128)=((n / 128:Nat):Int):=by
    rw[Int.tdiv_eq_ediv_of_nonneg oM,ZB oM];omega
   have hB:hC a ((n:Int),x)=.cont (((n / 128:Nat):Int),(x++([IntKind.wrap .u8 ((IntKind.wrap .u8 (Int.tmod (n:Int) 128))+128)]:List Int))):=by
    unfold hC;dsimp only;rw[decide_eq_true h1,hq];rfl
   rw[WD hm hB,Nat.add_sub_cancel,SH a g (n / 128) m _ (by rw[Nat.div_lt_iff_lt_mul (by decide)];rw[Nat.pow_succ]at h;exact h) oM oM,hs]
   have hd:TH [IntKind.wrap .u8 ((IntKind.wrap .u8 (Int.tmod (n:Int) 128))+128)]=[(n % 128+128).toUInt8]:=by
    rw[Int.tmod_eq_emod_of_nonneg oM,UI,UI]
    show[UInt8.ofNat _]=[UInt8.ofNat _]
    congr 2;omega
   rw[hd,List.append_assoc]
   congr 1
   show _=lL (g+1) n
   conv=>rhs;unfold lL
   rw[if_neg oM];rfl
  ·have hB:hC a ((n:Int),x)=.brk ((n:Int),x):=by
    unfold hC;dsimp only;rw[decide_eq_false h1];rfl
   rw[bE hm hB]
   show TH (x++[IntKind.wrap .u8 (n:Int)])=_
   rw[hs]
   have hd:TH [IntKind.wrap .u8 (n:Int)]=[n.toUInt8]:=by
    rw[UI]
    show[UInt8.ofNat _]=[UInt8.ofNat _]
    congr 2;omega
   rw[hd]
   congr 1
   cases f with
   | zero=>rfl
   | succ g=>unfold lL;rw[if_pos oM]
theorem fJ{n:Nat}(h:n≤1000000000):bB (n:Int)=lL 4 n:=by
 unfold bB
 rw[SH _ 4 n _ [] oM oM oM];rfl
theorem fP(f n:Nat):0<(lL f n).length:=by
 cases f with
 | zero=>exact Nat.one_pos
 | succ f=>unfold lL;split<;>simp
theorem oK{b:YA}{a:Nat}{c:UInt8}{r:YA}(h:b.drop a=c::r):a<b.length∧b.drop (a+1)=r∧b.getD a 0=c:=by
 have hl:a<b.length:=by
  have:=congrArg List.length h
  rw[List.length_drop,List.length_cons]at this;omega
 rw[List.drop_eq_getElem_cons hl]at h
 injection h with h1 h2
 exact⟨hl,h2,by rw[←h1];simp[List.getD,List.getElem?_eq_getElem hl]⟩
theorem QN{b:YA}(o:xE b){a:Nat}{c:UInt8}{r:YA}(h:b.drop a=c::r):cA b ((a:Int),false) 1=([c],(((a+1:Nat):Int),false)):=by
 have hd:=oK h
 rcases lH o ((a:Int),false) 1 ⟨by dsimp only;omega,by dsimp only;omega,by decide,by decide⟩with⟨_,h2⟩ | ⟨e,_,_⟩
 ·rcases h2 with h2 | h2
  ·cases h2
  ·dsimp only at h2;omega
 ·rw[e];dsimp only
  rw[Int.toNat_natCast,h];rfl
theorem LL{m F:Nat}:m*F=(m % 128)*F+(m / 128)*(F*128):=by
 conv=>lhs;rw[←Nat.div_add_mod m 128]
 rw[Nat.add_mul,Nat.add_comm,Nat.mul_comm 128,Nat.mul_assoc,Nat.mul_comm 128]
theorem qO(f m:Nat):∃c r,lL f m=c::r:=by
 cases h:lL f m with
 | nil=>have:=fP f m;rw[h]at this;cases this
 | cons c r=>exact⟨c,r,rfl⟩
theorem rO{f m:Nat}{c:UInt8}{r:YA}(h:m<128)(hc:lL f m=c::r):c.toNat=m∧r=[]:=by
 have hcm:c=m.toUInt8∧r=[]:=by
  cases f with
  | zero=>injection hc with h1 h2;exact⟨h1.symm,h2.symm⟩
  | succ g=>unfold lL at hc;rw[if_pos h]at hc;injection hc with h1 h2;exact⟨h1.symm,h2.symm⟩
 refine⟨?_,hcm.2⟩
 rw[hcm.1];simp[Nat.toUInt8];omega
theorem sO{g m:Nat}{c:UInt8}{r:YA}(h:¬m<128)(hc:lL (g+1) m=c::r):c.toNat=m % 128+128∧r=lL g (m / 128):=by
 unfold lL at hc;rw[if_neg h]at hc;injection hc with h1 h2
 refine⟨?_,h2.symm⟩
 rw[←h1];simp[Nat.toUInt8];omega
theorem KL{m F n N:Nat}(h:n+m*F=N)(hm:¬m<128)(hN:N≤1000000000):F*128≤1000000000∧n+(m % 128)*F+(m / 128)*(F*128)=N∧n+(m % 128)*F≤N:=by
 have hst:=LL (m:=m) (F:=F)
 have h1:1≤m / 128:=by omega
 have h2:1*(F*128)≤(m / 128)*(F*128):=Nat.mul_le_mul_right _ h1
 omega
theorem mL{b:YA}(o:xE b)(s:Int×Bool){post:YA}{N:Nat}(hN:N≤1000000000):∀(f m F i a n mu:Nat),n+m*F=N→F≤1000000000→b.drop a=lL f m++post→m<128 ^ (f+1)→s.1=((a-i:Nat):Int)→i≤a→i+f≤4→f<mu→∃F':Int,IC (fB b s) mu ((n:Int),(F:Int),(a:Int),false)=.done ((N:Int),F',((a+(lL f m).length:Nat):Int),false)
 | f,m,F,i,a,n,0,_,_,_,_,_,_,_,h=>absurd h (Nat.not_lt_zero _)
 | f,m,F,i,a,n,mu+1,hn,hF,hb,hm,hs,hia,hi,hmu=>by
  have ho:b.length≤1073741824:=o
  obtain⟨c,r,hc⟩:=qO f m
  have hb2:b.drop a=c::(r++post):=by rw[hb,hc];rfl
  have ht:=QN o hb2
  have hd:=oK hb2
  have hg:([c]:YA).getD 0 0=c:=rfl
  have hc8:=c.toNat_lt
  have hw:IntKind.wrap .i64 (Int.tmod (c.toNat:Int) 128)=((c.toNat % 128:Nat):Int):=by
   rw[Int.tmod_eq_emod_of_nonneg oM,ZB oM];omega
  have e2:¬(5:Int)<((a+1:Nat):Int)-s.1:=by rw[hs];omega
  by_cases h128:m<128
  ·obtain⟨hcn,hr⟩:=rO h128 hc
   have hmul:((c.toNat % 128:Nat):Int)*(F:Int)=((m*F:Nat):Int):=by
    rw[hcn,Nat.mod_eq_of_lt h128];exact(Int.natCast_mul ..).symm
   have e1:¬(1000000000:Int)<(n:Int)+((m*F:Nat):Int):=by omega
   have e3:((c.toNat:Nat):Int)<128:=by omega
   have hB:fB b s ((n:Int),(F:Int),(a:Int),false)=.brk ((n:Int)+((m*F:Nat):Int),(F:Int),((a+1:Nat):Int),false):=by
    unfold fB
    dsimp only
    rw[ht]
    dsimp only[cond_false]
    rw[hg,hw,hmul,ZB (n:=((m*F:Nat):Int)) oM,ZB (n:=(n:Int)+_) oM,ZB (n:=(((a+1:Nat):Int))-s.1) (by rw[hs];omega),decide_eq_false e1,decide_eq_false e2,decide_eq_true e3]
    rfl
   refine⟨(F:Int),?_⟩
   rw[bE hmu hB,hc,hr]
   congr 2
   omega
  ·have hg':∃g,f=g+1:=by
    cases f with
    | zero=>simp at hm;omega
    | succ g=>exact⟨g,rfl⟩
   obtain⟨g,rfl⟩:=hg'
   obtain⟨hcn,hr⟩:=sO h128 hc
   obtain⟨n1,n2,n3⟩:=KL hn h128 hN
   have hmul:((c.toNat % 128:Nat):Int)*(F:Int)=(((m % 128)*F:Nat):Int):=by
    rw[hcn,show(m % 128+128) % 128=m % 128 by omega];exact(Int.natCast_mul ..).symm
   have e1:¬(1000000000:Int)<(n:Int)+(((m % 128)*F:Nat):Int):=by omega
   have e3:¬((c.toNat:Nat):Int)<128:=by omega
   have hB:fB b s ((n:Int),(F:Int),(a:Int),false)=.cont (((n+(m % 128)*F:Nat):Int),((F*128:Nat):Int),((a+1:Nat):Int),false):=by
    unfold fB
    dsimp only
    rw[ht]
    dsimp only[cond_false]
    rw[hg,hw,hmul,ZB (n:=(((m % 128)*F:Nat):Int)) oM,ZB (n:=(n:Int)+_) oM,ZB (n:=(((a+1:Nat):Int))-s.1) (by rw[hs];omega),ZB (n:=(F:Int)*128) oM,decide_eq_false e1,decide_eq_false e2,decide_eq_false e3]
    dsimp only[cond_false]
    congr 2
   obtain⟨F',ih⟩:=mL o s (post:=post) hN g (m / 128) (F*128) (i+1) (a+1) (n+(m % 128)*F) mu n2 n1 (by rw[hd.2.1,hr]) (by rw[Nat.div_lt_iff_lt_mul (by decide)];rw[Nat.pow_succ]at hm;exact hm) (by rw[hs];congr 1;omega) oM oM oM
   refine⟨F',?_⟩
   rw[WD hmu hB,Nat.add_sub_cancel,ih,hc,hr]
   congr 4
   rw[List.length_cons];omega
theorem ZM{b x post:YA}{a:Nat}(h:b.drop a=x++post):(b.take (a+x.length)).drop a=x:=by
 rw[List.drop_take,h,Nat.add_sub_cancel_left,List.take_left']
 rfl
theorem FJ{b:YA}(o:xE b){post:YA}{N a:Nat}(hN:N≤1000000000)(h:b.drop a=bB (N:Int)++post):dA b ((a:Int),false)=((N:Int),(((a+(bB (N:Int)).length:Nat):Int),false)):=by
 rw[fJ hN]at h ⊢
 obtain⟨F',hl⟩:=mL o ((a:Int),false) hN 4 N 1 0 a 0 7 oM oM h oM rfl (Nat.zero_le _) oM oM
 unfold dA
 rw[show((6-(((a:Int),false).1-((a:Int),false).1)).toNat+1)=7 by dsimp only;omega]
 dsimp only
 rw[show((0:Int),(1:Int),(a:Int),false)=(((0:Nat):Int),((1:Nat):Int),(a:Int),false)from rfl,hl,GA]
 dsimp only
 rw[Int.toNat_natCast,Int.toNat_natCast,ZM h,fJ hN,beq_self_eq_true]
 rfl
theorem ZG{b x post:YA}{a:Nat}(h:b.drop a=x++post):b.drop (a+x.length)=post:=by
 rw[←List.drop_drop,h,List.drop_left']
 rfl
theorem yK{b:YA}(o:xE b){post t:YA}{a:Nat}(ht:t.length≤60)(hl:a+(cB t).length≤b.length)(h:b.drop a=cB t++post):wA b ((a:Int),false)=(t,(((a+(cB t).length:Nat):Int),false)):=by
 have ho:b.length≤1073741824:=o
 unfold cB at h hl ⊢
 rw[List.append_assoc]at h
 rw[List.length_append]at hl
 have hn:=FJ o oM h
 have hd:=ZG h
 unfold wA
 rw[hn]
 dsimp only
 rw[decide_eq_false oM,cond_false]
 rcases lH o (((a+(bB (t.length:Int)).length:Nat):Int),false) (t.length:Int) ⟨by dsimp only;omega,by dsimp only;omega,oM,by omega⟩with⟨_,h2⟩ | ⟨e,_,_⟩
 ·rcases h2 with h2 | h2
  ·cases h2
  ·dsimp only at h2;omega
 ·rw[e];dsimp only
  rw[Int.toNat_natCast,Int.toNat_natCast,hd,List.take_left' rfl,List.length_append]
  congr 2;omega
theorem FK{b:YA}(o:xE b):xE (gA b).1:=by
 unfold xE at *
 unfold gA
 cases cE (b.length:Int) 3 6000
 ·exact Nat.zero_le _
 ·dsimp only[cond_true]
  cases (nE (b.take ((IntKind.wrap .i64 ((b.length:Int)-3)).toNat)))==b
  ·exact Nat.zero_le _
  ·dsimp only[cond_true];rw[List.length_take];omega
theorem WM(x:YA):(nE x).take x.length=x:=by
 unfold nE
 exact List.take_left' rfl
theorem RJ{x:YA}(h:x.length≤5997):gA (nE x)=(x,true):=by
 unfold gA
 have hl:=gG x
 have hw:cE ((nE x).length:Int) 3 6000=true:=by
  unfold cE
  rw[hl,decide_eq_true oM,cond_true,decide_eq_true oM]
 rw[hw,cond_true,ZB oM,show(((nE x).length:Int)-3).toNat=x.length by omega,WM,beq_self_eq_true,cond_true]
theorem gL{α:Type}{f:α→YA}{m:Nat}:∀{xs:List α},(∀x∈xs,(f x).length≤m)→(xs.map f).flatten.length≤m*xs.length
 | [],_=>by simp
 | x::xs,h=>by
  have h1:=h x (by simp)
  have h2:=gL (xs:=xs) (fun y hy=>h y (by simp[hy]))
  rw[List.map_cons,List.flatten_cons,List.length_append,List.length_cons,Nat.mul_add];omega
def TG(w:LA):YA:=cB w.Key++cB w.Val
def FG(c:TB):YA:=(bB c.Time++bB (c.Rows.length:Int))++(c.Rows.map TG).flatten
theorem ID(c:TB):gC c=nE (FG c):=by
 unfold gC FG
 rw[oN (body:=ND c) (xs:=c.Rows) aA TG fun k x _=>rfl]
theorem KH{c:TB}(h:LB c=true):(c.Rows.length≤24∧0≤c.Time∧c.Time≤100000)∧∀w∈c.Rows,w.Key.length≤12∧w.Val.length≤24∧w.Gone=false:=by
 have h1:=uI h
 refine⟨h1.1,fun w hw=>?_⟩
 obtain⟨k,hk,rfl⟩:=List.getElem_of_mem hw
 have h2:=h1.2 k hk
 rw[SF hk]at h2
 refine⟨h2.1,h2.2,?_⟩
 unfold LB qF at h
 obtain⟨h3,_⟩:=YF (YF h).2
 rw[MH,Bool.and_eq_true]at h3
 have:=List.all_eq_true.1 h3.2 _ hw
 simpa using this
theorem MN{w:LA}(h:w.Key.length≤12∧w.Val.length≤24∧w.Gone=false):(TG w).length≤46:=by
 have h1:=UF w.Key oM
 have h2:=UF w.Val oM
 unfold TG;rw[List.length_append];omega
theorem aI{c:TB}(h:LB c=true):(FG c).length≤5997:=by
 obtain⟨h1,h2⟩:=KH h
 have h3:=gL (f:=TG) (m:=46) (xs:=c.Rows) fun w hw=>MN (h2 w hw)
 have h4:=aF c.Time oM
 have h5:=aF (c.Rows.length:Int) oM
 unfold FG;rw[List.length_append,List.length_append];omega
theorem WL{x:YA}{w:LA}{ws:List LA}{a:Nat}(h:x.drop a=((w::ws).map TG).flatten)(hl:a+((w::ws).map TG).flatten.length≤x.length) :
  x.drop a=cB w.Key++(cB w.Val++(ws.map TG).flatten)∧x.drop (a+(cB w.Key).length)=cB w.Val++(ws.map TG).flatten∧x.drop (a+(cB w.Key).length+(cB w.Val).length)=(ws.map TG).flatten ∧
  a+(cB w.Key).length+(cB w.Val).length+(ws.map TG).flatten.length≤x.length∧((w::ws).map TG).flatten.length=(cB w.Key).length+(cB w.Val).length+(ws.map TG).flatten.length:=by
 have e:((w::ws).map TG).flatten=cB w.Key++(cB w.Val++(ws.map TG).flatten):=by
  rw[List.map_cons,List.flatten_cons];unfold TG;rw[List.append_assoc]
 rw[e]at h hl
 have h1:=ZG h
 have h2:=ZG h1
 rw[List.length_append,List.length_append]at hl
 exact⟨h,h1,h2,oM,by rw[e,List.length_append,List.length_append];omega⟩
theorem wK{b x:YA}(o:xE x)(hx:(gA b).1=x):∀(ws:List LA) (a mu:Nat) (acc:List LA),(∀w∈ws,w.Key.length≤12∧w.Val.length≤24∧w.Gone=false)→x.drop a=(ws.map TG).flatten→a+(ws.map TG).flatten.length≤x.length→ws.length<mu→ws.length≤1000 →
  IC (aC b) mu ((ws.length:Int),(a:Int),false,acc)=.done (0,((a+(ws.map TG).flatten.length:Nat):Int),false,acc++ws)
 | ws,a,0,acc,_,_,_,h,_=>absurd h (Nat.not_lt_zero _)
 | [],a,mu+1,acc,_,_,_,hm,_=>by
  have hB:aC b (((0:Nat):Int),(a:Int),false,acc)=.brk (0,(a:Int),false,acc):=by
   unfold aC;dsimp only;rw[decide_eq_false oM];rfl
  have:=bE (n:=0) hm hB
  rw[List.length_nil,this]
  simp
 | w::ws,a,mu+1,acc,hw,hd,hl,hm,hn=>by
  obtain⟨d1,d2,d3,l1,l2⟩:=WL hd hl
  have hk:=hw w (by simp)
  have t1:=yK o (t:=w.Key) oM oM d1
  have t2:=yK o (t:=w.Val) oM oM d2
  have hB:aC b (((w::ws).length:Int),(a:Int),false,acc)=.cont ((ws.length:Int),((a+(cB w.Key).length+(cB w.Val).length:Nat):Int),false,acc++[w]):=by
   unfold aC
   dsimp only
   rw[decide_eq_true (by rw[List.length_cons];omega),cond_true,hx,t1]
   dsimp only
   rw[t2,ZB oM,List.length_cons]
   dsimp only[cond_false]
   rw[show((ws.length+1:Nat):Int)-1=(ws.length:Int)by omega]
   have:(⟨w.Key,w.Val,false⟩:LA)=w:=by rw[←hk.2.2]
   rw[this]
  rw[WD hm hB,Nat.add_sub_cancel,wK o hx ws _ mu _ (fun y hy=>hw y (by simp[hy])) d3 l1 (by rw[List.length_cons]at hm;omega) (by rw[List.length_cons]at hn;omega),l2]
  congr 3
  ·congr 1;omega
  ·rw[List.append_assoc];rfl
theorem HM{c:TB}(h:LB c=true):∃T:Nat,c.Time=(T:Int)∧T≤1000000000:=⟨c.Time.toNat,by have:=(KH h).1;omega,by have:=(KH h).1;omega⟩
theorem GM{c:TB}(h:LB c=true):qB (gC c)=(c,true):=by
 obtain⟨h1,h2⟩:=KH h
 obtain⟨T,hT,hT2⟩:=HM h
 have hl:=aI h
 have hO:gA (gC c)=(FG c,true):=by rw[ID];exact RJ hl
 have o:xE (FG c):=by unfold xE;omega
 have d0:(FG c).drop 0=bB (T:Int)++(bB (c.Rows.length:Int)++(c.Rows.map TG).flatten):=by
  rw[List.drop_zero,←hT];unfold FG;rw[List.append_assoc]
 have n1:=FJ o hT2 d0
 rw[Nat.zero_add]at n1
 have d1:=ZG d0
 rw[Nat.zero_add]at d1
 have n2:=FJ o oM d1
 have d2:=ZG d1
 have hlen:(bB (T:Int)).length+(bB (c.Rows.length:Int)).length+(c.Rows.map TG).flatten.length≤(FG c).length:=by
  unfold FG;rw[hT,List.length_append,List.length_append];omega
 have hr:=wK (b:=gC c) o (by rw[hO]) c.Rows _ (c.Rows.length+1) [] h2 d2 hlen oM oM
 have z:((0:Int),false)=(((0:Nat):Int),false):=rfl
 unfold qB
 rw[hO]
 dsimp only[cond_true]
 rw[z,n1]
 dsimp only
 rw[n2]
 dsimp only
 rw[Int.toNat_natCast,hr,GA,List.nil_append,←hT]
 dsimp only[cond_false]
 rw[show(⟨c.Time,c.Rows⟩:TB)=c from rfl,h,cond_true,beq_self_eq_true,cond_true]
def dN(b:YA)(v:TB×Bool):Prop:=v=(⟨0,[]⟩,false)∨(v.2=true∧LB v.1=true∧gC v.1=b)
theorem vH{b:YA}(o:xE b):dN b (qB b):=by
 have o1:=FK o
 have r1:=RI o1 (0,false) ⟨by decide,by dsimp only;omega⟩
 have r2:=RI o1 (dA (gA b).1 (0,false)).2 ⟨by omega,by omega⟩
 unfold qB
 cases (gA b).2
 ·exact .inl rfl
 ·dsimp only[cond_true]
  refine cH (fun(p:Int×Int×Bool×List LA)=>0≤p.1∧p.1≤1000000000) (fun p=>p.1.toNat) (dN b) ?_ _ _ ⟨r2.2.2.1,r2.2.2.2⟩ (Nat.lt_succ_self _)
  have hend:∀(x:List LA) (g:Bool),dN b (bif g then((⟨0,[]⟩:TB),false)else bif LB (⟨(dA ((gA b).1) (0,false)).1,x⟩:TB)then bif(gC (⟨(dA ((gA b).1) (0,false)).1,x⟩:TB))==b then((⟨(dA ((gA b).1) (0,false)).1,x⟩:TB),true)else((⟨0,[]⟩:TB),false)else((⟨0,[]⟩:TB),false)):=by
   intro x g
   cases g
   ·dsimp only[cond_false]
    cases hg:LB (⟨(dA ((gA b).1) (0,false)).1,x⟩:TB)
    ·exact .inl rfl
    ·cases hb:(gC (⟨(dA ((gA b).1) (0,false)).1,x⟩:TB))==b
     ·exact .inl rfl
     ·exact .inr ⟨rfl,hg,eq_of_beq hb⟩
   ·exact .inl rfl
  rintro⟨n,a,g,x⟩ ⟨h1,h2⟩
  unfold aC
  dsimp only at h1 h2 ⊢
  by_cases hn:0<n
  ·rw[decide_eq_true hn]
   cases g
   ·dsimp only[cond_true,cond_false,CF.sat]
    rw[ZB oM];omega
   ·exact hend x true
  ·rw[decide_eq_false hn]
   exact hend x g
theorem NG(a:Int):0≤IntKind.wrap .i64 (lJ .u64 a 255)∧IntKind.wrap .i64 (lJ .u64 a 255)≤255:=by
 have:=uN a
 rw[ZB oM];exact this
theorem tN{l:List YA}{m:Nat}(h:∀y∈l,y.length≤m)(k:Nat):(l.getD k XC).length≤m:=by
 rcases Nat.lt_or_ge k l.length with hk | hk
 ·exact h _ (aH hk)
 ·rw[List.getD,List.getElem?_eq_none hk];exact Nat.zero_le _
theorem CN(m:Nat)(c:List Int)(s:Int×Int)(l:List YA)(h:∀y∈l,y.length≤m):(aG c s l).1.length≤m:=by
 unfold aG
 exact tN h _
theorem LP{α β ρ T:Type}{body:Nat→List β→CF ρ (List β)}{fr:ρ→T}{fd:List β→T}{xs:List α}(d:α)(p:α→Bool)(q:α→β){r:ρ}(hb:∀k x,body k x=bif p (xs.getD k d)then .cont (x++[q (xs.getD k d)])else .ret r) :
  JC (NA body (xs.length-0) 0 []) fr fd=bif xs.all p then fd (xs.map q)else fr r:=by
 have key:∀m k (x0:List β),JC (NA body m k x0) fr fd=bif(List.range' k m).all (fun j=>p (xs.getD j d))then fd (x0++(List.range' k m).map fun j=>q (xs.getD j d))else fr r:=by
  intro m
  induction m with
  | zero=>intro k x0;rw[show List.range' k 0=[]from rfl,List.map_nil,List.append_nil];rfl
  | succ m ih=>
   intro k x0
   unfold NA
   rw[hb k x0,List.range'_succ,List.all_cons,List.map_cons]
   cases hp:p (xs.getD k d)
   ·rfl
   ·refine(ih (k+1) (x0++[q (xs.getD k d)])).trans ?_
    rw[Bool.true_and,List.append_assoc];rfl
 rw[Nat.sub_zero,key xs.length 0 [],←List.range_eq_range',NH d p xs,List.nil_append]
 congr 2
 apply List.ext_getElem
 ·simp
 ·intro i h1 h2
  simp only[List.getElem_map,List.getElem_range]
  rw[SF (by simpa using h1)]
def PN(vs:List wB)(k:Nat):Bool:=bif decide (0<(k:Int))then !(decide ((vs.getD k ZA).Time≤(vs.getD ((IntKind.wrap .i64 ((k:Int)-1)).toNat) ZA).Time))else true
def UH(vs:List wB)(k:Nat):Bool:=FH (vs.getD k ZA).Time&&PC (vs.getD k ZA).Val (vs.getD k ZA).Gone&&PN vs k
theorem KM(c:JA):TF c=((List.range c.Vers.length).all (UH c.Vers)&&tF (c.Vers.length:Int) 1 16):=by
 unfold TF
 rw[tK (UH c.Vers) (r:=false) fun k _=>by
  unfold gI UH PN
  cases FH (c.Vers.getD k ZA).Time<;>cases PC (c.Vers.getD k ZA).Val (c.Vers.getD k ZA).Gone<;>cases decide (0<(k:Int))<;>cases decide ((c.Vers.getD k ZA).Time≤(c.Vers.getD ((IntKind.wrap .i64 ((k:Int)-1)).toNat) ZA).Time)<;>rfl]
 rw[VI]
 cases (List.range c.Vers.length).all (UH c.Vers)<;>rfl
theorem MM(c:JA):CC c=(dD c.Key&&TF c):=by
 rw[KM]
 unfold CC
 rw[tK (fun k=>UH c.Vers k&&dD c.Key) (r:=false) fun k _=>by
  unfold qC UH PN
  rw[bI,show RD=FH from rfl]
  cases FH (c.Vers.getD k ZA).Time<;>cases dD c.Key<;>cases PC (c.Vers.getD k ZA).Val (c.Vers.getD k ZA).Gone<;>cases decide (0<(k:Int))<;>cases decide ((c.Vers.getD k ZA).Time≤(c.Vers.getD ((IntKind.wrap .i64 ((k:Int)-1)).toNat) ZA).Time)<;>rfl]
 cases dD c.Key
 ·cases (List.range c.Vers.length).all (fun k=>UH c.Vers k&&false)<;>rfl
 ·rw[show(fun k=>UH c.Vers k&&true)=UH c.Vers from funext fun k=>Bool.and_true _]
  cases (List.range c.Vers.length).all (UH c.Vers)<;>rfl
theorem zJ(l:List JA)(k:Nat):(l.map (·.Key)).getD k XC=(l.getD k vA).Key:=by
 simp only[List.getD_eq_getElem?_getD,List.getElem?_map]
 cases l[k]? <;> rfl
theorem rK(l:List JA):vE l=(((List.range l.length).all fun k=>CC (l.getD k vA)&&VE (l.map (·.Key)) k)&&decide ((l.length:Int)≤24)):=by
 unfold vE
 rw[tK (fun k=>CC (l.getD k vA)&&VE (l.map (·.Key)) k) (r:=false) fun k _=>by
  unfold NC VE
  rw[zJ,zJ]
  cases CC (l.getD k vA)<;>cases decide (0<(k:Int))<;>cases PJ (l.getD ((IntKind.wrap .i64 ((k:Int)-1)).toNat) vA).Key (l.getD k vA).Key<;>rfl]
 cases ((List.range l.length).all fun k=>CC (l.getD k vA)&&VE (l.map (·.Key)) k)<;>rfl
theorem AK(l:List JA):MG l=vE l:=by
 unfold MG
 rw[LP (body:=nH l) (xs:=l) vA TF (·.Key) (r:=false) fun k x=>rfl]
 rw[lI,rK,List.length_map]
 have h2:((List.range l.length).all fun k=>CC (l.getD k vA)&&VE (l.map (·.Key)) k)=(((List.range l.length).all fun k=>dD ((l.map (·.Key)).getD k XC)&&VE (l.map (·.Key)) k)&&(List.range l.length).all fun k=>TF (l.getD k vA)):=by
  rw[gM]
  congr 1;funext k
  rw[MM,zJ]
  cases dD (l.getD k vA).Key<;>cases TF (l.getD k vA)<;>cases VE (l.map (·.Key)) k<;>rfl
 rw[h2,NH vA TF l]
 cases l.all TF<;>cases decide ((l.length:Int)≤24)<;>cases ((List.range l.length).all fun k=>dD ((l.map (·.Key)).getD k XC)&&VE (l.map (·.Key)) k)<;>rfl
def XF(t:Int)(vs:List wB):Bool×Int×YA×Bool:=match vs.reverse.find? (fun v=>decide (v.Time≤t))with
 | some v=>(true,v.Time,v.Val,v.Gone)
 | none=>(false,0,[],false)
theorem zN(c:JA)(t:Int):EC c t=((⟨(XF t c.Vers).2.1,(XF t c.Vers).2.2.1,(XF t c.Vers).2.2.2⟩:wB),(XF t c.Vers).1):=by
 unfold EC
 refine UE (fun k s=>s=XF t (c.Vers.take k)) (fun v=>v=((⟨(XF t c.Vers).2.1,(XF t c.Vers).2.2.1,(XF t c.Vers).2.2.2⟩:wB),(XF t c.Vers).1)) rfl ?_ ?_
 ·intro s hs
  rw[hs,show 0+(c.Vers.length-0)=c.Vers.length by omega,List.take_length]
 ·intro j s _ hj hs
  have hj':j<c.Vers.length:=by omega
  obtain⟨s1,s2,s3,s4⟩:=s
  unfold DE
  rw[SF hj']
  have e:XF t (c.Vers.take (j+1))=bif decide (c.Vers[j].Time≤t)then(true,c.Vers[j].Time,c.Vers[j].Val,c.Vers[j].Gone)else XF t (c.Vers.take j):=by
   unfold XF
   rw[List.take_succ_eq_append_getElem hj',List.reverse_append,List.reverse_singleton,List.singleton_append,List.find?_cons]
   cases decide (c.Vers[j].Time≤t)<;>rfl
  cases hd:decide (c.Vers[j].Time≤t)
  ·show(s1,s2,s3,s4)=_
   rw[e,hd];exact hs
  ·show(true,_,_,_)=_
   rw[e,hd];rfl
theorem kO(vs:List wB):(zP vs.length vs.length).map (fun x=>vs.getD x ZA)=vs.reverse:=by
 unfold zP
 apply List.ext_getElem
 ·simp
 ·intro i h1 h2
  have:i<vs.length:=by simpa using h2
  simp only[List.getElem_map,List.getElem_range,List.getElem_reverse]
  rw[SF oM]
theorem vL(c:JA)(t:Int):LH c t=bif(EC c t).2 then((EC c t).1.Val,!(EC c t).1.Gone)else([],false):=by
 rw[zN]
 have h:c.Vers.reverse.find? (fun v=>decide (v.Time≤t))=((zP c.Vers.length c.Vers.length).find? (fun x=>decide ((c.Vers.getD x ZA).Time≤t))).map fun x=>c.Vers.getD x ZA:=by
  rw[←kO,List.find?_map];rfl
 unfold LH XF
 rw[h]
 cases (zP c.Vers.length c.Vers.length).find? (fun x=>decide ((c.Vers.getD x ZA).Time≤t))<;>rfl
def tI(t:Int)(c:JA):List LA:=bif(EC c t).2 then(bif(EC c t).1.Gone then[]else[⟨c.Key,(EC c t).1.Val,false⟩])else[]
theorem aJ(l:List JA)(t:Int):NI l t=(l.map (tI t)).flatten:=by
 unfold NI
 rw[oN (body:=QG l t) (xs:=l) vA (tI t) fun k x _=>by
  unfold QG tI
  rw[vL]
  cases (EC (l.getD k vA) t).2
  ·exact congrArg CF.cont (List.append_nil x).symm
  ·cases (EC (l.getD k vA) t).1.Gone
   ·rfl
   ·exact congrArg CF.cont (List.append_nil x).symm]
 rfl
theorem LM(l:List JA)(t:Int):wG l t=(l.map (tI t)).flatten:=by
 unfold wG
 rw[oN (body:=PD l t) (xs:=l) vA (tI t) fun k x _=>by
  unfold PD tI
  cases (EC (l.getD k vA) t).2
  ·exact congrArg CF.cont (List.append_nil x).symm
  ·cases (EC (l.getD k vA) t).1.Gone
   ·rfl
   ·exact congrArg CF.cont (List.append_nil x).symm]
 rfl
theorem tM(l:List JA)(t:Int):vI l t=tB l t:=by
 unfold vI tB nD
 rw[AK,aJ,LM,show qF=GG from rfl]
 cases vE l<;>cases GG t<;>rfl
theorem wL(l:List JA)(t:Int):(vI l t).1.Rows.length≤l.length:=by
 have h:(l.map (tI t)).flatten.length≤l.length:=by
  induction l with
  | nil=>exact Nat.le_refl _
  | cons x xs ih=>
   rw[List.map_cons,List.flatten_cons,List.length_append,List.length_cons]
   have:(tI t x).length≤1:=by
    unfold tI
    cases (EC x t).2
    ·exact Nat.zero_le _
    ·cases (EC x t).1.Gone<;>simp
   omega
 unfold vI
 rw[aJ]
 cases MG l
 ·exact Nat.zero_le _
 ·cases qF t
  ·exact Nat.zero_le _
  ·exact h
theorem NL{l:List LA}(h:pF l=true):l.length≤24:=(AJ (yN h)).1
theorem AL{α β:Type}(d:α)(f:α→β)(l:List α){body:Nat→List β→CF (List β) (List β)}(hb:∀k x,body k x=.cont (x++[f (l.getD k d)])):JC (NA body (l.length-0) 0 []) (fun r=>r) (fun x=>x)=l.map f:=by
 refine UE (fun k (x:List β)=>x=(l.take k).map f) (fun v=>v=l.map f) rfl (fun s hs=>by rw[hs,List.take_of_length_le oM]) (fun j s _ hj hs=>?_)
 have hj':j<l.length:=by omega
 rw[hb]
 show s++[f (l.getD j d)]=_
 rw[List.take_succ_eq_append_getElem hj',List.map_append,←hs,←SF (d:=d) hj'];rfl
def IJ(h:Int)(c:UInt8):Int:=(31*h+(c.toNat:Int)+1) % 16000057
theorem EI(h:Int)(c:UInt8):0≤IJ h c∧IJ h c<16000057:=by unfold IJ;omega
theorem iL:∀(b:YA) (h:Int),0≤h∧h<16000057→0≤b.foldl IJ h∧b.foldl IJ h<16000057
 | [],_,hh=>hh
 | c::b,h,_=>iL b (IJ h c) (EI h c)
theorem rL(b:YA):QC b=b.foldl IJ 7:=by
 unfold QC
 refine UE (fun k (x:Int)=>x=(b.take k).foldl IJ 7∧0≤x∧x<16000057) (fun v=>v=b.foldl IJ 7) ⟨rfl,by decide,by decide⟩ (fun s h=>by rw[h.1,List.take_of_length_le oM]) ?_
 intro j x _ hj hx
 have hj':j<b.length:=by omega
 unfold XE
 have h1:0≤((b.getD j 0).toNat:Int)∧((b.getD j 0).toNat:Int)<256:=⟨by omega,by have:=(b.getD j 0).toNat_lt;omega⟩
 dsimp only
 rw[ZB (n:=31*x) oM,ZB (n:=((b.getD j 0).toNat:Int)) oM,ZB (n:=31*x+_) oM,ZB oM,Int.tmod_eq_emod_of_nonneg oM]
 refine⟨?_,oM,by omega⟩
 rw[List.take_succ_eq_append_getElem hj',List.foldl_append,←hx.1,←SF (d:=0) hj']
 rfl
theorem hL:∀(r:YA) (h1 h2:Int),0≤h1∧h1<16000057→0≤h2∧h2<16000057→r.foldl IJ h1=r.foldl IJ h2→h1=h2
 | [],_,_,_,_,h=>h
 | c::r,h1,h2,r1,r2,h=>by
  have:=hL r (IJ h1 c) (IJ h2 c) (EI _ _) (EI _ _) h
  unfold IJ at this
  omega
theorem ON{p r:YA}{c d:UInt8}(hc:c≠d):(p++c::r).foldl IJ 7≠(p++d::r).foldl IJ 7:=by
 intro h
 rw[List.foldl_append,List.foldl_append]at h
 have hr:=iL p 7 (by decide)
 have:=hL r _ _ (EI _ _) (EI _ _) (show r.foldl IJ (IJ (p.foldl IJ 7) c)=r.foldl IJ (IJ (p.foldl IJ 7) d)from h)
 unfold IJ at this
 have h1:=c.toNat_lt
 have h2:=d.toNat_lt
 exact hc (UInt8.toNat_inj.1 oM)
def vP(n:Int):YA:=TH ([IntKind.wrap .u8 (Int.fdiv n 65536),IntKind.wrap .u8 (Int.fdiv n 256),IntKind.wrap .u8 n]:List Int)
theorem dH(x:YA):nE x=x++vP (QC x):=rfl
theorem YL{a b:Int}(h:UInt8.ofNat (IntKind.wrap .u8 a).toNat=UInt8.ofNat (IntKind.wrap .u8 b).toNat):a % 256=b % 256:=by
 have:=congrArg UInt8.toNat h
 rw[UInt8.toNat_ofNat',UInt8.toNat_ofNat']at this
 have e:∀x:Int,IntKind.wrap .u8 x=x % 256:=fun x=>by
  unfold IntKind.wrap
  rfl
 rw[e,e]at this
 omega
theorem DO{n m:Int}(hn:0≤n∧n<16000057)(hm:0≤m∧m<16000057)(h:vP n=vP m):n=m:=by
 unfold vP TH at h
 simp only[List.map_cons,List.map_nil,List.cons.injEq,and_true]at h
 obtain⟨h1,h2,h3⟩:=h
 have a1:=YL h1
 have a2:=YL h2
 have a3:=YL h3
 rw[Int.fdiv_eq_ediv_of_nonneg _ (by decide),Int.fdiv_eq_ediv_of_nonneg _ (by decide)]at a1 a2
 omega
theorem VM{x y:YA}{n:Nat}{c:UInt8}(hn:n<(nE x).length)(hc:c≠(nE x)[n])(h:nE y=(nE x).set n c):False:=by
 have hl:y.length=x.length:=by
  have:=congrArg List.length h
  rw[List.length_set,gG,gG]at this
  omega
 rcases Nat.lt_or_ge n x.length with hx | hx
 ·rw[dH,dH,List.set_append_left _ _ hx]at h
  obtain⟨h1,h2⟩:=List.append_inj h (by rw[List.length_set];exact hl)
  have h3:=DO (JK y) (JK x) h2
  have hd:x[n]≠c:=fun e=>hc (by
   simp only[dH]
   rw[List.getElem_append_left hx,e])
  refine ON (p:=x.take n) (r:=x.drop (n+1)) hd ?_
  rw[rL,rL,h1,List.set_eq_take_append_cons_drop,if_pos hx]at h3
  rw[←List.drop_eq_getElem_cons hx,List.take_append_drop,h3]
 ·rw[dH,dH,List.set_append_right _ _ hx]at h
  obtain⟨h1,h2⟩:=List.append_inj h hl
  subst h1
  have hn':n-y.length<(vP (QC y)).length:=by
   rw[gG]at hn
   show _<3
   omega
  refine hc ?_
  have e:(nE y)[n]=(vP (QC y))[n-y.length]:=by
   simp only[dH]
   rw[List.getElem_append_right hx]
  rw[e]
  have:=congrArg (fun l:YA=>l[n-y.length]?) h2
  simp only[List.getElem?_set_self hn',List.getElem?_eq_getElem hn']at this
  exact(Option.some.inj this).symm
theorem HN(l:List JA):RE l=l:=by
 unfold RE
 rw[AL (body:=oF l) vA (fun c=>(⟨c.Key,c.Vers⟩:JA)) l fun k x=>rfl]
 exact List.map_id l
theorem vO(l:List JA):(RE l).length=l.length:=by rw[HN]
theorem iN(l:List JA)(k:YA):-1≤oE l k∧oE l k<(l.length:Int):=by
 unfold oE
 refine UE (fun _ (_:Unit)=>True) (fun(v:Int)=>-1≤v∧v<(l.length:Int)) trivial (fun _ _=>⟨by decide,by omega⟩) ?_
 intro j s _ hj _
 unfold IE
 cases ((l.getD j vA).Key==k)
 ·trivial
 ·exact⟨by omega,by omega⟩
def vD(m:Nat)(l:List JA):Prop:=l.length≤m∧∀y∈l,0<y.Vers.length∧y.Vers.length≤m
theorem vD.at{m:Nat}{l:List JA}(h:vD m l){i:Nat}(hi:i<l.length):0<(l.getD i vA).Vers.length∧(l.getD i vA).Vers.length≤m:=h.2 _ (aH hi)
theorem vD.own{m:Nat}{l:List JA}(h:vD m l):vD m (RE l):=by rw[HN];exact h
theorem vD.mono{m n:Nat}{l:List JA}(h:vD m l)(hn:m≤n):vD n l:=⟨Nat.le_trans h.1 hn,fun y hy=>⟨(h.2 y hy).1,Nat.le_trans (h.2 y hy).2 hn⟩⟩
theorem vD.nil(m:Nat):vD m []:=⟨Nat.zero_le _,fun _ h=>by cases h⟩
theorem vD.put{m:Nat}{l:List JA}(h:vD m l){i:Nat}(hi:i<l.length){k:YA}{v:wB}:vD (m+1) (l.set i (⟨k,(l.getD i vA).Vers++([v]:List wB)⟩:JA)):=by
 refine⟨by rw[List.length_set];exact Nat.le_succ_of_le h.1,fun y hy=>?_⟩
 rcases List.mem_or_eq_of_mem_set hy with hy | rfl
 ·exact⟨(h.2 y hy).1,Nat.le_succ_of_le (h.2 y hy).2⟩
 ·have:=h.at hi
  show 0<((l.getD i vA).Vers++[v]).length∧((l.getD i vA).Vers++[v]).length≤m+1
  rw[List.length_append,List.length_singleton];omega
theorem vD.ins{m:Nat}{l:List JA}(h:vD m l)(i:Nat){k:YA}{v:wB}:vD (m+1) (((l.take i)++([(⟨k,([v]:List wB)⟩:JA)]:List JA))++(l.drop i)):=by
 refine⟨by have:=h.1;simp only[List.length_append,List.length_take,List.length_drop,List.length_cons,List.length_nil];omega,fun y hy=>?_⟩
 rcases List.mem_append.1 hy with hy | hy
 ·rcases List.mem_append.1 hy with hy | hy
  ·have:=h.2 y (List.mem_of_mem_take hy);exact⟨this.1,by omega⟩
  ·rw[List.mem_singleton.1 hy];exact⟨Nat.succ_pos 0,Nat.succ_le_succ (Nat.zero_le _)⟩
 ·have:=h.2 y (List.mem_of_mem_drop hy);exact⟨this.1,by omega⟩
def UL(w:List LA)(t:Int)(j:Nat)(x:List JA)(k:Int):CF ((List JA)×Bool) (List JA):=
 bif decide (0<k)then bif((x.getD ((IntKind.wrap .i64 (k-1)).toNat) vA).Key)==((w.getD j aA).Key)then bif decide (t≤WF x (w.getD j aA).Key)then CF.ret (([]:List JA),false)else .cont (x.set ((IntKind.wrap .i64 (k-1)).toNat) (⟨(x.getD ((IntKind.wrap .i64 (k-1)).toNat) vA).Key,((x.getD ((IntKind.wrap .i64 (k-1)).toNat) vA).Vers++([(⟨t,(w.getD j aA).Val,(w.getD j aA).Gone⟩:wB)]:List wB))⟩:JA))else .cont (((x.take ((k).toNat))++([(⟨(w.getD j aA).Key,([(⟨t,(w.getD j aA).Val,(w.getD j aA).Gone⟩:wB)]:List wB)⟩:JA)]:List JA))++(x.drop ((k).toNat)))else .cont (((x.take ((k).toNat))++([(⟨(w.getD j aA).Key,([(⟨t,(w.getD j aA).Val,(w.getD j aA).Gone⟩:wB)]:List wB)⟩:JA)]:List JA))++(x.drop ((k).toNat)))
def lO(a b:Nat):CF ((List JA)×Bool) (List JA)→Prop
 | .ret r=>vD a r.1
 | .brk s'=>vD a s'
 | .cont s'=>vD b s'
theorem mM{w:List LA}{t:Int}{j m:Nat}{x:List JA}(hx:vD m x){k:Int}(hk:0≤k∧k≤(x.length:Int))(hm:x.length≤1000000)(a:Nat):lO a (m+1) (UL w t j x k):=by
 unfold UL
 cases hd:decide (0<k)
 ·exact hx.ins _
 ·have hk0:=of_decide_eq_true hd
  have hw:IntKind.wrap .i64 (k-1)=k-1:=ZB oM
  rw[hw]
  simp only[cond_true]
  cases ((x.getD ((k-1).toNat) vA).Key)==((w.getD j aA).Key)
  ·exact hx.ins _
  ·cases decide (t≤WF x (w.getD j aA).Key)
   ·exact hx.put oM
   ·exact vD.nil _
theorem wO{m:Nat}{l:List JA}(h:vD m l)(w:List LA)(t:Int)(hm:m+w.length≤1000000):vD (m+w.length) (HE l w t).1:=by
 unfold HE
 refine UE (fun j (x:List JA)=>vD (m+j) x) (fun(v:List JA×Bool)=>vD (m+w.length) v.1) (h.own) (fun s hs=>by rw[Nat.zero_add,Nat.sub_zero]at hs;exact hs) ?_
 intro j x _ hj hx
 have hxl:=hx.1
 have key:lO (m+w.length) (m+j+1) (iD l w t j x):=by
  show lO (m+w.length) (m+j+1) (JC (IC (wD l w t j x) ((((x.length:Int)).toNat)+1) ((x.length:Int))) (fun r=>CF.ret r) (UL w t j x))
  refine cH (fun(k:Int)=>0≤k∧k≤(x.length:Int)) (fun k=>k.toNat) (lO (m+w.length) (m+j+1)) ?_ _ _ ⟨by omega,by omega⟩ oM
  intro k hk
  unfold wD
  dsimp only
  cases hd:decide (0<k)
  ·exact mM hx hk oM _
  ·cases UM ((x.getD ((IntKind.wrap .i64 (k-1)).toNat) vA).Key) ((w.getD j aA).Key)
   ·have hk0:=of_decide_eq_true hd
    have hw:IntKind.wrap .i64 (k-1)=k-1:=ZB oM
    show(0≤IntKind.wrap .i64 (k-1)∧IntKind.wrap .i64 (k-1)≤(x.length:Int))∧(IntKind.wrap .i64 (k-1)).toNat<k.toNat
    rw[hw]
    omega
   ·exact mM hx hk oM _
 revert key
 cases iD l w t j x<;>exact fun h=>h
theorem fE{n:Int}{l:List JA}(h:vD (100*(5-n).toNat) l)(hn:0<n∧n≤5){w:List LA}(hw:w.length≤8)(t:Int):vD (100*(5-IntKind.wrap .i64 (n-1)).toNat) (HE l w t).1:=by
 have:=wO h w t oM
 rw[show IntKind.wrap .i64 (n-1)=n-1 from ZB oM]
 exact this.mono oM
theorem HD{n:Int}{l:List JA}(h:vD (100*(5-n).toNat) l)(hn:0<n∧n≤5):vD (100*(5-IntKind.wrap .i64 (n-1)).toNat) l:=by
 rw[show IntKind.wrap .i64 (n-1)=n-1 from ZB oM]
 exact h.mono oM
theorem DN(c:TB):xE (CA c).1:=by
 unfold CA
 cases h:LB c
 ·exact Nat.zero_le _
 ·show xE (gC c)
  have:=aI h
  rw[ID]
  unfold xE
  rw[gG]
  omega
theorem hP{c:TB}(h:(CA c).2=true):0<(CA c).1.length:=by
 unfold CA at h ⊢
 cases hg:LB c
 ·rw[hg]at h;cases h
 ·show 0<(gC c).length
  rw[ID,gG]
  omega
theorem IL(l:List JA)(t:Int):(tB l t).1.Rows.length≤24:=by
 have h:=wL l t
 rw[tM]at h
 unfold tB nD at *
 cases hg:vE l
 ·exact Nat.zero_le _
 ·rw[hg]at h
  rw[rK,Bool.and_eq_true]at hg
  have:=of_decide_eq_true hg.2
  dsimp only[cond_true]at h ⊢
  omega
theorem sN{p:List Int}(h:GH p=false):p.length≤65536:=by
 unfold GH at h
 have:=of_decide_eq_false h
 omega
theorem KK{p:List Int}(h:qE p)(hl:p.length≤281474976710656){k:Int}(hk:0≤k∧k≤1000):0≤UD p k:=by
 unfold UD
 cases decide (k<(p.length:Int))
 ·dsimp only[cond_false]
  rw[ZB (n:=k*7) oM,ZB oM]
  exact(eH oM oM).1
 ·have:=lK h k.toNat
  dsimp only[cond_true]
  rw[ZB oM]
  exact this.1
theorem nO(c:UInt8)(m:Int)(hm:1≤m∧m≤255):UInt8.ofNat (aK .u8 (c.toNat:Int) m).toNat≠c:=by
 obtain⟨k,rfl⟩:=Int.eq_ofNat_of_zero_le (show 0≤m by omega)
 have hk:1≤k∧k≤255:=by omega
 have hc:=c.toNat_lt
 intro h
 have h2:=congrArg UInt8.toNat h
 unfold aK at h2
 have e1:(BitVec.ofInt IntKind.u8.bits (c.toNat:Int) ^^^ BitVec.ofInt IntKind.u8.bits (k:Int)).toNat=c.toNat ^^^ k:=by
  rw[BitVec.toNat_xor]
  have a1:(BitVec.ofInt IntKind.u8.bits (c.toNat:Int)).toNat=c.toNat:=by
   show(BitVec.ofInt 8 (c.toNat:Int)).toNat=c.toNat
   rw[BitVec.toNat_ofInt];omega
  have a2:(BitVec.ofInt IntKind.u8.bits (k:Int)).toNat=k:=by
   show(BitVec.ofInt 8 (k:Int)).toNat=k
   rw[BitVec.toNat_ofInt];omega
  rw[a1,a2]
 rw[e1]at h2
 have hx:c.toNat ^^^ k<256:=Nat.xor_lt_two_pow (n:=8) oM oM
 have e:∀x:Int,IntKind.wrap .u8 x=x % 256:=fun x=>by
  unfold IntKind.wrap
  rfl
 rw[e,UInt8.toNat_ofNat']at h2
 have h3:c.toNat ^^^ k=c.toNat:=by omega
 have h4:k=0:=by
  have:=congrArg (c.toNat ^^^ ·) h3
  simp only[←Nat.xor_assoc,Nat.xor_self,Nat.zero_xor]at this
  exact this
 omega
theorem CO(s:YA)(n:Nat)(v:Int):TH ((pG s).set n v)=s.set n (UInt8.ofNat v.toNat):=by
 have h:=BO s
 unfold TH at h ⊢
 rw[List.map_set,h]
theorem mO{s:YA}{a:Int}{m:Int}(ha:0≤a)(hs:0<s.length)(hm:1≤m∧m≤255) :
  ∃(n:Nat) (hn:n<s.length) (c:UInt8),c≠s[n]∧TH ((pG s).set (Int.tmod a ((pG s).length:Int)).toNat (aK .u8 ((pG s).getD (Int.tmod a ((pG s).length:Int)).toNat QF) m))=s.set n c:=by
 obtain⟨h1,h2⟩:=eH (a:=a) (b:=((pG s).length:Int)) ha (by rw[rF];omega)
 generalize hk:(Int.tmod a ((pG s).length:Int)).toNat=k
 have hk2:k<s.length:=by rw[rF]at h2 hk;omega
 have hg:(pG s).getD k QF=((s[k]).toNat:Int):=by
  rw[List.getD_eq_getElem?_getD,List.getElem?_eq_getElem (by rw[rF];exact hk2)]
  simp[pG]
 refine⟨k,hk2,_,nO (s[k]) m hm,?_⟩
 rw[CO,hg]
theorem uO{a:Int}(ha:0≤a):1≤IntKind.wrap .u8 (IntKind.wrap .i64 (1+Int.tmod a 255))∧IntKind.wrap .u8 (IntKind.wrap .i64 (1+Int.tmod a 255))≤255:=by
 obtain⟨h1,h2⟩:=eH (a:=a) (b:=255) ha oM
 have e:∀x:Int,IntKind.wrap .u8 x=x % 256:=fun x=>by
  unfold IntKind.wrap
  rfl
 rw[ZB oM,e]
 omega
theorem ZL(l:List LA):eG l l=true:=by
 unfold eG
 rw[decide_eq_true rfl,cond_true]
 refine UE (fun _ _=>True) (fun v=>v=true) trivial (fun _ _=>rfl) ?_
 intro j x _ hj _
 unfold rE
 simp only[beq_self_eq_true,Bool.and_self,cond_true]
theorem pL(x:YA):0<(nE x).length:=by rw[gG];omega
theorem TI(p:List Int)(hp:qE p):IB p=true:=by
 unfold IB
 generalize mA p=c
 cases hb:GH p
 case true=>rfl
 have hl:=sN hb
 have h50:=KK hp oM (k:=50) oM
 have h51:=KK hp oM (k:=51) oM
 have hm:=uO h51
 simp only[iI,beq_self_eq_true,cond_true,cond_false]
 rw[←iI]
 cases hg:LB c
 ·have e:CA c=([],false):=by unfold CA;rw[hg];rfl
  rw[e]
  dsimp only[cond_false]
  rcases vH (b:=([]:YA)) (Nat.zero_le _)with h | ⟨_,_,h⟩
  ·rw[h];rfl
  ·rw[ID]at h
   have:=pL (FG (qB ([]:YA)).1)
   rw[h]at this
   exact absurd this (by decide)
 ·have e:CA c=(gC c,true):=by unfold CA;rw[hg];rfl
  rw[e]
  dsimp only[cond_true]
  rw[GM hg]
  obtain⟨n,hn,d,hd,hf⟩:=mO (s:=gC c) (m:=IntKind.wrap .u8 (IntKind.wrap .i64 (1+Int.tmod (UD p 51) 255))) h50 (by rw[ID];exact pL _) hm
  rw[hf]
  have hr:(qB ((gC c).set n d)).2=false:=by
   rcases vH (b:=(gC c).set n d) (by
    have:=aI hg
    unfold xE
    rw[List.length_set,ID,gG]
    omega)with h | ⟨_,_,h⟩
   ·rw[h]
   ·rw[ID,ID]at h
    simp only[ID]at hn hd
    exact(VM hn hd h).elim
  rw[hr]
  have hv:vG c c=true:=by
   unfold vG
   rw[decide_eq_true rfl,cond_true]
   exact ZL _
  rw[hv]
  rfl
end Go.Proofs.Ytikkoidgamlgnaa
