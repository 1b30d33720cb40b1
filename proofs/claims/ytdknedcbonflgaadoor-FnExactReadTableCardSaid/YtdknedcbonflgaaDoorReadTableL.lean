/- Read Table: plain laws of the models. -/
import Derived.Test.YtdknedcbonflgaaDoorReadTableT
set_option linter.unusedVariables false
set_option linter.unusedSimpArgs false
namespace Go.Proofs.YtdknedcbonflgaaDoor
open Go.RowKit Go.X
theorem jL(x:LB):gD x x=true:=by unfold gD;simp only[beq_self_eq_true,cond_true,decide_true]
theorem TI(x:List nA):MC x x=true:=zI gA (f:=fun a b=>a==b) (fun _=>beq_self_eq_true _) x
theorem IK(x:List LB):CD x x=true:=zI dA (f:=gD) jL x
theorem fK(x:GA):NC x x=true:=by unfold NC;simp only[TI,IK,beq_self_eq_true,cond_true,decide_true]
def QD(_:nA)(k:Int):Int×nA:=(IntKind.wrap .i64 (k+1),YA k)
theorem VG(x:nA)(k:Int)(h0:0≤k)(h1:k+((1:Nat):Int)≤4611686018427387904):(QD x k).1=k+((1:Nat):Int):=by
 unfold QD
 simp only[IntKind.wrap_i64];omega
theorem SE(a:List nA)(k:Int):qB a k=fH QD a k:=by
 unfold qB
 exact bL (d:=gA) (mk:=QD) (fun i k xs hi=>by unfold uC;simp only[List.set_set,sD hi,QD]) a k
theorem TH(a:List nA)(k:Int)(h0:0≤k)(h1:k+(LG (fun _=>1) a:Int)≤4611686018427387904):pB (qB a k).2 k=(qB a k).1:=by
 rw[SE]
 unfold pB
 exact aL (d:=gA) (mk:=QD) (c:=fun _=>1) a k VG (fun i k x hx _ _=>by unfold JB;simp only[hx,QD,eq_self,decide_true,beq_self_eq_true,cond_true]) h0 h1
theorem YI(a:List nA)(k:Int)(h0:0≤k)(h1:k+(((1:Nat)*a.length:Nat):Int)≤4611686018427387904):pB (qB a k).2 k=(qB a k).1∧(qB a k).1=k+(((1:Nat)*a.length:Nat):Int)∧(qB a k).2.length=a.length:=by
 rw[←LF]at h1 ⊢
 refine⟨TH a k h0 h1,?_,?_⟩
 ·rw[SE];exact WH VG a k h0 h1
 ·rw[SE];exact TE _ _ _
theorem qF(a:List nA)(k:Int)(h:k≤9223372036854775807):(qB a k).1≤9223372036854775807:=by
 unfold qB
 refine CC (fun _ (s:Int×List nA)=>s.1≤9223372036854775807) (fun(v:Int×List nA)=>v.1≤9223372036854775807) h (fun s hs=>hs) ?_
 rintro j ⟨k,x⟩ _ _ hk
 exact NG _
theorem pF(a:List nA)(k:Int)(h:k≤9223372036854775807):pB a k≤9223372036854775807:=by
 unfold pB
 refine CC (fun _ (s:Int)=>s≤9223372036854775807) (fun v=>v≤9223372036854775807) h (fun s hs=>hs) ?_
 intro j k' _ _ hk
 unfold JB
 dsimp only
 cases ((a.getD j gA)==YA k')<;>first | exact NG _ | exact XH
def PF(_:LB)(k:Int):Int×LB:=(IntKind.wrap .i64 ((IntKind.wrap .i64 ((IntKind.wrap .i64 (k+1))+1))+1),⟨YA k,IntKind.wrap .i64 (k+1),IntKind.wrap .i64 ((IntKind.wrap .i64 (k+1))+1)⟩)
theorem sJ(x:LB)(k:Int)(h0:0≤k)(h1:k+((3:Nat):Int)≤4611686018427387904):(PF x k).1=k+((3:Nat):Int):=by
 unfold PF
 simp only[IntKind.wrap_i64];omega
theorem qG(a:List LB)(k:Int):iC a k=fH PF a k:=by
 unfold iC
 exact bL (d:=dA) (mk:=PF) (fun i k xs hi=>by unfold PC;simp only[List.set_set,sD hi,PF]) a k
theorem KJ(a:List LB)(k:Int)(h0:0≤k)(h1:k+(LG (fun _=>3) a:Int)≤4611686018427387904):eC (iC a k).2 k=(iC a k).1:=by
 rw[qG]
 unfold eC
 exact aL (d:=dA) (mk:=PF) (c:=fun _=>3) a k sJ (fun i k x hx _ _=>by unfold sB;simp only[hx,PF,eq_self,decide_true,beq_self_eq_true,cond_true]) h0 h1
theorem OK(a:List LB)(k:Int)(h0:0≤k)(h1:k+(((3:Nat)*a.length:Nat):Int)≤4611686018427387904):eC (iC a k).2 k=(iC a k).1∧(iC a k).1=k+(((3:Nat)*a.length:Nat):Int)∧(iC a k).2.length=a.length:=by
 rw[←LF]at h1 ⊢
 refine⟨KJ a k h0 h1,?_,?_⟩
 ·rw[qG];exact WH sJ a k h0 h1
 ·rw[qG];exact TE _ _ _
theorem FG(a:List LB)(k:Int)(h:k≤9223372036854775807):(iC a k).1≤9223372036854775807:=by
 unfold iC
 refine CC (fun _ (s:Int×List LB)=>s.1≤9223372036854775807) (fun(v:Int×List LB)=>v.1≤9223372036854775807) h (fun s hs=>hs) ?_
 rintro j ⟨k,x⟩ _ _ hk
 exact NG _
theorem EG(a:List LB)(k:Int)(h:k≤9223372036854775807):eC a k≤9223372036854775807:=by
 unfold eC
 refine CC (fun _ (s:Int)=>s≤9223372036854775807) (fun v=>v≤9223372036854775807) h (fun s hs=>hs) ?_
 intro j k' _ _ hk
 unfold sB
 dsimp only
 cases (((a.getD j dA).Name)==YA k')<;>cases decide (((a.getD j dA).Col)=IntKind.wrap .i64 (k'+1))<;>cases decide (((a.getD j dA).Stage)=IntKind.wrap .i64 ((IntKind.wrap .i64 (k'+1))+1))<;>first | exact NG _ | exact XH
theorem mK(a:GA)(k:Int)(h0:0≤k)(h1:k+((1*a.Cols.length+3*a.Idxs.length:Nat):Int)≤4611686018427387904):cC (jB a k).2 k=(jB a k).1∧(jB a k).1=k+((1*a.Cols.length+3*a.Idxs.length:Nat):Int):=by
 obtain⟨e0,n0,_⟩:=YI a.Cols k oM oM
 obtain⟨e1,n1,_⟩:=OK a.Idxs (k+((1*a.Cols.length:Nat):Int)) oM oM
 have q1:cC (jB a k).2 k=(k+((1*a.Cols.length:Nat):Int))+((3*a.Idxs.length:Nat):Int):=by unfold cC jB;simp only[e0,n0,e1,n1,decide_eq_false (show ¬k+((1*a.Cols.length:Nat):Int)<0 by omega),decide_eq_false (show ¬(k+((1*a.Cols.length:Nat):Int))+((3*a.Idxs.length:Nat):Int)<0 by omega),cond_false]
 have q2:(jB a k).1=(k+((1*a.Cols.length:Nat):Int))+((3*a.Idxs.length:Nat):Int):=by unfold jB;simp only[n0,n1]
 exact⟨q1.trans q2.symm,q2.trans oM⟩
theorem vH(r:GA)(k:Int):(⟨r.Name,(jB r k).2.Cols,(jB r k).2.Idxs⟩:GA)=(jB r k).2:=rfl
theorem aI(a:GA)(k:Int)(h:k≤9223372036854775807):(jB a k).1≤9223372036854775807:=by
 unfold jB
 exact(FG _ _ (qF _ _ h))
theorem dG(a:GA)(k:Int)(h:k≤9223372036854775807):cC a k≤9223372036854775807:=by
 unfold cC
 cases decide (pB a.Cols k<0)<;>cases decide (eC a.Idxs (pB a.Cols k)<0)<;>first | exact XH | exact(EG _ _ (pF _ _ h))
theorem HG(xs:List nA)(y:nA):bC xs y=xs.any (fun x=>y==x):=DI _ gA xs
theorem MH:fB=BB:=rfl
theorem oG{n lo hi:Int}(h:BB n lo hi=true):lo≤n∧n≤hi:=by
 unfold BB at h
 obtain⟨h1,h2⟩:=rG h
 exact⟨of_decide_eq_true h1,of_decide_eq_true h2⟩
theorem jF{n lo hi:Int}(h:fB n lo hi=true):lo≤n∧n≤hi:=oG h
theorem sK(a b:UInt8):decide ((a.toNat:Int)=(b.toNat:Int))=(a==b):=by
 rw[Bool.eq_iff_iff,decide_eq_true_iff,beq_iff_eq]
 constructor
 ·intro h;exact UInt8.toNat.inj oM
 ·intro h;rw[h]
theorem NF:QA=BA:=by
 funext s m
 unfold QA BA
 rfl
theorem LJ(l:List nA)(s:nA):decide (0≤iD l s)=l.any fun x=>x==s:=by
 have:iD l s=gK (fun x=>x==s) gA l:=rfl
 rw[this,DI]
def ZF(l:List nA)(k:Nat):Bool:=BA (l.getD k gA) 3&&!((l.take k).any fun x=>x==l.getD k gA)
theorem RE(l:List nA):OC l=((List.range l.length).all (ZF l)&&BB (l.length:Int) 2 4):=by
 unfold OC
 rw[rJ (ZF l) (r:=false) fun k _=>by
  unfold YB ZF
  rw[LJ]
  cases BA (l.getD k gA) 3<;>cases ((l.take k).any fun x=>x==l.getD k gA)<;>rfl]
 cases (List.range l.length).all (ZF l)<;>rfl
theorem eE(t:GA):iB t=CA t:=by
 unfold iB CA
 rw[RE,NF,MH]
 rw[rJ (ZF t.Cols) (r:=false) fun k _=>by
  unfold FB ZF
  rw[HG,NF]
  rw[show((t.Cols.take k).any fun x=>t.Cols.getD k gA==x)=((t.Cols.take k).any fun x=>x==t.Cols.getD k gA)by congr 1;funext x;rw[Bool.beq_comm]]
  cases BA (t.Cols.getD k gA) 3<;>cases ((t.Cols.take k).any fun x=>x==t.Cols.getD k gA)<;>rfl]
 have hb:UA t=PA t:=by
  funext k u
  unfold UA PA fC
  rw[NF,MH,RK]
  cases BA ((t.Idxs.getD k dA).Name) 1<;>cases BB ((t.Idxs.getD k dA).Col) 1 (IntKind.wrap .i64 ((t.Cols.length:Int)-1))<;>cases BB ((t.Idxs.getD k dA).Stage) 0 3<;>cases decide (0<(k:Int))<;>cases cJ ((t.Idxs.getD ((IntKind.wrap .i64 ((k:Int)-1)).toNat) dA).Name) ((t.Idxs.getD k dA).Name)<;>rfl
 rw[hb]
 cases BA t.Name 1<;>cases BB (t.Cols.length:Int) 2 4<;>cases decide (3<(t.Idxs.length:Int))<;>cases (List.range t.Cols.length).all (ZF t.Cols)<;>rfl
theorem BD{t:GA}(h:CA t=true):2≤(t.Cols.length:Int)∧(t.Cols.length:Int)≤4∧(t.Idxs.length:Int)≤3:=by
 unfold CA at h
 obtain⟨_,h⟩:=rG h
 obtain⟨h1,h⟩:=rG h
 rw[RE,Bool.and_eq_true]at h1
 have h2:=oG h1.2
 refine⟨h2.1,h2.2,?_⟩
 cases h3:decide (3<(t.Idxs.length:Int))
 ·have:=of_decide_eq_false h3;omega
 ·rw[h3]at h;cases h
theorem wH{t:GA}(h:iB t=true):2≤(t.Cols.length:Int)∧(t.Cols.length:Int)≤4∧(t.Idxs.length:Int)≤3:=BD (eE t▸h)
def HH(t:GA)(k:Nat):Bool:=BA (t.Idxs.getD k dA).Name 1&&BB (t.Idxs.getD k dA).Col 1 (IntKind.wrap .i64 ((t.Cols.length:Int)-1))&&BB (t.Idxs.getD k dA).Stage 0 3&&bif decide (0<(k:Int))then cJ (t.Idxs.getD ((IntKind.wrap .i64 ((k:Int)-1)).toNat) dA).Name (t.Idxs.getD k dA).Name else true
theorem qE(t:GA):CA t=(BA t.Name 1&&OC t.Cols&&decide (t.Idxs.length≤3)&&(List.range t.Idxs.length).all (HH t)):=by
 unfold CA
 rw[rJ (HH t) (r:=false) fun k _=>by
  unfold PA HH
  cases BA (t.Idxs.getD k dA).Name 1<;>cases BB (t.Idxs.getD k dA).Col 1 (IntKind.wrap .i64 ((t.Cols.length:Int)-1))<;>cases BB (t.Idxs.getD k dA).Stage 0 3<;>cases decide (0<(k:Int))<;>cases cJ (t.Idxs.getD ((IntKind.wrap .i64 ((k:Int)-1)).toNat) dA).Name (t.Idxs.getD k dA).Name<;>rfl]
 have e:decide (t.Idxs.length≤3)=!decide (3<(t.Idxs.length:Int)):=by
  by_cases h:t.Idxs.length≤3
  ·rw[decide_eq_true h,decide_eq_false oM];rfl
  ·rw[decide_eq_false h,decide_eq_true oM];rfl
 rw[e]
 cases BA t.Name 1<;>cases OC t.Cols<;>cases decide (3<(t.Idxs.length:Int))<;>cases (List.range t.Idxs.length).all (HH t)<;>rfl
def AE(b:UInt8):Bool:=!decide ((b.toNat:Int)<97)&&!decide (122<(b.toNat:Int))
theorem GF(s:nA)(m:Int):BA s m=(s.all AE&&decide (1≤(s.length:Int))&&decide ((s.length:Int)≤m)):=by
 unfold BA
 rw[FL (0:UInt8) AE (r:=false) fun k=>by
  unfold CB AE
  cases decide (((s.getD k 0).toNat:Int)<97)<;>cases decide (122<((s.getD k 0).toNat:Int))<;>rfl]
 cases s.all AE<;>cases decide (1≤(s.length:Int))<;>rfl
theorem nF{s:nA}{m:Int}(h:BA s m=true):1≤(s.length:Int)∧(s.length:Int)≤m:=by
 rw[GF]at h
 simp only[Bool.and_eq_true,decide_eq_true_eq]at h
 exact⟨h.1.2,h.2⟩
structure CF (t:GA):Prop where
 name:t.Name.length=1
 cols:2≤t.Cols.length∧t.Cols.length≤4
 idxs:t.Idxs.length≤3
 idx:∀k,k<t.Idxs.length→(t.Idxs.getD k dA).Name.length=1∧1≤(t.Idxs.getD k dA).Col∧(t.Idxs.getD k dA).Col<(t.Cols.length:Int)∧0≤(t.Idxs.getD k dA).Stage∧(t.Idxs.getD k dA).Stage≤3
 rise:∀k,k+1<t.Idxs.length→(t.Idxs.getD k dA).Name<(t.Idxs.getD (k+1) dA).Name
theorem CF.of{t:GA}(h:CA t=true):CF t:=by
 have hf:=BD h
 rw[qE]at h
 simp only[Bool.and_eq_true,decide_eq_true_eq,List.all_eq_true,List.mem_range]at h
 obtain⟨⟨⟨h1,h2⟩,h3⟩,h4⟩:=h
 have h5:∀k,k<t.Idxs.length→_:=fun k hk=>h4 k hk
 unfold HH at h5
 simp only[Bool.and_eq_true]at h5
 refine⟨by have:=nF h1;omega,oM,h3,fun k hk=>?_,fun k hk=>?_⟩
 ·obtain⟨⟨⟨a,b⟩,c⟩,d⟩:=h5 k hk
  have a:=nF a
  have b:=oG b
  have c:=oG c
  rw[UE oM]at b
  omega
 ·have d:=(h5 (k+1) hk).2
  rw[UE oM,decide_eq_true (show 0<((k+1:Nat):Int)by omega)]at d
  have e:(((k+1:Nat):Int)-1).toNat=k:=by omega
  rw[e]at d
  exact(uJ _ _).1 d
theorem zH(s:nA)(c:UInt8):pA s [c]=Lib.indexByte s c:=by
 unfold pA KB JK
 have h:((([c]:nA).getD 0 0).toNat:Int).toNat.toUInt8=c:=by simp
 rw[h]
 cases hc:([c]:nA)==s
 ·rfl
 ·have:s=[c]:=(eq_of_beq hc).symm
  subst this
  simp[Lib.indexByte]
theorem GI{s sub:nA}(h:sub.length=1):-1≤pA s sub∧pA s sub≤(s.length:Int)-1:=by
 match sub,h with
 | [c],_=>
  rw[zH]
  rcases ED c s with⟨_,h2⟩ | ⟨a,r,h1,_,h3⟩
  ·rw[h2];omega
  ·rw[h3,h1];simp only[List.length_append,List.length_cons];omega
theorem AL{s sub:nA}(o:bD s)(h:sub.length=1)(hd:decide (0≤pA s sub)=true):0≤IntKind.wrap .i64 ((pA s sub)+(sub.length:Int))∧IntKind.wrap .i64 ((pA s sub)+(sub.length:Int))≤(s.length:Int):=by
 have h1:=of_decide_eq_true hd
 have h2:=GI (s:=s) h
 unfold bD at o
 rw[h,UE oM]
 omega
theorem nD{s:nA}(h:bD s)(b:Int)(i:Nat):bD ((eA s b).getD i gA):=by
 have hh:∀x∈eA s b,bD x:=by
  unfold eA
  refine CC (fun _ (p:List nA×Int)=>∀x∈p.1,bD x) (fun(v:List nA)=>∀x∈v,bD x) (fun _ h=>by cases h) ?_ ?_
  ·rintro⟨x,a⟩ hx y hy
   rcases List.mem_append.1 hy with hy | hy
   ·exact hx y hy
   ·rw[List.mem_singleton.1 hy];exact h.drop _
  ·rintro j ⟨x,a⟩ _ _ hx
   unfold lC
   dsimp only
   cases decide (((s.getD j 0).toNat:Int)=b)
   ·exact hx
   ·intro y hy
    rcases List.mem_append.1 hy with hy | hy
    ·exact hx y hy
    ·rw[List.mem_singleton.1 hy];exact(h.take _).drop _
 rw[List.getD_eq_getElem?_getD]
 cases h1:(eA s b)[i]? with
 | none=>exact wB
 | some x=>exact hh x (List.mem_of_getElem? h1)
theorem MF(s:nA)(b:UInt8):eA s (b.toNat:Int)=sp b s:=by
 unfold eA
 refine CC (fun k (p:List nA×Int)=>0≤p.2∧p.2.toNat≤k∧b∉(s.take k).drop p.2.toNat∧p.1++sp b (s.drop p.2.toNat)=sp b s) (fun(v:List nA)=>v=sp b s) ⟨by omega,by simp,by simp,by simp⟩ ?_ ?_
 ·rintro⟨x,a⟩ ⟨h1,h2,h3,h4⟩
  dsimp only at h1 h2 h3 h4 ⊢
  rw[show s.take (0+(s.length-0))=s from by rw[List.take_of_length_le oM]]at h3
  rw[xF h3]at h4
  exact h4
 ·rintro j ⟨x,a⟩ _ hj ⟨h1,h2,h3,h4⟩
  have hj':j<s.length:=by omega
  unfold lC
  dsimp only at h1 h2 h3 h4 ⊢
  have ht:(s.take (j+1)).drop a.toNat=(s.take j).drop a.toNat++[s.getD j 0]:=by
   rw[VC hj',List.take_succ_eq_append_getElem hj',List.drop_append_of_le_length (by rw[List.length_take];omega)]
  have hd:s.drop a.toNat=(s.take j).drop a.toNat++s.getD j 0::s.drop (j+1):=by
   conv=>lhs;rw[←List.take_append_drop j s]
   rw[List.drop_append_of_le_length (by rw[List.length_take];omega),VC hj',List.drop_eq_getElem_cons hj']
  rw[sK]
  cases hc:s.getD j 0==b
  ·refine⟨h1,oM,?_,h4⟩
   rw[ht]
   intro hm
   rcases List.mem_append.1 hm with hm | hm
   ·exact h3 hm
   ·rw[←List.mem_singleton.1 hm]at hc;simp at hc
  ·have hb:s.getD j 0=b:=eq_of_beq hc
   refine⟨by omega,by simp,by simp,?_⟩
   rw[hd,hb,jE h3]at h4
   rw[←h4,List.append_assoc]
   show x++([_]++sp b (s.drop _))=_
   rw[show(((j+1:Nat):Int)).toNat=j+1 from by simp]
   rfl
theorem mI{a r:nA}{c:UInt8}(h:c∉a)(hl:a.length≤1073741824):aA (a++c::r) [c]=(a,r,true):=by
 have h1:pA (a++c::r) [c]=(a.length:Int):=by
  rw[zH]
  rcases ED c (a++c::r)with⟨h2,_⟩ | ⟨a',r',h2,h3,h4⟩
  ·simp at h2
  ·have:a'::sp c r'=a::sp c r:=by rw[←jE h3,←jE h,h2]
   rw[h4,(List.cons.inj this).1]
 unfold aA LA
 rw[h1,decide_eq_true oM]
 simp only[cond_true]
 rw[UE (by simp only[List.length_cons,List.length_nil];omega)]
 have h2:((a.length:Int)).toNat=a.length:=by simp
 have h3:((a.length:Int)+(([c]:nA).length:Int)).toNat=a.length+1:=by simp only[List.length_cons,List.length_nil];omega
 rw[h2,h3]
 simp
theorem DG{ρ σ:Type}{b b':Nat→σ→yE ρ σ}:∀(n k:Nat) (s:σ),(∀j s,k≤j→j<k+n→b j s=b' j s)→FA b n k s=FA b' n k s
 | 0,_,_,_=>rfl
 | n+1,k,s,h=>by
  have h1:=h k s (Nat.le_refl _) oM
  have ih:=fun s=>DG n (k+1) s fun j s h2 h3=>h j s oM oM
  simp only[FA]
  rw[h1]
  cases b' k s with
  | ret r=>rfl
  | brk s=>rfl
  | cont s=>exact ih s
theorem pE(sep x y:nA)(zs:List nA):sep.intercalate (x::y::zs)=x++(sep++sep.intercalate (y::zs)):=by
 simp[List.intercalate,List.intersperse]
theorem uF(sep x:nA):sep.intercalate [x]=x:=by simp[List.intercalate]
theorem aG(sep x:nA):∀xs:List nA,0<xs.length→sep.intercalate (xs++[x])=(sep.intercalate xs++sep)++x
 | [],h=>by simp at h
 | [y],_=>by show sep.intercalate (y::x::[])=_;rw[pE,uF,uF,List.append_assoc]
 | y::z::zs,_=>by
  show sep.intercalate (y::z::(zs++[x]))=_
  rw[pE,show z::(zs++[x])=(z::zs)++[x]from rfl,aG sep x (z::zs) (Nat.succ_pos _),pE]
  simp only[List.append_assoc]
theorem pG:∀xs:List nA,(∀x∈xs,x.length≤3)→(([44]:nA).intercalate xs).length≤4*xs.length
 | [],_=>Nat.zero_le _
 | [x],h=>by have:=h x (by simp);rw[uF,List.length_singleton];omega
 | x::y::zs,h=>by
  have h1:=h x (by simp)
  have h2:=pG (y::zs) fun z hz=>h z (List.mem_cons_of_mem _ hz)
  rw[pE,List.length_append,List.length_append,List.length_cons (as:=y::zs)]
  simp only[List.length_cons,List.length_nil]at h2 ⊢
  omega
theorem OH(xs:List nA)(sep:nA):uD xs sep=DA xs sep:=by
 unfold uD DA
 refine CC (fun k (s:nA)=>s=sep.intercalate (xs.take k)) (fun(v:nA)=>v=sep.intercalate xs) rfl (fun s h=>by rw[h,List.take_of_length_le oM]) ?_
 intro j s _ hj hs
 have hj':j<xs.length:=by omega
 unfold EC
 dsimp only
 rw[List.take_succ_eq_append_getElem hj',VC hj']
 by_cases h0:0<j
 ·rw[decide_eq_true oM,hs,aG _ _ _ (by rw[List.length_take];omega)];rfl
 ·have:j=0:=by omega
  subst this
  rw[decide_eq_false oM,hs]
  show[]++_=_
  simp[List.intercalate]
theorem AI{s:Int}(h:fC s=true):0≤s∧s≤3:=jF h
theorem SF(s:nA)(b:Int):1≤(eA s b).length∧(eA s b).length≤s.length+1:=by
 unfold eA
 refine CC (fun k (p:List nA×Int)=>p.1.length≤k) (fun(v:List nA)=>1≤v.length∧v.length≤s.length+1) (Nat.zero_le _) ?_ ?_
 ·rintro⟨x,a⟩ h1
  dsimp only at h1 ⊢
  rw[List.length_append,List.length_singleton];omega
 ·rintro j ⟨x,a⟩ _ hj h1
  dsimp only at h1
  unfold lC
  dsimp only
  cases decide (((s.getD j 0).toNat:Int)=b)
  ·exact Nat.le_succ_of_le h1
  ·show(x++_).length≤_
   rw[List.length_append,List.length_singleton];omega
theorem XG(s sep:nA):1≤(bA s sep).length∧(bA s sep).length≤s.length+1:=⟨eL _ _,uG _ _⟩
theorem nJ{t:GA}(h:CA t=true):t.Name.length≤1:=Nat.le_of_eq (CF.of h).name
theorem kF{t:GA}(h:CA t=true){k:Nat}(hk:k<t.Idxs.length):0≤(t.Idxs.getD k dA).Col∧(t.Idxs.getD k dA).Col<(t.Cols.length:Int)∧0≤(t.Idxs.getD k dA).Stage∧(t.Idxs.getD k dA).Stage≤3∧(t.Idxs.getD k dA).Name.length=1:=by
 obtain⟨a,b,c,d,e⟩:=(CF.of h).idx k hk
 exact⟨by omega,c,d,e,a⟩
theorem kJ{t:GA}(h:CA t=true):∀c∈t.Cols,c.length≤3:=by
 rw[qE,RE]at h
 simp only[Bool.and_eq_true]at h
 have h2:=h.1.1.2.1
 intro c hc
 obtain⟨k,hk,rfl⟩:=List.mem_iff_getElem.1 hc
 have h3:=List.all_eq_true.1 h2 k (List.mem_range.2 hk)
 unfold ZF at h3
 rw[Bool.and_eq_true,VC hk]at h3
 have:=nF h3.1
 omega
theorem vF{t:GA}(h:CA t=true):(DA t.Cols ([44]:nA)).length≤1073741824:=by
 have h1:=pG t.Cols (kJ h)
 have h2:=(CF.of h).cols
 unfold DA;omega
theorem jK{n:Int}(h:0≤n∧n≤9):IC n=eB n:=by
 have:n=0∨n=1∨n=2∨n=3∨n=4∨n=5∨n=6∨n=7∨n=8∨n=9:=by omega
 rcases this with rfl | rfl | rfl | rfl | rfl | rfl | rfl | rfl | rfl | rfl<;>decide
theorem rK(n:Int):(IC n).length=1:=rfl
theorem PK(n:Int):(eB n).length=1:=rfl
theorem fG{t:GA}(h:CA t=true):mD t=QB t:=by
 unfold mD QB
 rw[OH]
 congr 1
 refine DG _ _ _ fun j s _ hj=>?_
 have hg:=kF h (k:=j) oM
 unfold JC FC
 dsimp only
 rw[jK oM]
theorem KI(c:UInt8):∀xs:List nA,0<xs.length→(∀x∈xs,c∉x)→sp c (([c]:nA).intercalate xs)=xs
 | [],h,_=>absurd h (Nat.lt_irrefl _)
 | [x],_,h=>by rw[uF];exact xF (h x (by simp))
 | x::y::zs,_,h=>by
  rw[pE,show x++(([c]:nA)++([c]:nA).intercalate (y::zs))=x++c::([c]:nA).intercalate (y::zs)from rfl,jE (h x (by simp)),KI c (y::zs) (Nat.succ_pos _) fun z hz=>h z (List.mem_cons_of_mem _ hz)]
theorem nL(s sep:nA):(aA s sep).1.length≤s.length∧(aA s sep).2.1.length≤s.length:=by
 unfold aA LA
 cases decide (0≤pA s sep)
 ·exact⟨Nat.le_refl _,Nat.zero_le _⟩
 ·simp only[cond_true,List.length_take,List.length_drop]
  omega
theorem OF{s:nA}{m:Int}(h:BA s m=true){c:UInt8}(hc:AE c=false):c∉s:=by
 rw[GF,Bool.and_eq_true,Bool.and_eq_true,List.all_eq_true]at h
 intro hm
 rw[h.1.1 _ hm]at hc;cases hc
structure PE (t:GA):Prop where
 name:∀{c:UInt8},AE c=false→c∉t.Name
 col:∀x∈t.Cols,∀{c:UInt8},AE c=false→c∉x
 idx:∀k,k<t.Idxs.length→∀{c:UInt8},AE c=false→c∉(t.Idxs.getD k dA).Name
 dist:∀k,k<t.Cols.length→∀j,j<k→t.Cols.getD j gA≠t.Cols.getD k gA
theorem PE.of{t:GA}(h:CA t=true):PE t:=by
 rw[qE,RE]at h
 simp only[Bool.and_eq_true,List.all_eq_true,List.mem_range]at h
 obtain⟨⟨⟨h1,h2,-⟩,-⟩,h4⟩:=h
 have hcol:∀k,k<t.Cols.length→BA (t.Cols.getD k gA) 3=true∧((t.Cols.take k).any fun x=>x==t.Cols.getD k gA)=false:=fun k hk=>by
  have:=h2 k hk
  unfold ZF at this
  rw[Bool.and_eq_true]at this
  exact⟨this.1,by simpa using this.2⟩
 refine⟨fun hc=>OF h1 hc,fun x hx c hc=>?_,fun k hk c hc=>?_,fun k hk j hj e=>?_⟩
 ·obtain⟨k,hk,rfl⟩:=List.mem_iff_getElem.1 hx
  have:=(hcol k hk).1
  rw[VC hk]at this
  exact OF this hc
 ·have:=h4 k hk
  unfold HH at this
  simp only[Bool.and_eq_true]at this
  exact OF this.1.1.1 hc
 ·have h5:=(hcol k hk).2
  rw[List.any_eq_false]at h5
  refine h5 (t.Cols.getD j gA) ?_ (by rw[e];exact beq_self_eq_true _)
  rw[VC (by omega:j<t.Cols.length)]
  exact List.mem_take_iff_getElem.2 ⟨j,oM,rfl⟩
theorem pJ{f:nA→Bool}{d:nA}{xs:List nA}{k:Nat}(hk:k<xs.length)(ht:f (xs.getD k d)=true)(hb:∀j,j<k→f (xs.getD j d)=false):gK f d xs=(k:Int):=by
 rcases GH f d xs with⟨_,h2⟩ | ⟨i,hi,h1,h2,h3⟩
 ·rw[h2 _ (RG hk)]at ht;cases ht
 ·rw[h1]
  rcases Nat.lt_trichotomy i k with h | h | h
  ·have:=hb i h;rw[VC hi,h2]at this;cases this
  ·rw[h]
  ·have:=h3 k h;rw[VC hk,this]at ht;cases ht
theorem dK{t:GA}(h:CA t=true){k:Nat}(hk:k<t.Cols.length):iD t.Cols (t.Cols.getD k gA)=(k:Int)∧KA t.Cols (t.Cols.getD k gA)=(k:Int):=by
 have hd:=(PE.of h).dist k hk
 exact⟨pJ (f:=fun x=>x==t.Cols.getD k gA) (d:=gA) hk (beq_self_eq_true _) fun j hj=>beq_eq_false_iff_ne.2 (hd j hj),
  pJ (f:=fun x=>t.Cols.getD k gA==x) (d:=gA) hk (beq_self_eq_true _) fun j hj=>beq_eq_false_iff_ne.2 fun e=>hd j hj e.symm⟩
def cE(t:GA)(x:LB):nA:=x.Name++47::(t.Cols.getD x.Col.toNat gA++47::IC x.Stage)
def xE(t:GA):nA:=t.Name++40::DA t.Cols ([44]:nA)
def MI(ws:List nA):nA:=(ws.map fun w=>(32:UInt8)::w).flatten
theorem TG(t:GA):QB t=xE t++41::MI (t.Idxs.map (cE t)):=by
 unfold QB
 rw[GL (body:=FC t) (xs:=t.Idxs) dA (fun x=>(32:UInt8)::cE t x) fun k x _=>by
  unfold FC cE
  simp only[List.append_assoc,List.singleton_append,List.cons_append,List.nil_append]]
 rw[OH]
 unfold xE MI
 simp only[List.append_assoc,List.singleton_append,List.cons_append,List.nil_append,List.map_map]
 rfl
theorem ZG{c:UInt8}:∀(ws:List nA) {h:nA},c∉h→(∀w∈ws,c∉w)→sp c (h++(ws.map fun w=>c::w).flatten)=h::ws
 | [],h,hh,_=>by rw[List.map_nil,List.flatten_nil,List.append_nil,xF hh]
 | w::ws,h,hh,hw=>by
  rw[List.map_cons,List.flatten_cons,List.cons_append,jE hh,ZG ws (hw w List.mem_cons_self) fun x hx=>hw x (List.mem_cons_of_mem _ hx)]
theorem xI{n:Int}(h:0≤n∧n≤3){c:UInt8}(hc:c.toNat<48∨51<c.toNat):c∉IC n:=by
 have:n=0∨n=1∨n=2∨n=3:=by omega
 intro hm
 rcases this with rfl | rfl | rfl | rfl
 ·rw[show IC 0=[48]from rfl,List.mem_singleton]at hm;subst hm;exact absurd hc (by decide)
 ·rw[show IC 1=[49]from rfl,List.mem_singleton]at hm;subst hm;exact absurd hc (by decide)
 ·rw[show IC 2=[50]from rfl,List.mem_singleton]at hm;subst hm;exact absurd hc (by decide)
 ·rw[show IC 3=[51]from rfl,List.mem_singleton]at hm;subst hm;exact absurd hc (by decide)
theorem lJ{t:GA}(h:CA t=true){k:Nat}(hk:k<t.Idxs.length):t.Cols.getD (t.Idxs.getD k dA).Col.toNat gA∈t.Cols:=by
 have:=kF h hk
 exact RG oM
theorem xJ{t:GA}(h:CA t=true):∀w∈t.Idxs.map (cE t),(32:UInt8)∉w:=by
 intro w hw
 obtain⟨x,hx,rfl⟩:=List.mem_map.1 hw
 obtain⟨k,hk,rfl⟩:=List.mem_iff_getElem.1 hx
 have hx:=PE.of h
 have h1:=hx.idx k hk (c:=32) (by decide)
 have h2:=hx.col _ (lJ h hk) (c:=32) (by decide)
 have h3:=xI (n:=(t.Idxs.getD k dA).Stage) (by have:=kF h hk;omega) (c:=32) (.inl (by decide))
 rw[VC hk]at h1 h2 h3
 unfold cE
 simp only[List.mem_append,List.mem_cons,not_or]
 exact⟨h1,by decide,h2,by decide,h3⟩
theorem yJ{t:GA}(h:CA t=true){k:Nat}(hk:k<t.Idxs.length):sp 47 (cE t (t.Idxs.getD k dA))=[(t.Idxs.getD k dA).Name,t.Cols.getD (t.Idxs.getD k dA).Col.toNat gA,IC (t.Idxs.getD k dA).Stage]:=by
 have hx:=PE.of h
 unfold cE
 rw[jE (hx.idx k hk (by decide)),jE (hx.col _ (lJ h hk) (by decide)),xF (xI (by have:=kF h hk;omega) (.inl (by decide)))]
theorem KK{t:GA}(h:CA t=true){c:UInt8}(hc:AE c=false)(h44:c≠44):c∉DA t.Cols ([44]:nA):=by
 have key:∀xs:List nA,(∀x∈xs,c∉x)→c∉([44]:nA).intercalate xs:=by
  intro xs
  induction xs with
  | nil=>intro _ hm;cases hm
  | cons x xs ih=>
   intro hx
   cases xs with
   | nil=>intro hm;rw[show([44]:nA).intercalate [x]=x by simp[List.intercalate]]at hm;exact hx x List.mem_cons_self hm
   | cons y ys=>
    have h2:=ih fun z hz=>hx z (List.mem_cons_of_mem _ hz)
    rw[show([44]:nA).intercalate (x::y::ys)=x++44::([44]:nA).intercalate (y::ys)by simp[List.intercalate]]
    simp only[List.mem_append,List.mem_cons,not_or]
    exact⟨hx x List.mem_cons_self,h44,h2⟩
 exact key t.Cols fun x hx=>(PE.of h).col x hx hc
theorem oJ{t:GA}(h:CA t=true){c:UInt8}(hc:AE c=false)(h44:c≠44)(h40:c≠40):c∉xE t:=by
 unfold xE
 simp only[List.mem_append,List.mem_cons,not_or]
 exact⟨(PE.of h).name hc,h40,KK h hc h44⟩
theorem mJ{t:GA}(h:CA t=true):sp 44 (DA t.Cols ([44]:nA))=t.Cols:=
 KI 44 t.Cols (by have:=(CF.of h).cols;omega) fun x hx=>(PE.of h).col x hx (by decide)
theorem pL{α ρ T:Type}{body:Nat→List α→yE ρ (List α)}{fr:ρ→T}{fd:List α→T}(xs:List α)(hb:∀k,k<xs.length→body k (xs.take k)=.cont (xs.take (k+1))) :
  KC (FA body (xs.length-0) 0 []) fr fd=fd xs:=by
 refine CC (fun k s=>s=xs.take k) (fun v=>v=fd xs) rfl (fun s hs=>by rw[hs,List.take_of_length_le oM]) ?_
 intro j s _ hj hs
 rw[hs,hb j oM]
theorem eJ{t:GA}(h:CA t=true):eA (QB t) 32=(xE t++[41])::t.Idxs.map (cE t):=by
 rw[show eA (QB t) 32=sp 32 (QB t)from MF _ 32,TG]
 rw[show xE t++41::MI (t.Idxs.map (cE t))=(xE t++[41])++((t.Idxs.map (cE t)).map fun w=>(32:UInt8)::w).flatten by rw[List.append_assoc];rfl]
 refine ZG _ ?_ (xJ h)
 rw[List.mem_append,not_or]
 exact⟨oJ h (by decide) (by decide) (by decide),by decide⟩
theorem UH{t u:GA}(h:CA t=true)(hu:u.Cols=t.Cols){k:Nat}(hk:k<t.Idxs.length):rB u (cE t (t.Idxs.getD k dA))=(t.Idxs.getD k dA,true):=by
 have hg:=kF h hk
 have hw:=yJ h hk
 unfold rB
 rw[show eA (cE t (t.Idxs.getD k dA)) 47=_ from(MF _ 47).trans hw,hu]
 have hs:(t.Idxs.getD k dA).Stage=0∨(t.Idxs.getD k dA).Stage=1∨(t.Idxs.getD k dA).Stage=2∨(t.Idxs.getD k dA).Stage=3:=by omega
 have hc:iD t.Cols (t.Cols.getD (t.Idxs.getD k dA).Col.toNat gA)=(t.Idxs.getD k dA).Col:=by
  rw[(dK h (k:=(t.Idxs.getD k dA).Col.toNat) oM).1];omega
 generalize t.Idxs.getD k dA=x at *
 obtain⟨xn,xc,xs⟩:=x
 simp only at hs hc ⊢
 rcases hs with rfl | rfl | rfl | rfl
 all_goals
  simp only[List.length_cons,List.length_nil,List.getD_cons_zero,List.getD_cons_succ]
  rw[hc]
  rfl
theorem QG{t:GA}(h:CA t=true):NA (QB t)=(t,true):=by
 have hw:=eJ h
 have hT:=CF.of h
 obtain⟨n,hn⟩:∃n,t.Name=[n]:=by
  have:=hT.name
  match hN:t.Name,this with
  | [n],_=>exact⟨n,rfl⟩
 have hH:xE t++[41]=n::40::(DA t.Cols ([44]:nA)++[41]):=by unfold xE;rw[hn];rfl
 have hJ:=vF h
 unfold NA
 have e0:(eA (QB t) 32).getD 0 gA=n::40::(DA t.Cols ([44]:nA)++[41]):=by rw[hw,←hH];rfl
 have el:(n::40::(DA t.Cols ([44]:nA)++[41])).length=(DA t.Cols ([44]:nA)).length+3:=by simp
 have ew:IntKind.wrap .i64 (((n::40::(DA t.Cols ([44]:nA)++[41])).length:Int)-1)=((DA t.Cols ([44]:nA)).length+2:Nat):=by
  rw[el,UE oM];omega
 have e1:((n::40::(DA t.Cols ([44]:nA)++[41])).take ((DA t.Cols ([44]:nA)).length+2)).drop 2=DA t.Cols ([44]:nA):=by
  rw[List.take_succ_cons,List.take_succ_cons,List.drop_succ_cons,List.drop_succ_cons,List.drop_zero,List.take_left']
  rfl
 have e2:(n::40::(DA t.Cols ([44]:nA)++[41])).getD ((DA t.Cols ([44]:nA)).length+2) 0=41:=by
  rw[List.getD_cons_succ,List.getD_cons_succ]
  simp[List.getD]
 have e3:eA (DA t.Cols ([44]:nA)) 44=t.Cols:=by rw[show eA (DA t.Cols ([44]:nA)) 44=sp 44 _ from MF _ 44,mJ h]
 have e4:(eA (QB t) 32).drop 1=t.Idxs.map (cE t):=by rw[hw];rfl
 simp only[e0,ew,Int.toNat_natCast,e1,e2,e3,e4]
 rw[decide_eq_false (by rw[el];omega),cond_false]
 rw[show(n::40::(DA t.Cols ([44]:nA)++[41])).getD 1 0=40 from rfl,show decide (((40:UInt8).toNat:Int)=40)=true from rfl,show decide (((41:UInt8).toNat:Int)=41)=true from rfl,cond_true,cond_true]
 have ht:(n::40::(DA t.Cols ([44]:nA)++[41])).take 1=t.Name:=by rw[hn];rfl
 simp only[ht]
 rw[List.length_map]
 rw[pL t.Idxs fun k hk=>by
  unfold RB
  simp only[e0,ew,Int.toNat_natCast,e1,e3,e4,ht]
  have hk':k<(t.Idxs.map (cE t)).length:=by rw[List.length_map];exact hk
  have ek:(t.Idxs.map (cE t)).getD k gA=cE t (t.Idxs.getD k dA):=by rw[VC hk',List.getElem_map,VC hk]
  rw[ek,UH (u:=⟨t.Name,t.Cols,t.Idxs.take k⟩) h rfl hk,List.take_succ_eq_append_getElem hk,←VC (d:=dA) hk]
  rfl]
 rw[show(⟨t.Name,t.Cols,t.Idxs⟩:GA)=t from rfl,h,cond_true,beq_self_eq_true,cond_true]
def bG:GA×Bool:=(⟨[],[],[]⟩,false)
theorem FK{σ ρ:Type}{c:Bool}{a:σ}{r:ρ}:(bif c then yE.cont a else yE.ret r)=yE.ret r∨∃y,(bif c then yE.cont a else(yE.ret r:yE ρ σ))=yE.cont y:=by
 cases c
 ·exact .inl rfl
 ·exact .inr ⟨a,rfl⟩
theorem II(s:nA):NA s=bG∨∃t,NA s=(t,true)∧CA t=true∧QB t=s:=by
 unfold NA
 cases decide ((((eA s 32).getD 0 gA).length:Int)<3)
 case true=>exact .inl rfl
 rw[cond_false]
 cases decide (((((eA s 32).getD 0 gA).getD 1 0).toNat:Int)=40)
 case false=>exact .inl rfl
 rw[cond_true]
 cases decide (((((eA s 32).getD 0 gA).getD (IntKind.wrap .i64 ((((eA s 32).getD 0 gA).length:Int)-1)).toNat 0).toNat:Int)=41)
 case false=>exact .inl rfl
 rw[cond_true]
 refine CC (fun _ _=>True) (fun v=>v=bG∨∃t,v=(t,true)∧CA t=true∧QB t=s) trivial (fun x _=>?_) fun j x _ _ _=>?_
 ·generalize (⟨((eA s 32).getD 0 gA).take 1,_,x⟩:GA)=t
  cases hg:CA t
  ·exact .inl rfl
  ·cases hb:QB t==s
   ·exact .inl rfl
   ·exact .inr ⟨t,rfl,hg,by simpa using hb⟩
 ·have hb:RB s j x=.ret bG∨∃y,RB s j x=.cont y:=FK
  rcases hb with hb | ⟨y,hb⟩<;>rw[hb]
  ·exact .inl rfl
  ·trivial
theorem AG(s:nA):zA s=bG∨∃t,zA s=(t,true)∧CA t=true∧QB t=s:=by
 unfold zA
 refine CC (fun _ _=>True) (fun v=>v=bG∨∃t,v=(t,true)∧CA t=true∧QB t=s) trivial (fun x _=>?_) fun j x _ _ _=>?_
 ·obtain⟨x1,x2⟩:=x
  dsimp only
  generalize (⟨(aA ((aA s ([41]:nA)).1) ([40]:nA)).1,_,x2⟩:GA)=t
  cases x1
  ·exact .inl rfl
  ·cases (aA ((aA s ([41]:nA)).1) ([40]:nA)).2.2
   ·exact .inl rfl
   ·rw[eE]
    cases hg:CA t
    ·exact .inl rfl
    ·rw[fG hg]
     cases hb:QB t==s
     ·exact .inl rfl
     ·exact .inr ⟨t,rfl,hg,by simpa using hb⟩
 ·obtain⟨x1,x2⟩:=x
  unfold xB
  dsimp only
  cases decide ((j:Int)=0)
  ·rw[cond_false]
   cases decide (((bA ((bA ((aA s ([41]:nA)).2.1) ([32]:nA)).getD j gA) ([47]:nA)).length:Int)=3)
   ·exact .inl rfl
   ·cases x1<;>trivial
  ·trivial
theorem FI{n:Int}(h:0≤n∧n≤3):VB (IC n) 0 3=(n,true):=by
 have:n=0∨n=1∨n=2∨n=3:=by omega
 rcases this with rfl | rfl | rfl | rfl<;>rfl
theorem VI{t:GA}(h:CA t=true):zA (QB t)=(t,true):=by
 have hx:=PE.of h
 have hT:=CF.of h
 have hJ:(DA t.Cols ([44]:nA)).length≤100:=by
  have h1:=pG t.Cols (kJ h)
  have h2:=hT.cols
  unfold DA;omega
 have hl:(xE t).length≤1073741824:=by unfold xE;rw[List.length_append,List.length_cons,hT.name];omega
 have hc1:aA (QB t) ([41]:nA)=(xE t,MI (t.Idxs.map (cE t)),true):=by
  rw[TG,mI (oJ h (by decide) (by decide) (by decide)) hl]
 have hc2:aA (xE t) ([40]:nA)=(t.Name,DA t.Cols ([44]:nA),true):=by
  unfold xE;rw[mI (hx.name (by decide)) (by rw[hT.name];omega)]
 have hs1:bA (MI (t.Idxs.map (cE t))) ([32]:nA)=[]::t.Idxs.map (cE t):=
  ZG (h:=[]) (t.Idxs.map (cE t)) (by simp) (xJ h)
 have hs2:bA (DA t.Cols ([44]:nA)) ([44]:nA)=t.Cols:=mJ h
 unfold zA
 simp only[hc1,hc2,hs1,hs2]
 refine CC (fun k s=>s=(true,t.Idxs.take (k-1))) (fun v=>v=(t,true)) rfl ?_ ?_
 ·intro s hs
  subst hs
  simp only
  rw[show 0+(([]::t.Idxs.map (cE t):List nA).length-0)-1=t.Idxs.length by simp,List.take_length]
  rw[show(⟨t.Name,t.Cols,t.Idxs⟩:GA)=t from rfl,eE,h,cond_true,cond_true,cond_true,fG h,beq_self_eq_true,cond_true]
 ·intro j s _ hj hs
  subst hs
  unfold xB
  simp only[hc1,hc2,hs1,hs2]
  rcases j with _ | j
  ·rfl
  ·have hj':j<t.Idxs.length:=by simp at hj;omega
   have hg:=kF h hj'
   have hjm:j<(t.Idxs.map (cE t)).length:=by rw[List.length_map];exact hj'
   have ek:([]::t.Idxs.map (cE t):List nA).getD (j+1) gA=cE t (t.Idxs.getD j dA):=by rw[List.getD_cons_succ,VC hjm,List.getElem_map,VC hj']
   have hw:bA (cE t (t.Idxs.getD j dA)) ([47]:nA)=_:=yJ h hj'
   rw[decide_eq_false oM,cond_false,ek,hw]
   have hcol:KA t.Cols (t.Cols.getD (t.Idxs.getD j dA).Col.toNat gA)=(t.Idxs.getD j dA).Col:=by
    rw[(dK h (k:=(t.Idxs.getD j dA).Col.toNat) oM).2];omega
   have hn:=FI (n:=(t.Idxs.getD j dA).Stage) oM
   simp only[List.getD_cons_zero,List.getD_cons_succ,hn,hcol]
   show(true,t.Idxs.take (j+1-1)++[t.Idxs.getD j dA])=(true,t.Idxs.take (j+1+1-1))
   rw[Nat.add_sub_cancel,Nat.add_sub_cancel,List.take_succ_eq_append_getElem hj',VC hj']
theorem PH(s:nA):zA s=NA s:=by
 rcases II s with hs | ⟨t,hs,hg,ht⟩
 ·rcases AG s with hi | ⟨u,hi,hg,hu⟩
  ·rw[hs,hi]
  ·have:=QG hg
   rw[hu,hs]at this
   exact absurd (congrArg Prod.snd this) Bool.false_ne_true
 ·rw[hs,←ht];exact VI hg
theorem jH(s:nA):(zA s).1.Cols.length≤4∧(zA s).1.Idxs.length≤3:=by
 rcases AG s with hi | ⟨u,hi,hg,hu⟩
 ·rw[hi];exact⟨Nat.zero_le _,Nat.zero_le _⟩
 ·rw[hi];exact⟨(CF.of hg).cols.2,(CF.of hg).idxs⟩
theorem bH(s:nA)(_:CK s):XA s=true:=by
 unfold XA
 cases h1:decide (1048576<(s.length:Int))
 case true=>rfl
 have hc:=jH s
 obtain⟨h4,h5⟩:=mK (zA s).1 1 (by decide) oM
 simp only[cond_false,←PH,fK,beq_self_eq_true,cond_true,vH,h4,h5]
 rw[decide_eq_false oM,cond_false,decide_true];rfl
end Go.Proofs.YtdknedcbonflgaaDoor
