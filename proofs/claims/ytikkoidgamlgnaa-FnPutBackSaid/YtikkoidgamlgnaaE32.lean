/- Lists whose elements own memory, in no order of blocks. -/
import Derived.Test.YtikkoidgamlgnaaE31
set_option linter.unusedVariables false
set_option linter.unusedSimpArgs false
namespace Go.X
open Go.RowKit
def VL(v u:Nat×Nat):Prop:=v.2≤u.1∨u.2≤v.1
theorem VL.symm{v u:Nat×Nat}(h:VL v u):VL u v:=Or.symm h
inductive XF {α:Type}(RO:rF α) (w:World) (sz:Nat) (g:Option Nat) (lo hi:Nat):List (Nat×Nat)→List (List Value)→List α→Prop
 | nil:XF RO w sz g lo hi [] [] []
 | cons {v:Nat×Nat}{c:List Value}{x:α}{vs:List (Nat×Nat)}{cs:List (List Value)}{xs:List α}(h0:lo≤v.1∧v.1≤v.2∧v.2≤hi) (hl:c.length=sz) (hg:∀k,g=some k→k<v.1∨v.2≤k) (hr:RO w v.1 v.2 c x) (hd:∀u∈vs,VL v u) (hs:XF RO w sz g lo hi vs cs xs):XF RO w sz g lo hi (v::vs) (c::cs) (x::xs)
section
variable {α:Type}{RO:rF α}{R:KF α}{w w':World}{sz:Nat}{g g':Option Nat}{lo hi lo' hi' i:Nat}{cs:List (List Value)}{xs:List α}{vs:List (Nat×Nat)}{c:List Value}
theorem XF.len(k:XF RO w sz g lo hi vs cs xs):cs.length=xs.length∧vs.length=xs.length∧cs.flatten.length=xs.length*sz:=by
 induction k with
 | nil=>simp
 | cons h0 hl hg hr hd hs ih=>
  obtain⟨a,b,d⟩:=ih
  refine⟨by simp[a],by simp[b],?_⟩
  rw[List.flatten_cons,List.length_append,hl,d,List.length_cons,Nat.succ_mul];omega
theorem XF.in(k:XF RO w sz g lo hi vs cs xs):∀v∈vs,lo≤v.1∧v.1≤v.2∧v.2≤hi∧∀b,g=some b→b<v.1∨v.2≤b:=by
 induction k with
 | nil=>intro v hv;cases hv
 | cons h0 hl hg hr hd hs ih=>
  intro u hu
  rcases List.mem_cons.1 hu with rfl | hu
  ·exact⟨h0.1,h0.2.1,h0.2.2,hg⟩
  ·exact ih u hu
theorem XF.keepV(hG:oG RO R)(k:XF RO w sz g lo hi vs cs xs)(hk:∀v∈vs,∀b,v.1≤b→b<v.2→b<w.heap.size→w'.heap[b]? = w.heap[b]?):XF RO w' sz g lo hi vs cs xs:=by
 induction k with
 | nil=>exact .nil
 | cons h0 hl hg hr hd hs ih=>exact .cons h0 hl hg (hG.keep hr (hk _ (List.mem_cons_self ..))) hd (ih fun v hv=>hk v (List.mem_cons_of_mem _ hv))
theorem XF.keep(hG:oG RO R)(k:XF RO w sz g lo hi vs cs xs)(hk:∀b,lo≤b→b<hi→g≠some b→b<w.heap.size→w'.heap[b]? = w.heap[b]?):XF RO w' sz g lo hi vs cs xs:=
 k.keepV hG fun v hv b h1 h2 h3=>by
  obtain⟨a1,a2,a3,a4⟩:=k.in v hv
  exact hk b (by omega) (by omega) (fun e=>by have:=a4 b e;omega) h3
theorem XF.to(k:XF RO w sz g lo hi vs cs xs)(hv:∀v∈vs,lo'≤v.1∧v.2≤hi'∧∀b,g'=some b→b<v.1∨v.2≤b):XF RO w sz g' lo' hi' vs cs xs:=by
 induction k with
 | nil=>exact .nil
 | cons h0 hl hg hr hd hs ih=>
  obtain⟨a,b,d⟩:=hv _ (List.mem_cons_self ..)
  exact .cons ⟨a,h0.2.1,b⟩ hl d hr hd (ih fun v h=>hv v (List.mem_cons_of_mem _ h))
theorem XF.enc(hG:oG RO R)(hg:Gd R)(k:XF RO w sz g lo hi vs cs xs):JB (R w fun b=>lo≤b∧b<hi∧g≠some b) sz cs.flatten xs:=by
 induction k with
 | nil=>exact .nil
 | cons h0 hl hg' hr hd hs ih=>
  rw[List.flatten_cons]
  exact .cons hl (hg.wide (hG.rd hr) fun b hb _=>⟨Nat.le_trans h0.1 hb.1,Nat.lt_of_lt_of_le hb.2 h0.2.2,fun e=>by have:=hg' b e;have:=hb.1;have:=hb.2;omega⟩) ih
theorem XF.ones(hG:oG RO R)(k:XF RO w sz g lo hi vs cs xs):∀u∈cs.flatten,u.oneCell'=true:=by
 induction k with
 | nil=>intro u hu;cases hu
 | cons h0 hl hg' hr hd hs ih=>
  intro u hu
  rw[List.flatten_cons]at hu
  rcases List.mem_append.1 hu with hu | hu
  ·exact List.all_eq_true.1 (hG.one hr) u hu
  ·exact ih u hu
theorem XF.ins{v:Nat×Nat}{x:α}(h0:lo≤v.1∧v.1≤v.2∧v.2≤hi)(hl:c.length=sz)(hg:∀k,g=some k→k<v.1∨v.2≤k)(hr:RO w v.1 v.2 c x)(k:XF RO w sz g lo hi vs cs xs):∀{i:Nat},i≤xs.length→(∀u∈vs,VL v u) →
  ∃us,XF RO w sz g lo hi us (cs.take i++c::cs.drop i) (xs.take i++x::xs.drop i)∧∀u∈us,u=v∨u∈vs:=by
 induction k with
 | nil=>intro i hi hd;exact⟨[v],by simpa using XF.cons h0 hl hg hr (fun u h=>by cases h) XF.nil,fun u hu=>.inl (List.mem_singleton.1 hu)⟩
 | @cons v' c' x' vs cs xs h0' hl' hg' hr' hd' hs ih=>
  intro i hi hd
  cases i with
  | zero=>exact⟨v::v'::vs,.cons h0 hl hg hr hd (.cons h0' hl' hg' hr' hd' hs),fun u hu=>(List.mem_cons.1 hu).imp id id⟩
  | succ i=>
   obtain⟨us,a,b⟩:=ih (i:=i) (by simpa using hi) fun u hu=>hd u (List.mem_cons_of_mem _ hu)
   refine⟨v'::us,.cons h0' hl' hg' hr' (fun u hu=>?_) a,fun u hu=>?_⟩
   ·rcases b u hu with rfl | h
    ·exact(hd v' (List.mem_cons_self ..)).symm
    ·exact hd' u h
   ·rcases List.mem_cons.1 hu with rfl | h
    ·exact .inr (List.mem_cons_self ..)
    ·exact(b u h).imp id (List.mem_cons_of_mem _)
theorem XF.del(d:α)(k:XF RO w sz g lo hi vs cs xs):∀{i:Nat},i<xs.length→∃v c us ds,(lo≤v.1∧v.1≤v.2∧v.2≤hi)∧c.length=sz∧(∀k,g=some k→k<v.1∨v.2≤k)∧RO w v.1 v.2 c (xs.getD i d)∧(∀u∈us,VL v u) ∧
  XF RO w sz g lo hi us ds (xs.eraseIdx i)∧cs=ds.take i++c::ds.drop i∧(∀u∈us,u∈vs)∧v∈vs:=by
 induction k with
 | nil=>intro i hi;simp at hi
 | @cons v' c' x' vs cs xs h0' hl' hg' hr' hd' hs ih=>
  intro i hi
  cases i with
  | zero=>exact⟨v',c',vs,cs,h0',hl',hg',hr',hd',hs,rfl,fun u hu=>List.mem_cons_of_mem _ hu,List.mem_cons_self ..⟩
  | succ i=>
   obtain⟨v,c,us,ds,a1,a2,a3,a4,a5,a6,a7,a8,a9⟩:=ih (i:=i) (by simpa using hi)
   refine⟨v,c,v'::us,c'::ds,a1,a2,a3,by simpa using a4,fun u hu=>?_,?_,by rw[a7];rfl,fun u hu=>?_,List.mem_cons_of_mem _ a9⟩
   ·rcases List.mem_cons.1 hu with rfl | h
    ·exact(hd' v a9).symm
    ·exact a5 u h
   ·exact .cons h0' hl' hg' hr' (fun u hu=>hd' u (a8 u hu)) a6
   ·rcases List.mem_cons.1 hu with rfl | h
    ·exact List.mem_cons_self ..
    ·exact List.mem_cons_of_mem _ (a8 u h)
theorem bD.toI(k:bD RO w sz g lo hi cs xs):∃vs,XF RO w sz g lo hi vs cs xs:=by
 suffices h:∃vs,XF RO w sz g lo hi vs cs xs∧lo≤hi by exact⟨h.choose,h.choose_spec.1⟩
 induction k with
 | nil h=>exact⟨[],.nil,h⟩
 | @cons lo l h hi c x cs xs h1 h2 hl hg hr hs ih=>
  obtain⟨vs,a,b⟩:=ih
  refine⟨(l,h)::vs,.cons ⟨h1,h2,b⟩ hl hg hr (fun u hu=>.inl (a.in u hu).1) (a.to fun v hv=>?_),by omega⟩
  obtain⟨c1,c2,c3,c4⟩:=a.in v hv
  exact⟨by omega,c3,c4⟩
end
def DC{α:Type}(w:World)(lo hi E sz:Nat)(RO:rF α)(A:Option Addr)(n c:Nat)(xs:List α):Prop:=
 n=xs.length∧((n=0∧c=0)∨∃cells vs,Own w lo E sz A n c cells.flatten∧(∀k,blk A=some k→lo≤k∧k<hi)∧XF RO w sz (blk A) lo hi vs cells xs)
section
variable {α:Type}{RO:rF α}{R:KF α}{w w':World}{lo hi E sz n c i:Nat}{A:Option Addr}{xs:List α}
theorem IC.toU(h:IC w lo hi E sz RO A n c xs):DC w lo hi E sz RO A n c xs:=
 ⟨h.1,h.2.imp id fun⟨cells,ho,hb,hc⟩=>by obtain⟨vs,k⟩:=hc.toI;exact⟨cells,vs,ho,hb,k⟩⟩
theorem DC.len(h:DC w lo hi E sz RO A n c xs):n=xs.length:=h.1
theorem DC.fix(h:DC w lo hi E sz RO A n c xs):DC w lo hi E sz RO A xs.length c xs:=by
 obtain rfl:=h.1
 exact h
theorem DC.nil(w:World)(lo hi E sz:Nat)(RO:rF α):DC w lo hi E sz RO none 0 0 []:=⟨rfl,.inl ⟨rfl,rfl⟩⟩
theorem DC.empty(w:World)(lo hi E sz:Nat)(RO:rF α)(A:Option Addr):DC w lo hi E sz RO A 0 0 []:=⟨rfl,.inl ⟨rfl,rfl⟩⟩
theorem DC.own(hG:oG RO R)(hg:Gd R)(h:DC w lo hi E sz RO A n c xs):WA w lo hi E sz R A n c xs:=
 ⟨h.1,h.2.imp id fun⟨cells,vs,ho,hb,hc⟩=>⟨hb,fun b=>lo≤b∧b<hi∧blk A≠some b,_,ho,hc.enc hG hg,fun k hk hh=>hh.2.2 hk,fun b hb=>⟨hb.1,hb.2.1⟩⟩⟩
theorem DC.keep(hG:oG RO R)(h:DC w lo hi E sz RO A n c xs)(hk:∀b,lo≤b→b<hi→b<w.heap.size→w'.heap[b]? = w.heap[b]?):DC w' lo hi E sz RO A n c xs:=by
 refine⟨h.1,h.2.imp id fun⟨cells,vs,ho,hb,hc⟩=>⟨cells,vs,ho.keep fun k e=>?_,hb,hc.keep hG fun b h1 h2 _ h3=>hk b h1 h2 h3⟩⟩
 obtain⟨_,_,hf⟩:=ho.form
 obtain⟨k1,k2⟩:=hb k e
 rcases hf with⟨hA,_⟩ | ⟨g',hA,_,hlt⟩
 ·subst hA;cases e
 ·subst hA
  simp only[blk,Option.some.injEq]at e
  subst e
  exact hk _ k1 k2 hlt
theorem DC.ex(hG:oG RO R)(h:DC w lo hi E sz RO A n c xs)(e:Ex w w'):DC w' lo hi E sz RO A n c xs:=h.keep hG fun b _ _ hl=>Below.block e b hl
theorem DC.only(hG:oG RO R){b:Nat}(h:DC w lo hi E sz RO A n c xs)(e:fG b w w')(hb:b<lo∨hi≤b):DC w' lo hi E sz RO A n c xs:=h.keep hG fun k h1 h2 _=>e.block k (by omega)
theorem DC.grown(hG:oG RO R){row:Option Nat}(h:DC w lo hi E sz RO A n c xs)(e:w.grownBy w' row)(hb:∀k,row=some k→k<lo∨hi≤k):DC w' lo hi E sz RO A n c xs:=h.keep hG fun k h1 h2 h3=>e.block k h3 (fun hh=>by have:=hb k hh.symm;omega)
theorem DC.chg(hG:oG RO R){p:Nat→Prop}(h:DC w lo hi E sz RO A n c xs)(e:rD p w w')(hp:∀b,b<w.heap.size→p b→b<lo∨hi≤b):DC w' lo hi E sz RO A n c xs:=h.keep hG fun b h1 h2 hl=>e.block b hl fun hh=>by have:=hp b hl hh;omega
theorem DC.more{lo' hi':Nat}(h:DC w lo hi E sz RO A n c xs)(hl:lo'≤lo)(hh:hi≤hi'):DC w lo' hi' E sz RO A n c xs:=
 ⟨h.1,h.2.imp id fun⟨cells,vs,ho,hb,hc⟩=>⟨cells,vs,⟨⟨ho.1.1,by
  rcases ho.1.2 with hx | ⟨g,cap,cur,hv,hg,r⟩
  ·exact .inl hx
  ·exact .inr ⟨g,cap,cur,hv,by omega,r⟩⟩,ho.2⟩,fun k hk=>by have:=hb k hk;omega,hc.to fun v hv=>by
   obtain⟨a1,a2,a3,a4⟩:=hc.in v hv
   exact⟨by omega,by omega,a4⟩⟩⟩
def OE{α:Type}(w:World)(lo hi E sz:Nat)(RO:rF α)(A:Option Addr)(n c:Nat)(xs:List α)(i:Nat)(v:Nat×Nat)(e:List Value):Prop:=
 n=xs.length∧i<n∧e.length=sz∧∃ds us,Own w lo E sz A n c (ds.take i++e::ds.drop i).flatten∧(∀k,blk A=some k→(lo≤k∧k<hi)∧(k<v.1∨v.2≤k))∧XF RO w sz (blk A) lo hi us ds (xs.eraseIdx i)∧∀u∈us,VL v u
theorem DC.open(d:α)(h:DC w lo hi E sz RO A n c xs)(hi':i<n):∃g v e,A=some ⟨g,0,none⟩∧(lo≤g∧g<hi)∧g<w.heap.size∧(g<v.1∨v.2≤g)∧(lo≤v.1∧v.1≤v.2∧v.2≤hi)∧RO w v.1 v.2 e (xs.getD i d)∧OE w lo hi E sz RO A n c xs i v e:=by
 obtain⟨h0,h2⟩:=h
 rcases h2 with⟨h2,_⟩ | ⟨cells,vs,ho,hb,hc⟩
 ·omega
 ·obtain⟨v,e,us,ds,a1,a2,a3,a4,a5,a6,a7,a8,a9⟩:=hc.del d (i:=i) (by omega)
  obtain⟨_,_,hf⟩:=ho.form
  rcases hf with⟨hA,hn⟩ | ⟨g,hA,hlo,hlt⟩
  ·omega
  ·subst hA
   exact⟨g,v,e,rfl,hb g rfl,hlt,a3 g rfl,a1,a4,h0,hi',a2,ds,us,by rw[←a7];exact ho,fun k hk=>⟨hb k hk,a3 k hk⟩,a6,a5⟩
theorem SI{x:α}:∀{xs:List α}{i:Nat},i<xs.length→(xs.eraseIdx i).take i++x::(xs.eraseIdx i).drop i=xs.set i x
 | y::ys,0,_=>rfl
 | y::ys,i+1,h=>by
  have:=SI (x:=x) (xs:=ys) (i:=i) (by simpa using h)
  show y::((ys.eraseIdx i).take i++x::(ys.eraseIdx i).drop i)=y::ys.set i x
  rw[this]
theorem OE.close{v v':Nat×Nat}{e:List Value}{x:α}{hi2:Nat}(k:OE w lo hi E sz RO A n c xs i v e)(hr:RO w v'.1 v'.2 e x)(hh:hi≤hi2)(hv:(v'=v∧lo≤v.1∧v.1≤v.2∧v.2≤hi)∨(hi≤v'.1∧lo≤v'.1∧v'.1≤v'.2∧v'.2≤hi2)):DC w lo hi2 E sz RO A n c (xs.set i x):=by
 obtain⟨h0,h1,h2,ds,us,ho,hb,hc,hd⟩:=k
 have hin:=hc.in
 have hlen:=hc.len
 have her:(xs.eraseIdx i).length=xs.length-1:=List.length_eraseIdx_of_lt (by omega)
 obtain⟨vs,k,_⟩:=XF.ins (v:=v') (x:=x) (lo:=lo) (hi:=hi2) (c:=e) (g:=blk A) (by
   rcases hv with⟨rfl,h⟩ | h
   ·omega
   ·omega) h2 (fun k hk=>by
   have:=hb k hk
   rcases hv with⟨rfl,h⟩ | h
   ·exact this.2
   ·omega) hr (hc.to (lo':=lo) (hi':=hi2) (g':=blk A) fun u hu=>by
   obtain⟨b1,b2,b3,b4⟩:=hin u hu
   exact⟨b1,by omega,b4⟩) (i:=i) (by omega) (fun u hu=>by
   rcases hv with⟨rfl,h⟩ | h
   ·exact hd u hu
   ·have:=hin u hu
    exact .inr (by omega))
 rw[SI (by omega)]at k
 exact⟨by rw[List.length_set];exact h0,.inr ⟨_,vs,ho,fun k hk=>by have:=hb k hk;omega,k⟩⟩
theorem OE.cells{g:Nat}{v:Nat×Nat}{e:List Value}(h:OE w lo hi E sz RO (some ⟨g,0,none⟩) n c xs i v e):dE w g (0+i*sz) e:=by
 obtain⟨h0,h1,h2,ds,us,ho,hb,hc,hd⟩:=h
 have her:(xs.eraseIdx i).length=xs.length-1:=List.length_eraseIdx_of_lt (by omega)
 have hlen:=hc.len
 intro j u hu
 have hj:j<e.length:=by
  rcases Nat.lt_or_ge j e.length with h | h
  ·exact h
  ·rw[List.getElem?_eq_none h]at hu;cases hu
 have hpre:(ds.take i).flatten.length=i*sz:=by
  have hs:∀{vs:List (Nat×Nat)}{cs:List (List Value)}{ys:List α},XF RO w sz (some g) lo hi vs cs ys→∀d∈cs,d.length=sz:=by
   intro vs cs ys k
   induction k with
   | nil=>intro d hd;cases hd
   | cons h0 hl hg hr hd hs ih=>
    intro d hd
    rcases List.mem_cons.1 hd with rfl | hd
    ·exact hl
    ·exact ih d hd
  have hall:∀(cs:List (List Value)),(∀d∈cs,d.length=sz)→cs.flatten.length=cs.length*sz:=by
   intro cs
   induction cs with
   | nil=>intro _;simp
   | cons d cs ih=>
    intro h
    rw[List.flatten_cons,List.length_append,h d (List.mem_cons_self ..),ih fun d hd=>h d (List.mem_cons_of_mem _ hd),List.length_cons,Nat.succ_mul];omega
  rw[hall _ fun d hd=>hs hc d (List.mem_of_mem_take hd),List.length_take,Nat.min_eq_left (by omega)]
 have:=ho.cells (i*sz+j) u (by
  rw[List.flatten_append,List.flatten_cons,List.getElem?_append_right (by omega),hpre,Nat.add_sub_cancel_left,List.getElem?_append_left hj]
  exact hu)
 simpa [Nat.add_assoc]using this
theorem OE.keep(hG:oG RO R){v:Nat×Nat}{e:List Value}(h:OE w lo hi E sz RO A n c xs i v e)(hk:∀b,lo≤b→b<hi→(b<v.1∨v.2≤b)→b<w.heap.size→w'.heap[b]? = w.heap[b]?):OE w' lo hi E sz RO A n c xs i v e:=by
 obtain⟨h0,h1,h2,ds,us,ho,hb,hc,hd⟩:=h
 refine⟨h0,h1,h2,ds,us,ho.keep fun k e=>?_,hb,hc.keepV hG fun u hu b b1 b2 b3=>?_,hd⟩
 ·obtain⟨_,_,hf⟩:=ho.form
  obtain⟨⟨k1,k2⟩,k3⟩:=hb k e
  rcases hf with⟨hA,_⟩ | ⟨g',hA,_,hlt⟩
  ·subst hA;cases e
  ·subst hA
   simp only[blk,Option.some.injEq]at e
   subst e
   exact hk _ k1 k2 k3 hlt
 ·obtain⟨a1,a2,a3,_⟩:=hc.in u hu
  have:=hd u hu
  unfold VL at this
  exact hk b (by omega) (by omega) (by omega) b3
theorem OE.ex(hG:oG RO R){v:Nat×Nat}{e:List Value}(h:OE w lo hi E sz RO A n c xs i v e)(x:Ex w w'):OE w' lo hi E sz RO A n c xs i v e:=h.keep hG fun b _ _ _ hl=>Below.block x b hl
theorem OE.chg(hG:oG RO R){p:Nat→Prop}{v:Nat×Nat}{e:List Value}(h:OE w lo hi E sz RO A n c xs i v e)(x:rD p w w')(hp:∀b,b<w.heap.size→p b→b<lo∨hi≤b∨(v.1≤b∧b<v.2)):OE w' lo hi E sz RO A n c xs i v e:=h.keep hG fun b h1 h2 h3 hl=>x.block b hl fun hh=>by have:=hp b hl hh;omega
theorem OE.grown(hG:oG RO R){row:Option Nat}{v:Nat×Nat}{e:List Value}(h:OE w lo hi E sz RO A n c xs i v e)(x:w.grownBy w' row)(hp:∀b,row=some b→b<lo∨hi≤b∨(v.1≤b∧b<v.2)):OE w' lo hi E sz RO A n c xs i v e:=h.keep hG fun b h1 h2 h3 hl=>x.block b hl fun hh=>by have:=hp b hh.symm;omega
theorem DC.mk_ins{g:Option Nat}{vs:List (Nat×Nat)}{cells:List (List Value)}{v:Nat×Nat}{e:List Value}{x:α}{lo2 hi2:Nat}(hc:XF RO w sz g lo hi vs cells xs)(hlo:lo≤hi)(hi1:hi≤lo2)(hown:Own w lo2 E sz A (xs.length+1) c (cells.take i++e::cells.drop i).flatten)(hA:∀k,blk A=some k→lo2≤k∧k<hi2)(hr:RO w v.1 v.2 e x)(hv:lo2≤v.1∧v.1≤v.2∧v.2≤hi2)(hx:∀k,blk A=some k→k<v.1∨v.2≤k)(hl:e.length=sz)(hi':i≤xs.length):DC w lo hi2 E sz RO A (xs.length+1) c (xs.take i++x::xs.drop i):=by
 have hin:=hc.in
 obtain⟨us,k,_⟩:=XF.ins (v:=v) (x:=x) (lo:=lo) (hi:=hi2) (c:=e) (g:=blk A) (by omega) hl hx hr (hc.to (lo':=lo) (hi':=hi2) (g':=blk A) fun u hu=>by
   obtain⟨b1,b2,b3,b4⟩:=hin u hu
   exact⟨b1,by omega,fun b hb=>by have:=hA b hb;omega⟩) (i:=i) hi' (fun u hu=>by have:=hin u hu;exact .inr (by omega))
 refine⟨by rw[List.length_append,List.length_cons,List.length_take,List.length_drop];omega,.inr ⟨_,us,?_,fun k hk=>by have:=hA k hk;omega,k⟩⟩
 exact⟨⟨hown.1.1,by
  rcases hown.1.2 with hx | ⟨g,cap,cur,hv,hg,r⟩
  ·exact .inl hx
  ·exact .inr ⟨g,cap,cur,hv,by omega,r⟩⟩,hown.2⟩
end
section
variable {α:Type}{P:Program}{o:Oper}{L:List (Nat×Value)}{w:World}{Q:Value→World→Prop}{RO:rF α}{R:KF α}
theorem FH{x y:Operand}{T E lo hi sz tz by_ n c g i d:Nat}{z:Option Value}{ag:Bool}{u:Value}{us e:List Value}{xs:List α}{v:Nat×Nat}(hT:HF P T=some (tz,by_,z,ag))(ho:o.op=.store T x y)
  (hown:OE w lo hi E sz RO (some ⟨g,0,none⟩) n c xs i v e) (hG:oG RO R) (hx:tD L x=some (.pointer (some ⟨g,0+i*sz+d,none⟩)))
  (hy:tD L y=some u) (hc:u.cells=us.toArray) (hl:us.length=tz) (h1:us.all Value.oneCell'=true) (hd:d+tz≤sz)
  (hQ:∀w',OE w' lo hi E sz RO (some ⟨g,0,none⟩) n c xs i v (OC e d us)→fG g w w'→Q undef w'):Yl P o L w Q:=by
 obtain⟨h0,h1',h2,ds,vs,hown,hb,hch,hap⟩:=hown
 have hlen:=hch.len
 have her:(xs.eraseIdx i).length=xs.length-1:=List.length_eraseIdx_of_lt (by omega)
 have hsz:∀d∈ds,d.length=sz:=by
  have hs:∀{vs:List (Nat×Nat)}{cs:List (List Value)}{ys:List α},XF RO w sz (blk (some ⟨g,0,none⟩)) lo hi vs cs ys→∀d∈cs,d.length=sz:=by
   intro vs cs ys k
   induction k with
   | nil=>intro d hd;cases hd
   | cons h0 hl hg hr hd hs ih=>
    intro d hd
    rcases List.mem_cons.1 hd with rfl | hd
    ·exact hl
    ·exact ih d hd
  exact hs hch
 have hall:∀(cs:List (List Value)),(∀d∈cs,d.length=sz)→cs.flatten.length=cs.length*sz:=by
  intro cs
  induction cs with
  | nil=>intro _;simp
  | cons d cs ih=>
   intro h
   rw[List.flatten_cons,List.length_append,h d (List.mem_cons_self ..),ih fun d hd=>h d (List.mem_cons_of_mem _ hd),List.length_cons,Nat.succ_mul];omega
 have hpre:(ds.take i).flatten.length=i*sz:=by rw[hall _ fun d hd=>hsz d (List.mem_of_mem_take hd),List.length_take,Nat.min_eq_left (by omega)]
 have hfl:(ds.take i++e::ds.drop i).flatten=(ds.take i).flatten++(e++(ds.drop i).flatten):=by rw[List.flatten_append,List.flatten_cons]
 refine QH hT ho (off:=0+i*sz+d) hx hy hc hl h1 hown (by rw[hfl,List.length_append,List.length_append,hpre];omega) fun w' hown' hO=>hQ w' ⟨h0,h1',by rw[vF (by omega)];exact h2,ds,vs,?_,hb,?_,hap⟩ hO
 ·have e1:OC (ds.take i++e::ds.drop i).flatten (0+i*sz+d) us=(ds.take i++OC e d us::ds.drop i).flatten:=by
   rw[hfl,List.flatten_append,List.flatten_cons,rH _ _ (by omega),hpre,show 0+i*sz+d-i*sz=d by omega,OH _ _ (by omega)]
  rw[e1]at hown'
  exact hown'
 ·exact hch.keep hG fun b _ _ h3 _=>hO.block b (fun e=>h3 (by rw[e];rfl))
end
/-! ### elements as bare cells -/
def FF(c:List Value):List Value:=c.map fun v=>bif v.oneCell' then v else .bool false
theorem JG(c:List Value):(FF c).all Value.oneCell'=true:=by
 unfold FF
 rw[List.all_eq_true]
 intro u hu
 obtain⟨v,_,rfl⟩:=List.mem_map.1 hu
 cases h:v.oneCell'
 ·rfl
 ·exact h
theorem UB:Gd (RF FF):=RF.good JG
theorem xK{c:List Value}(h:∀u∈c,u.oneCell'=true):FF c=c:=by
 unfold FF
 conv=>rhs;rw[←List.map_id c]
 refine List.map_congr_left fun u hu=>?_
 rw[h u hu];rfl
theorem xJ{w:World}{S:Nat→Prop}{sz:Nat}:∀{cells:List (List Value)},(∀c∈cells,c.length=sz∧∀u∈c,u.oneCell'=true)→JB (RF FF w S) sz cells.flatten cells
 | [],_=>.nil
 | c::cs,h=>by
  rw[List.flatten_cons]
  exact .cons (h c (List.mem_cons_self ..)).1 (xK (h c (List.mem_cons_self ..)).2).symm (xJ fun d hd=>h d (List.mem_cons_of_mem _ hd))
theorem DL{w:World}{S:Nat→Prop}{sz:Nat}{cs:List Value}{cells:List (List Value)}(h:JB (RF FF w S) sz cs cells):(∀c∈cells,∀u∈c,u.oneCell'=true)→cs=cells.flatten:=by
 induction h with
 | nil=>intro _;rfl
 | @cons c x cs xs hl h hs ih=>
  intro hk
  rw[List.flatten_cons,ih fun d hd=>hk d (List.mem_cons_of_mem _ hd)]
  have h:c=FF x:=h
  rw[h,xK (hk x (List.mem_cons_self ..))]
section
variable {α:Type}{RO:rF α}{R:KF α}{w w':World}{lo hi E sz n c i:Nat}{A:Option Addr}{xs:List α}{g:Option Nat}{vs:List (Nat×Nat)}{cells:List (List Value)}
theorem XF.els(hG:oG RO R)(k:XF RO w sz g lo hi vs cells xs):∀c∈cells,c.length=sz∧∀u∈c,u.oneCell'=true:=by
 induction k with
 | nil=>intro d hd;cases hd
 | cons h0 hl hg hr hd hs ih=>
  intro d hd
  rcases List.mem_cons.1 hd with rfl | hd
  ·exact⟨hl,fun u hu=>List.all_eq_true.1 (hG.one hr) u hu⟩
  ·exact ih d hd
theorem DC.bare(hG:oG RO R)(hcm:c≤maxLen)(hn:n≤c∧n≤281474976710656)(h:DC w lo hi E sz RO A n c xs):∃cells vs,kC w (Iv lo hi) (RF FF) sz A n c cells∧cells.length=xs.length∧XF RO w sz (blk A) lo hi vs cells xs:=by
 obtain⟨h0,h2⟩:=h
 rcases h2 with⟨h1,h2⟩ | ⟨cells,vs,ho,hb,hc⟩
 ·have:xs=[]:=List.eq_nil_of_length_eq_zero (by omega)
  subst this
  exact⟨[],[],⟨h1,hn.1,⟨hcm,hn.2⟩,[],.nil,.inl rfl⟩,rfl,.nil⟩
 ·have hl:=hc.len
  refine⟨cells,vs,⟨by omega,hn.1,⟨hcm,hn.2⟩,cells.flatten,xJ (hc.els hG),?_⟩,hl.1,hc⟩
  obtain⟨_,_,hf⟩:=ho.form
  rcases hf with⟨hA,hn⟩ | ⟨g,hA,_,hlt⟩
  ·exact .inl (List.eq_nil_of_length_eq_zero (by omega))
  ·subst hA
   exact .inr ⟨g,0,rfl,hb g rfl,hlt,ho.cells⟩
theorem DC.cap(h:DC w lo hi E sz RO A n c xs):c≤maxLen∧n≤c∧n≤281474976710656:=by
 obtain⟨h0,h2⟩:=h
 rcases h2 with⟨h1,h2⟩ | ⟨cells,vs,ho,hb,hc⟩
 ·subst h1;subst h2;exact⟨by decide,by decide,by decide⟩
 ·obtain⟨a,b,_⟩:=ho.form
  exact⟨b,a,ho.2⟩
theorem qJ(h:WA w lo hi E sz (RF FF) A n c cells)(hn:0<n)(hk:∀c∈cells,∀u∈c,u.oneCell'=true):Own w lo E sz A n c cells.flatten∧∀k,blk A=some k→lo≤k∧k<hi:=by
 obtain⟨h1,S,cs,ho,he,_,_⟩:=h.full hn
 rw[DL he hk]at ho
 exact⟨ho,h1⟩
end
end Go.X
