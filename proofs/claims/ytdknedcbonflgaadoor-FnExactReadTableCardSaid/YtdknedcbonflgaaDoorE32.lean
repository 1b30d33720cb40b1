/- Lists whose elements own memory, in no order of blocks. -/
import Derived.Test.YtdknedcbonflgaaDoorE31
set_option linter.unusedVariables false
set_option linter.unusedSimpArgs false
namespace Go.X
open Go.RowKit
def tL(v u:Nat×Nat):Prop:=v.2≤u.1∨u.2≤v.1
theorem tL.symm{v u:Nat×Nat}(h:tL v u):tL u v:=Or.symm h
inductive gH {α:Type}(RO:uE α) (w:World) (sz:Nat) (g:Option Nat) (lo hi:Nat):List (Nat×Nat)→List (List Value)→List α→Prop
 | nil:gH RO w sz g lo hi [] [] []
 | cons {v:Nat×Nat}{c:List Value}{x:α}{vs:List (Nat×Nat)}{cs:List (List Value)}{xs:List α}(h0:lo≤v.1∧v.1≤v.2∧v.2≤hi) (hl:c.length=sz) (hg:∀k,g=some k→k<v.1∨v.2≤k) (hr:RO w v.1 v.2 c x) (hd:∀u∈vs,tL v u) (hs:gH RO w sz g lo hi vs cs xs):gH RO w sz g lo hi (v::vs) (c::cs) (x::xs)
section
variable {α:Type}{RO:uE α}{R:WE α}{w w':World}{sz:Nat}{g g':Option Nat}{lo hi lo' hi' i:Nat}{cs:List (List Value)}{xs:List α}{vs:List (Nat×Nat)}{c:List Value}
theorem gH.len(k:gH RO w sz g lo hi vs cs xs):cs.length=xs.length∧vs.length=xs.length∧cs.flatten.length=xs.length*sz:=by
 induction k with
 | nil=>simp
 | cons h0 hl hg hr hd hs ih=>
  obtain⟨a,b,d⟩:=ih
  refine⟨by simp[a],by simp[b],?_⟩
  rw[List.flatten_cons,List.length_append,hl,d,List.length_cons,Nat.succ_mul];omega
theorem gH.in(k:gH RO w sz g lo hi vs cs xs):∀v∈vs,lo≤v.1∧v.1≤v.2∧v.2≤hi∧∀b,g=some b→b<v.1∨v.2≤b:=by
 induction k with
 | nil=>intro v hv;cases hv
 | cons h0 hl hg hr hd hs ih=>
  intro u hu
  rcases List.mem_cons.1 hu with rfl | hu
  ·exact⟨h0.1,h0.2.1,h0.2.2,hg⟩
  ·exact ih u hu
theorem gH.keepV(hG:WF RO R)(k:gH RO w sz g lo hi vs cs xs)(hk:∀v∈vs,∀b,v.1≤b→b<v.2→b<w.heap.size→w'.heap[b]? = w.heap[b]?):gH RO w' sz g lo hi vs cs xs:=by
 induction k with
 | nil=>exact .nil
 | cons h0 hl hg hr hd hs ih=>exact .cons h0 hl hg (hG.keep hr (hk _ (List.mem_cons_self ..))) hd (ih fun v hv=>hk v (List.mem_cons_of_mem _ hv))
theorem gH.keep(hG:WF RO R)(k:gH RO w sz g lo hi vs cs xs)(hk:∀b,lo≤b→b<hi→g≠some b→b<w.heap.size→w'.heap[b]? = w.heap[b]?):gH RO w' sz g lo hi vs cs xs:=
 k.keepV hG fun v hv b h1 h2 h3=>by
  obtain⟨a1,a2,a3,a4⟩:=k.in v hv
  exact hk b (by omega) (by omega) (fun e=>by have:=a4 b e;omega) h3
theorem gH.to(k:gH RO w sz g lo hi vs cs xs)(hv:∀v∈vs,lo'≤v.1∧v.2≤hi'∧∀b,g'=some b→b<v.1∨v.2≤b):gH RO w sz g' lo' hi' vs cs xs:=by
 induction k with
 | nil=>exact .nil
 | cons h0 hl hg hr hd hs ih=>
  obtain⟨a,b,d⟩:=hv _ (List.mem_cons_self ..)
  exact .cons ⟨a,h0.2.1,b⟩ hl d hr hd (ih fun v h=>hv v (List.mem_cons_of_mem _ h))
theorem gH.ones(hG:WF RO R)(k:gH RO w sz g lo hi vs cs xs):∀u∈cs.flatten,u.oneCell'=true:=by
 induction k with
 | nil=>intro u hu;cases hu
 | cons h0 hl hg' hr hd hs ih=>
  intro u hu
  rw[List.flatten_cons]at hu
  rcases List.mem_append.1 hu with hu | hu
  ·exact List.all_eq_true.1 (hG.one hr) u hu
  ·exact ih u hu
end
def GD{α:Type}(w:World)(lo hi E sz:Nat)(RO:uE α)(A:Option Addr)(n c:Nat)(xs:List α):Prop:=
 n=xs.length∧((n=0∧c=0)∨∃cells vs,Own w lo E sz A n c cells.flatten∧(∀k,blk A=some k→lo≤k∧k<hi)∧gH RO w sz (blk A) lo hi vs cells xs)
section
variable {α:Type}{RO:uE α}{R:WE α}{w w':World}{lo hi E sz n c i:Nat}{A:Option Addr}{xs:List α}
theorem GD.len(h:GD w lo hi E sz RO A n c xs):n=xs.length:=h.1
theorem GD.fix(h:GD w lo hi E sz RO A n c xs):GD w lo hi E sz RO A xs.length c xs:=by
 obtain rfl:=h.1
 exact h
theorem GD.nil(w:World)(lo hi E sz:Nat)(RO:uE α):GD w lo hi E sz RO none 0 0 []:=⟨rfl,.inl ⟨rfl,rfl⟩⟩
theorem GD.empty(w:World)(lo hi E sz:Nat)(RO:uE α)(A:Option Addr):GD w lo hi E sz RO A 0 0 []:=⟨rfl,.inl ⟨rfl,rfl⟩⟩
theorem GD.keep(hG:WF RO R)(h:GD w lo hi E sz RO A n c xs)(hk:∀b,lo≤b→b<hi→b<w.heap.size→w'.heap[b]? = w.heap[b]?):GD w' lo hi E sz RO A n c xs:=by
 refine⟨h.1,h.2.imp id fun⟨cells,vs,ho,hb,hc⟩=>⟨cells,vs,ho.keep fun k e=>?_,hb,hc.keep hG fun b h1 h2 _ h3=>hk b h1 h2 h3⟩⟩
 obtain⟨_,_,hf⟩:=ho.form
 obtain⟨k1,k2⟩:=hb k e
 rcases hf with⟨hA,_⟩ | ⟨g',hA,_,hlt⟩
 ·subst hA;cases e
 ·subst hA
  simp only[blk,Option.some.injEq]at e
  subst e
  exact hk _ k1 k2 hlt
theorem GD.ex(hG:WF RO R)(h:GD w lo hi E sz RO A n c xs)(e:Ex w w'):GD w' lo hi E sz RO A n c xs:=h.keep hG fun b _ _ hl=>Below.block e b hl
theorem GD.only(hG:WF RO R){b:Nat}(h:GD w lo hi E sz RO A n c xs)(e:bF b w w')(hb:b<lo∨hi≤b):GD w' lo hi E sz RO A n c xs:=h.keep hG fun k h1 h2 _=>e.block k (by omega)
theorem GD.grown(hG:WF RO R){row:Option Nat}(h:GD w lo hi E sz RO A n c xs)(e:w.grownBy w' row)(hb:∀k,row=some k→k<lo∨hi≤k):GD w' lo hi E sz RO A n c xs:=h.keep hG fun k h1 h2 h3=>e.block k h3 (fun hh=>by have:=hb k hh.symm;omega)
theorem GD.chg(hG:WF RO R){p:Nat→Prop}(h:GD w lo hi E sz RO A n c xs)(e:zF p w w')(hp:∀b,b<w.heap.size→p b→b<lo∨hi≤b):GD w' lo hi E sz RO A n c xs:=h.keep hG fun b h1 h2 hl=>e.block b hl fun hh=>by have:=hp b hl hh;omega
theorem GD.mut(hG:WF RO R){r:List (Nat×Nat)}(h:GD w lo hi E sz RO A n c xs)(e:UD r w w')(hd:∀k,lG r k→k<lo∨hi≤k):GD w' lo hi E sz RO A n c xs:=
 e.carry (F:=fun w=>GD w lo hi E sz RO A n c xs) h (fun _ _ h e=>h.ex hG e) (fun _ _ k h e hk=>h.only hG e (hd k hk))
theorem GD.more{lo' hi':Nat}(h:GD w lo hi E sz RO A n c xs)(hl:lo'≤lo)(hh:hi≤hi'):GD w lo' hi' E sz RO A n c xs:=
 ⟨h.1,h.2.imp id fun⟨cells,vs,ho,hb,hc⟩=>⟨cells,vs,⟨⟨ho.1.1,by
  rcases ho.1.2 with hx | ⟨g,cap,cur,hv,hg,r⟩
  ·exact .inl hx
  ·exact .inr ⟨g,cap,cur,hv,by omega,r⟩⟩,ho.2⟩,fun k hk=>by have:=hb k hk;omega,hc.to fun v hv=>by
   obtain⟨a1,a2,a3,a4⟩:=hc.in v hv
   exact⟨by omega,by omega,a4⟩⟩⟩
def XF{α:Type}(w:World)(lo hi E sz:Nat)(RO:uE α)(A:Option Addr)(n c:Nat)(xs:List α)(i:Nat)(v:Nat×Nat)(e:List Value):Prop:=
 n=xs.length∧i<n∧e.length=sz∧∃ds us,Own w lo E sz A n c (ds.take i++e::ds.drop i).flatten∧(∀k,blk A=some k→(lo≤k∧k<hi)∧(k<v.1∨v.2≤k))∧gH RO w sz (blk A) lo hi us ds (xs.eraseIdx i)∧∀u∈us,tL v u
theorem XF.cells{g:Nat}{v:Nat×Nat}{e:List Value}(h:XF w lo hi E sz RO (some ⟨g,0,none⟩) n c xs i v e):YC w g (0+i*sz) e:=by
 obtain⟨h0,h1,h2,ds,us,ho,hb,hc,hd⟩:=h
 have her:(xs.eraseIdx i).length=xs.length-1:=List.length_eraseIdx_of_lt (by omega)
 have hlen:=hc.len
 intro j u hu
 have hj:j<e.length:=by
  rcases Nat.lt_or_ge j e.length with h | h
  ·exact h
  ·rw[List.getElem?_eq_none h]at hu;cases hu
 have hpre:(ds.take i).flatten.length=i*sz:=by
  have hs:∀{vs:List (Nat×Nat)}{cs:List (List Value)}{ys:List α},gH RO w sz (some g) lo hi vs cs ys→∀d∈cs,d.length=sz:=by
   intro vs cs ys k
   induction k with
   | nil=>intro d hd;cases hd
   | cons h0 hl hg hr hd hs ih=>
    intro d hd
    rcases List.mem_cons.1 hd with rfl | hd
    ·exact hl
    ·exact ih d hd
  have hall:∀(cs:List (List Value)),(∀d∈cs,d.length=sz)→cs.flatten.length=cs.length*sz:=by
   intro cs
   induction cs with
   | nil=>intro _;simp
   | cons d cs ih=>
    intro h
    rw[List.flatten_cons,List.length_append,h d (List.mem_cons_self ..),ih fun d hd=>h d (List.mem_cons_of_mem _ hd),List.length_cons,Nat.succ_mul];omega
  rw[hall _ fun d hd=>hs hc d (List.mem_of_mem_take hd),List.length_take,Nat.min_eq_left (by omega)]
 have:=ho.cells (i*sz+j) u (by
  rw[List.flatten_append,List.flatten_cons,List.getElem?_append_right (by omega),hpre,Nat.add_sub_cancel_left,List.getElem?_append_left hj]
  exact hu)
 simpa [Nat.add_assoc]using this
theorem XF.keep(hG:WF RO R){v:Nat×Nat}{e:List Value}(h:XF w lo hi E sz RO A n c xs i v e)(hk:∀b,lo≤b→b<hi→(b<v.1∨v.2≤b)→b<w.heap.size→w'.heap[b]? = w.heap[b]?):XF w' lo hi E sz RO A n c xs i v e:=by
 obtain⟨h0,h1,h2,ds,us,ho,hb,hc,hd⟩:=h
 refine⟨h0,h1,h2,ds,us,ho.keep fun k e=>?_,hb,hc.keepV hG fun u hu b b1 b2 b3=>?_,hd⟩
 ·obtain⟨_,_,hf⟩:=ho.form
  obtain⟨⟨k1,k2⟩,k3⟩:=hb k e
  rcases hf with⟨hA,_⟩ | ⟨g',hA,_,hlt⟩
  ·subst hA;cases e
  ·subst hA
   simp only[blk,Option.some.injEq]at e
   subst e
   exact hk _ k1 k2 k3 hlt
 ·obtain⟨a1,a2,a3,_⟩:=hc.in u hu
  have:=hd u hu
  unfold tL at this
  exact hk b (by omega) (by omega) (by omega) b3
theorem XF.ex(hG:WF RO R){v:Nat×Nat}{e:List Value}(h:XF w lo hi E sz RO A n c xs i v e)(x:Ex w w'):XF w' lo hi E sz RO A n c xs i v e:=h.keep hG fun b _ _ _ hl=>Below.block x b hl
theorem XF.chg(hG:WF RO R){p:Nat→Prop}{v:Nat×Nat}{e:List Value}(h:XF w lo hi E sz RO A n c xs i v e)(x:zF p w w')(hp:∀b,b<w.heap.size→p b→b<lo∨hi≤b∨(v.1≤b∧b<v.2)):XF w' lo hi E sz RO A n c xs i v e:=h.keep hG fun b h1 h2 h3 hl=>x.block b hl fun hh=>by have:=hp b hl hh;omega
theorem XF.grown(hG:WF RO R){row:Option Nat}{v:Nat×Nat}{e:List Value}(h:XF w lo hi E sz RO A n c xs i v e)(x:w.grownBy w' row)(hp:∀b,row=some b→b<lo∨hi≤b∨(v.1≤b∧b<v.2)):XF w' lo hi E sz RO A n c xs i v e:=h.keep hG fun b h1 h2 h3 hl=>x.block b hl fun hh=>by have:=hp b hh.symm;omega
end
section
variable {α:Type}{P:Program}{o:Oper}{L:List (Nat×Value)}{w:World}{Q:Value→World→Prop}{RO:uE α}{R:WE α}
end
/-! ### elements as bare cells -/
section
variable {α:Type}{RO:uE α}{R:WE α}{w w':World}{lo hi E sz n c i:Nat}{A:Option Addr}{xs:List α}{g:Option Nat}{vs:List (Nat×Nat)}{cells:List (List Value)}
end
end Go.X
