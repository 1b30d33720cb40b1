/- Lists whose elements own memory too: each element's blocks are the list's own. -/
import Derived.Test.YtdknedcbonflgaaDoorE14
set_option linter.unusedVariables false
set_option linter.unusedSimpArgs false
namespace Go.X
open Go.RowKit
abbrev uE(α:Type):=World→Nat→Nat→List Value→α→Prop
structure WF {α:Type}(RO:uE α) (R:WE α):Prop where
 keep:∀{w w':World}{l h:Nat}{c:List Value}{x:α},RO w l h c x→(∀b,l≤b→b<h→b<w.heap.size→w'.heap[b]? = w.heap[b]?)→RO w' l h c x
 one:∀{w:World}{l h:Nat}{c:List Value}{x:α},RO w l h c x→c.all Value.oneCell'=true
 rd:∀{w:World}{l h:Nat}{c:List Value}{x:α},RO w l h c x→R w (Iv l h) c x
inductive lD {α:Type}(RO:uE α) (w:World) (sz:Nat) (g:Option Nat):Nat→Nat→List (List Value)→List α→Prop
 | nil {lo hi:Nat}(h:lo≤hi):lD RO w sz g lo hi [] []
 | cons {lo l h hi:Nat}{c:List Value}{x:α}{cs:List (List Value)}{xs:List α}(h1:lo≤l) (h2:l≤h) (hl:c.length=sz) (hg:∀k,g=some k→k<l∨h≤k) (hr:RO w l h c x) (hs:lD RO w sz g h hi cs xs):lD RO w sz g lo hi (c::cs) (x::xs)
inductive FD {α:Type}(RO:uE α) (w:World) (sz:Nat) (g:Option Nat) (l h:Nat) (c:List Value):Nat→Nat→Nat→List (List Value)→List α→Prop
 | here {lo hi:Nat}{x:α}{cs:List (List Value)}{xs:List α}(h1:lo≤l) (h2:l≤h) (hl:c.length=sz) (hg:∀k,g=some k→k<l∨h≤k) (hs:lD RO w sz g h hi cs xs):FD RO w sz g l h c 0 lo hi (c::cs) (x::xs)
 | there {i lo l' h' hi:Nat}{c':List Value}{x:α}{cs:List (List Value)}{xs:List α}(h1:lo≤l') (h2:l'≤h') (hl:c'.length=sz) (hg:∀k,g=some k→k<l'∨h'≤k) (hr:RO w l' h' c' x) (hs:FD RO w sz g l h c i h' hi cs xs):FD RO w sz g l h c (i+1) lo hi (c'::cs) (x::xs)
section
variable {α:Type}{RO:uE α}{R:WE α}{w w':World}{sz:Nat}{g g':Option Nat}{lo hi m l h i:Nat}{cs ds:List (List Value)}{xs ys:List α}{c:List Value}
theorem lD.le(k:lD RO w sz g lo hi cs xs):lo≤hi:=by
 induction k with
 | nil h=>exact h
 | cons h1 h2 _ _ _ _ ih=>omega
theorem lD.keep(hG:WF RO R)(k:lD RO w sz g lo hi cs xs)(hk:∀b,lo≤b→b<hi→g≠some b→b<w.heap.size→w'.heap[b]? = w.heap[b]?):lD RO w' sz g lo hi cs xs:=by
 induction k with
 | nil h=>exact .nil h
 | @cons lo l h hi c x cs xs h1 h2 hl hg hr hs ih=>
  have:=hs.le
  exact .cons h1 h2 hl hg (hG.keep hr fun b hb1 hb2 hb3=>hk b (by omega) (by omega) (fun e=>by have:=hg b e;omega) hb3) (ih fun b hb1 hb2 hb3=>hk b (by omega) hb2 hb3)
theorem lD.low(k:lD RO w sz g lo hi cs xs)(hm:m≤lo):lD RO w sz g m hi cs xs:=by
 cases k with
 | nil h=>exact .nil (by omega)
 | cons h1 h2 hl hg hr hs=>exact .cons (by omega) h2 hl hg hr hs
theorem lD.high(k:lD RO w sz g lo hi cs xs)(hm:hi≤m):lD RO w sz g lo m cs xs:=by
 induction k with
 | nil h=>exact .nil (by omega)
 | cons h1 h2 hl hg hr hs ih=>exact .cons h1 h2 hl hg hr (ih hm)
theorem lD.append(k:lD RO w sz g lo m cs xs)(j:lD RO w sz g m hi ds ys):lD RO w sz g lo hi (cs++ds) (xs++ys):=by
 induction k with
 | nil h=>exact j.low h
 | cons h1 h2 hl hg hr hs ih=>exact .cons h1 h2 hl hg hr (ih j)
theorem lD.ones(hG:WF RO R)(k:lD RO w sz g lo hi cs xs):∀u∈cs.flatten,u.oneCell'=true:=by
 induction k with
 | nil h=>intro u hu;cases hu
 | @cons lo l h hi c x cs xs h1 h2 hl hg' hr hs ih=>
  intro u hu
  rw[List.flatten_cons]at hu
  rcases List.mem_append.1 hu with hu | hu
  ·exact List.all_eq_true.1 (hG.one hr) u hu
  ·exact ih u hu
theorem lD.len(k:lD RO w sz g lo hi cs xs):cs.flatten.length=xs.length*sz:=by
 induction k with
 | nil h=>simp
 | cons h1 h2 hl hg' hr hs ih=>rw[List.flatten_cons,List.length_append,hl,ih,List.length_cons,Nat.add_mul];omega
theorem FD.keep(hG:WF RO R)(k:FD RO w sz g l h c i lo hi cs xs)(hk:∀b,lo≤b→b<hi→g≠some b→(b<l∨h≤b)→b<w.heap.size→w'.heap[b]? = w.heap[b]?):lo≤l∧FD RO w' sz g l h c i lo hi cs xs:=by
 induction k with
 | here h1 h2 hl hg hs=>
  have:=hs.le
  exact⟨h1,.here h1 h2 hl hg (hs.keep hG fun b hb1 hb2 hb3 hb4=>hk b (by omega) hb2 hb3 (.inr hb1) hb4)⟩
 | @there i lo l' h' hi c' x cs xs h1 h2 hl hg hr hs ih=>
  have hle:h'≤hi:=by
   have:∀{i lo hi:Nat}{cs:List (List Value)}{xs:List α},FD RO w sz g l h c i lo hi cs xs→lo≤hi:=by
    intro i lo hi cs xs k
    induction k with
    | here h1 h2 _ _ hs=>have:=hs.le;omega
    | there h1 h2 _ _ _ _ ih=>omega
   exact this hs
  obtain⟨a,b⟩:=ih fun b hb1 hb2 hb3 hb4 hb5=>hk b (by omega) hb2 hb3 hb4 hb5
  exact⟨by omega,.there h1 h2 hl hg (hG.keep hr fun b hb1 hb2 hb3=>hk b (by omega) (by omega) (fun e=>by have:=hg b e;omega) (by omega) hb3) b⟩
theorem LI{c cs:List Value}(d:Nat)(vs:List Value)(hd:d+vs.length≤c.length):tC (c++cs) d vs=tC c d vs++cs:=by
 simp only[tC,List.take_append,List.drop_append,List.append_assoc]
 rw[show d-c.length=0 by omega,show d+vs.length-c.length=0 by omega]
 simp
theorem cI{c cs:List Value}(d:Nat)(vs:List Value)(hd:c.length≤d):tC (c++cs) d vs=c++tC cs (d-c.length) vs:=by
 simp only[tC,List.take_append,List.drop_append,List.append_assoc]
 rw[List.take_of_length_le (by omega),List.drop_eq_nil_of_le (by omega),show d+vs.length-c.length=d-c.length+vs.length by omega]
 simp
theorem FD.put(k:FD RO w sz g l h c i lo hi cs xs){d:Nat}{vs:List Value}(hd:d+vs.length≤sz):∃cs',cs'.flatten=tC cs.flatten (i*sz+d) vs∧FD RO w sz g l h (tC c d vs) i lo hi cs' xs:=by
 induction k with
 | @here lo hi x cs xs h1 h2 hl hg hs=>
  refine⟨tC c d vs::cs,?_,.here h1 h2 (by rw[CE (by omega),hl]) hg hs⟩
  rw[List.flatten_cons,List.flatten_cons,Nat.zero_mul,Nat.zero_add,LI _ _ (by omega)]
 | @there i lo l' h' hi c' x cs xs h1 h2 hl hg hr hs ih=>
  obtain⟨cs',e,k⟩:=ih
  refine⟨c'::cs',?_,.there h1 h2 hl hg hr k⟩
  rw[List.flatten_cons,List.flatten_cons,e,Nat.add_mul,Nat.one_mul,cI _ _ (by omega)]
  congr 2
  omega
theorem FD.at(k:FD RO w sz g l h c i lo hi cs xs):∀j v,c[j]? = some v→cs.flatten[i*sz+j]? = some v:=by
 induction k with
 | @here lo hi x cs xs h1 h2 hl hg hs=>
  intro j v hv
  rw[List.flatten_cons,Nat.zero_mul,Nat.zero_add,List.getElem?_append_left (by
   rcases Nat.lt_or_ge j c.length with h | h
   ·exact h
   ·rw[List.getElem?_eq_none h]at hv;cases hv)]
  exact hv
 | @there i lo l' h' hi c' x cs xs h1 h2 hl hg hr hs ih=>
  intro j v hv
  rw[List.flatten_cons,List.getElem?_append_right (by rw[Nat.add_mul];omega)]
  have:=ih j v hv
  rw[←this]
  congr 1
  rw[Nat.add_mul];omega
theorem FD.size(k:FD RO w sz g l h c i lo hi cs xs):cs.flatten.length=xs.length*sz∧i<xs.length∧c.length=sz∧lo≤hi∧lo≤l∧h≤hi∧l≤h∧(∀k,g=some k→k<l∨h≤k):=by
 induction k with
 | here h1 h2 hl hg hs=>exact⟨by rw[List.flatten_cons,List.length_append,hl,hs.len,List.length_cons,Nat.add_mul];omega,by simp,hl,by have:=hs.le;omega,h1,hs.le,h2,hg⟩
 | there h1 h2 hl hg hr hs ih=>obtain⟨a,b,b',b'',b3,b4,b5,b6⟩:=ih;exact⟨by rw[List.flatten_cons,List.length_append,hl,a,List.length_cons,Nat.add_mul];omega,by simpa using b,b',by omega,by omega,b4,b5,b6⟩
end
def zD{α:Type}(w:World)(lo hi E sz:Nat)(RO:uE α)(A:Option Addr)(n c:Nat)(xs:List α):Prop:=
 n=xs.length∧((n=0∧c=0)∨∃cells:List (List Value),Own w lo E sz A n c cells.flatten∧(∀k,blk A=some k→lo≤k∧k<hi)∧lD RO w sz (blk A) lo hi cells xs)
def KF{α:Type}(w:World)(lo hi E sz:Nat)(RO:uE α)(A:Option Addr)(n c:Nat)(xs:List α)(i l h:Nat)(e:List Value):Prop:=
 n=xs.length∧∃cells:List (List Value),Own w lo E sz A n c cells.flatten∧(∀k,blk A=some k→lo≤k∧k<hi)∧FD RO w sz (blk A) l h e i lo hi cells xs
section
variable {α:Type}{RO:uE α}{R:WE α}{w w':World}{lo hi E sz n c i l h h':Nat}{A:Option Addr}{xs ys:List α}{e:List Value}
theorem zD.len(h:zD w lo hi E sz RO A n c xs):n=xs.length:=h.1
theorem zD.fix(h:zD w lo hi E sz RO A n c xs):zD w lo hi E sz RO A xs.length c xs:=by
 obtain rfl:=h.1
 exact h
theorem zD.nil(w:World)(lo hi E sz:Nat)(RO:uE α):zD w lo hi E sz RO none 0 0 []:=⟨rfl,.inl ⟨rfl,rfl⟩⟩
theorem zD.empty(w:World)(lo hi E sz:Nat)(RO:uE α)(A:Option Addr):zD w lo hi E sz RO A 0 0 []:=⟨rfl,.inl ⟨rfl,rfl⟩⟩
theorem zD.keep(hG:WF RO R)(h:zD w lo hi E sz RO A n c xs)(hk:∀b,lo≤b→b<hi→b<w.heap.size→w'.heap[b]? = w.heap[b]?):zD w' lo hi E sz RO A n c xs:=by
 refine⟨h.1,h.2.imp id fun⟨cells,ho,hb,hc⟩=>⟨cells,ho.keep fun k e=>?_,hb,hc.keep hG fun b h1 h2 _ h3=>hk b h1 h2 h3⟩⟩
 obtain⟨_,_,hf⟩:=ho.form
 obtain⟨k1,k2⟩:=hb k e
 rcases hf with⟨hA,_⟩ | ⟨g',hA,_,hlt⟩
 ·subst hA;cases e
 ·subst hA
  simp only[blk,Option.some.injEq]at e
  subst e
  exact hk _ k1 k2 hlt
theorem zD.ex(hG:WF RO R)(h:zD w lo hi E sz RO A n c xs)(e:Ex w w'):zD w' lo hi E sz RO A n c xs:=h.keep hG fun b _ _ hl=>Below.block e b hl
theorem zD.only(hG:WF RO R){b:Nat}(h:zD w lo hi E sz RO A n c xs)(e:bF b w w')(hb:b<lo∨hi≤b):zD w' lo hi E sz RO A n c xs:=h.keep hG fun k h1 h2 _=>e.block k (by omega)
theorem zD.grown(hG:WF RO R){row:Option Nat}(h:zD w lo hi E sz RO A n c xs)(e:w.grownBy w' row)(hb:∀k,row=some k→k<lo∨hi≤k):zD w' lo hi E sz RO A n c xs:=h.keep hG fun k h1 h2 h3=>e.block k h3 (fun hh=>by have:=hb k hh.symm;omega)
theorem zD.chg(hG:WF RO R){p:Nat→Prop}(h:zD w lo hi E sz RO A n c xs)(e:zF p w w')(hp:∀b,b<w.heap.size→p b→b<lo∨hi≤b):zD w' lo hi E sz RO A n c xs:=h.keep hG fun b h1 h2 hl=>e.block b hl fun hh=>by have:=hp b hl hh;omega
theorem zD.mut(hG:WF RO R){r:List (Nat×Nat)}(h:zD w lo hi E sz RO A n c xs)(e:UD r w w')(hd:∀k,lG r k→k<lo∨hi≤k):zD w' lo hi E sz RO A n c xs:=
 e.carry (F:=fun w=>zD w lo hi E sz RO A n c xs) h (fun _ _ h e=>h.ex hG e) (fun _ _ k h e hk=>h.only hG e (hd k hk))
theorem zD.more{lo' hi':Nat}(h:zD w lo hi E sz RO A n c xs)(hl:lo'≤lo)(hh:hi≤hi'):zD w lo' hi' E sz RO A n c xs:=
 ⟨h.1,h.2.imp id fun⟨cells,ho,hb,hc⟩=>⟨cells,⟨⟨ho.1.1,by
  rcases ho.1.2 with hx | ⟨g,cap,cur,hv,hg,r⟩
  ·exact .inl hx
  ·exact .inr ⟨g,cap,cur,hv,by omega,r⟩⟩,ho.2⟩,fun k hk=>by have:=hb k hk;omega,(hc.low hl).high hh⟩⟩
theorem zD.of_box{b:Nat}{cells:List (List Value)}(hB:eD w b E cells.flatten)(hlo:lo≤b)(hbi:b<hi)(hc:lD RO w sz (some b) lo hi cells xs)(hn:xs.length≤281474976710656):zD w lo hi E sz RO (some ⟨b,0,none⟩) xs.length xs.length xs:=
 ⟨rfl,.inr ⟨cells,Own.of_box hB hlo hc.len hn,fun k hk=>by simp only[Go.X.blk,Option.some.injEq]at hk;omega,hc⟩⟩
theorem KF.cells{g:Nat}(h:KF w lo hi E sz RO (some ⟨g,0,none⟩) n c xs i l h' e):YC w g (0+i*sz) e:=by
 obtain⟨h0,cells,ho,hb,hc⟩:=h
 intro j v hv
 have:=ho.cells (i*sz+j) v (hc.at j v hv)
 simpa [Nat.add_assoc]using this
theorem KF.keep(hG:WF RO R)(h:KF w lo hi E sz RO A n c xs i l h' e)(hk:∀b,lo≤b→b<hi→(b<l∨h'≤b)→b<w.heap.size→w'.heap[b]? = w.heap[b]?):KF w' lo hi E sz RO A n c xs i l h' e:=by
 obtain⟨h0,cells,ho,hb,hc⟩:=h
 obtain⟨_,_,_,_,_,_,_,hgl⟩:=hc.size
 refine⟨h0,cells,ho.keep fun k e=>?_,hb,(hc.keep hG fun b h1 h2 _ h3 h4=>hk b h1 h2 h3 h4).2⟩
 obtain⟨_,_,hf⟩:=ho.form
 obtain⟨k1,k2⟩:=hb k e
 have k3:=hgl k e
 rcases hf with⟨hA,_⟩ | ⟨g',hA,_,hlt⟩
 ·subst hA;cases e
 ·subst hA
  simp only[blk,Option.some.injEq]at e
  subst e
  exact hk _ k1 k2 k3 hlt
theorem KF.ex(hG:WF RO R)(k:KF w lo hi E sz RO A n c xs i l h e)(x:Ex w w'):KF w' lo hi E sz RO A n c xs i l h e:=k.keep hG fun b _ _ _ hl=>Below.block x b hl
theorem KF.only(hG:WF RO R){b:Nat}(k:KF w lo hi E sz RO A n c xs i l h e)(x:bF b w w')(hb:b<lo∨hi≤b∨(l≤b∧b<h)):KF w' lo hi E sz RO A n c xs i l h e:=k.keep hG fun k h1 h2 h3 _=>x.block k (by omega)
theorem KF.mut(hG:WF RO R){r:List (Nat×Nat)}(k:KF w lo hi E sz RO A n c xs i l h e)(x:UD r w w')(hd:∀k,lG r k→k<lo∨hi≤k∨(l≤k∧k<h)):KF w' lo hi E sz RO A n c xs i l h e:=
 x.carry (F:=fun w=>KF w lo hi E sz RO A n c xs i l h e) k (fun _ _ h e=>h.ex hG e) (fun _ _ k h e hk=>h.only hG e (hd k hk))
end
section
variable {α:Type}{P:Program}{o:Oper}{L:List (Nat×Value)}{w:World}{Q:Value→World→Prop}{RO:uE α}{R:WE α}
end
end Go.X
