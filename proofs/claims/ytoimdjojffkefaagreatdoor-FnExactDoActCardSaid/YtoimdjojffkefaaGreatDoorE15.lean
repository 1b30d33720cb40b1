/- Lists whose elements own memory too: each element's blocks are the list's own. -/
import Derived.Test.YtoimdjojffkefaaGreatDoorE14
set_option linter.unusedVariables false
set_option linter.unusedSimpArgs false
namespace Go.X
open Go.RowKit
abbrev fJ(α:Type):=World→Nat→Nat→List Value→α→Prop
structure ML {α:Type}(RO:fJ α) (R:tJ α):Prop where
 keep:∀{w w':World}{l h:Nat}{c:List Value}{x:α},RO w l h c x→(∀b,l≤b→b<h→b<w.heap.size→w'.heap[b]? = w.heap[b]?)→RO w' l h c x
 one:∀{w:World}{l h:Nat}{c:List Value}{x:α},RO w l h c x→c.all Value.oneCell'=true
 rd:∀{w:World}{l h:Nat}{c:List Value}{x:α},RO w l h c x→R w (Iv l h) c x
inductive JH {α:Type}(RO:fJ α) (w:World) (sz:Nat) (g:Option Nat):Nat→Nat→List (List Value)→List α→Prop
 | nil {lo hi:Nat}(h:lo≤hi):JH RO w sz g lo hi [] []
 | cons {lo l h hi:Nat}{c:List Value}{x:α}{cs:List (List Value)}{xs:List α}(h1:lo≤l) (h2:l≤h) (hl:c.length=sz) (hg:∀k,g=some k→k<l∨h≤k) (hr:RO w l h c x) (hs:JH RO w sz g h hi cs xs):JH RO w sz g lo hi (c::cs) (x::xs)
inductive DI {α:Type}(RO:fJ α) (w:World) (sz:Nat) (g:Option Nat) (l h:Nat) (c:List Value):Nat→Nat→Nat→List (List Value)→List α→Prop
 | here {lo hi:Nat}{x:α}{cs:List (List Value)}{xs:List α}(h1:lo≤l) (h2:l≤h) (hl:c.length=sz) (hg:∀k,g=some k→k<l∨h≤k) (hs:JH RO w sz g h hi cs xs):DI RO w sz g l h c 0 lo hi (c::cs) (x::xs)
 | there {i lo l' h' hi:Nat}{c':List Value}{x:α}{cs:List (List Value)}{xs:List α}(h1:lo≤l') (h2:l'≤h') (hl:c'.length=sz) (hg:∀k,g=some k→k<l'∨h'≤k) (hr:RO w l' h' c' x) (hs:DI RO w sz g l h c i h' hi cs xs):DI RO w sz g l h c (i+1) lo hi (c'::cs) (x::xs)
section
variable {α:Type}{RO:fJ α}{R:tJ α}{w w':World}{sz:Nat}{g g':Option Nat}{lo hi m l h i:Nat}{cs ds:List (List Value)}{xs ys:List α}{c:List Value}
theorem JH.le(k:JH RO w sz g lo hi cs xs):lo≤hi:=by
 induction k with
 | nil h=>exact h
 | cons h1 h2 _ _ _ _ ih=>omega
theorem JH.keep(hG:ML RO R)(k:JH RO w sz g lo hi cs xs)(hk:∀b,lo≤b→b<hi→g≠some b→b<w.heap.size→w'.heap[b]? = w.heap[b]?):JH RO w' sz g lo hi cs xs:=by
 induction k with
 | nil h=>exact .nil h
 | @cons lo l h hi c x cs xs h1 h2 hl hg hr hs ih=>
  have:=hs.le
  exact .cons h1 h2 hl hg (hG.keep hr fun b hb1 hb2 hb3=>hk b (by omega) (by omega) (fun e=>by have:=hg b e;omega) hb3) (ih fun b hb1 hb2 hb3=>hk b (by omega) hb2 hb3)
theorem JH.low(k:JH RO w sz g lo hi cs xs)(hm:m≤lo):JH RO w sz g m hi cs xs:=by
 cases k with
 | nil h=>exact .nil (by omega)
 | cons h1 h2 hl hg hr hs=>exact .cons (by omega) h2 hl hg hr hs
theorem JH.high(k:JH RO w sz g lo hi cs xs)(hm:hi≤m):JH RO w sz g lo m cs xs:=by
 induction k with
 | nil h=>exact .nil (by omega)
 | cons h1 h2 hl hg hr hs ih=>exact .cons h1 h2 hl hg hr (ih hm)
theorem JH.append(k:JH RO w sz g lo m cs xs)(j:JH RO w sz g m hi ds ys):JH RO w sz g lo hi (cs++ds) (xs++ys):=by
 induction k with
 | nil h=>exact j.low h
 | cons h1 h2 hl hg hr hs ih=>exact .cons h1 h2 hl hg hr (ih j)
theorem JH.ones(hG:ML RO R)(k:JH RO w sz g lo hi cs xs):∀u∈cs.flatten,u.oneCell'=true:=by
 induction k with
 | nil h=>intro u hu;cases hu
 | @cons lo l h hi c x cs xs h1 h2 hl hg' hr hs ih=>
  intro u hu
  rw[List.flatten_cons]at hu
  rcases List.mem_append.1 hu with hu | hu
  ·exact List.all_eq_true.1 (hG.one hr) u hu
  ·exact ih u hu
theorem JH.len(k:JH RO w sz g lo hi cs xs):cs.flatten.length=xs.length*sz:=by
 induction k with
 | nil h=>simp
 | cons h1 h2 hl hg' hr hs ih=>rw[List.flatten_cons,List.length_append,hl,ih,List.length_cons,Nat.add_mul];omega
theorem DI.keep(hG:ML RO R)(k:DI RO w sz g l h c i lo hi cs xs)(hk:∀b,lo≤b→b<hi→g≠some b→(b<l∨h≤b)→b<w.heap.size→w'.heap[b]? = w.heap[b]?):lo≤l∧DI RO w' sz g l h c i lo hi cs xs:=by
 induction k with
 | here h1 h2 hl hg hs=>
  have:=hs.le
  exact⟨h1,.here h1 h2 hl hg (hs.keep hG fun b hb1 hb2 hb3 hb4=>hk b (by omega) hb2 hb3 (.inr hb1) hb4)⟩
 | @there i lo l' h' hi c' x cs xs h1 h2 hl hg hr hs ih=>
  have hle:h'≤hi:=by
   have:∀{i lo hi:Nat}{cs:List (List Value)}{xs:List α},DI RO w sz g l h c i lo hi cs xs→lo≤hi:=by
    intro i lo hi cs xs k
    induction k with
    | here h1 h2 _ _ hs=>have:=hs.le;omega
    | there h1 h2 _ _ _ _ ih=>omega
   exact this hs
  obtain⟨a,b⟩:=ih fun b hb1 hb2 hb3 hb4 hb5=>hk b (by omega) hb2 hb3 hb4 hb5
  exact⟨by omega,.there h1 h2 hl hg (hG.keep hr fun b hb1 hb2 hb3=>hk b (by omega) (by omega) (fun e=>by have:=hg b e;omega) (by omega) hb3) b⟩
theorem QR{c cs:List Value}(d:Nat)(vs:List Value)(hd:d+vs.length≤c.length):OC (c++cs) d vs=OC c d vs++cs:=by
 simp only[OC,List.take_append,List.drop_append,List.append_assoc]
 rw[show d-c.length=0 by omega,show d+vs.length-c.length=0 by omega]
 simp
theorem AQ{c cs:List Value}(d:Nat)(vs:List Value)(hd:c.length≤d):OC (c++cs) d vs=c++OC cs (d-c.length) vs:=by
 simp only[OC,List.take_append,List.drop_append,List.append_assoc]
 rw[List.take_of_length_le (by omega),List.drop_eq_nil_of_le (by omega),show d+vs.length-c.length=d-c.length+vs.length by omega]
 simp
theorem DI.put(k:DI RO w sz g l h c i lo hi cs xs){d:Nat}{vs:List Value}(hd:d+vs.length≤sz):∃cs',cs'.flatten=OC cs.flatten (i*sz+d) vs∧DI RO w sz g l h (OC c d vs) i lo hi cs' xs:=by
 induction k with
 | @here lo hi x cs xs h1 h2 hl hg hs=>
  refine⟨OC c d vs::cs,?_,.here h1 h2 (by rw[bI (by omega),hl]) hg hs⟩
  rw[List.flatten_cons,List.flatten_cons,Nat.zero_mul,Nat.zero_add,QR _ _ (by omega)]
 | @there i lo l' h' hi c' x cs xs h1 h2 hl hg hr hs ih=>
  obtain⟨cs',e,k⟩:=ih
  refine⟨c'::cs',?_,.there h1 h2 hl hg hr k⟩
  rw[List.flatten_cons,List.flatten_cons,e,Nat.add_mul,Nat.one_mul,AQ _ _ (by omega)]
  congr 2
  omega
theorem DI.at(k:DI RO w sz g l h c i lo hi cs xs):∀j v,c[j]? = some v→cs.flatten[i*sz+j]? = some v:=by
 induction k with
 | @here lo hi x cs xs h1 h2 hl hg hs=>
  intro j v hv
  rw[List.flatten_cons,Nat.zero_mul,Nat.zero_add,List.getElem?_append_left (by
   rcases Nat.lt_or_ge j c.length with h | h
   ·exact h
   ·rw[List.getElem?_eq_none h]at hv;cases hv)]
  exact hv
 | @there i lo l' h' hi c' x cs xs h1 h2 hl hg hr hs ih=>
  intro j v hv
  rw[List.flatten_cons,List.getElem?_append_right (by rw[Nat.add_mul];omega)]
  have:=ih j v hv
  rw[←this]
  congr 1
  rw[Nat.add_mul];omega
theorem DI.size(k:DI RO w sz g l h c i lo hi cs xs):cs.flatten.length=xs.length*sz∧i<xs.length∧c.length=sz∧lo≤hi∧lo≤l∧h≤hi∧l≤h∧(∀k,g=some k→k<l∨h≤k):=by
 induction k with
 | here h1 h2 hl hg hs=>exact⟨by rw[List.flatten_cons,List.length_append,hl,hs.len,List.length_cons,Nat.add_mul];omega,by simp,hl,by have:=hs.le;omega,h1,hs.le,h2,hg⟩
 | there h1 h2 hl hg hr hs ih=>obtain⟨a,b,b',b'',b3,b4,b5,b6⟩:=ih;exact⟨by rw[List.flatten_cons,List.length_append,hl,a,List.length_cons,Nat.add_mul];omega,by simpa using b,b',by omega,by omega,b4,b5,b6⟩
end
def mI{α:Type}(w:World)(lo hi E sz:Nat)(RO:fJ α)(A:Option Addr)(n c:Nat)(xs:List α):Prop:=
 n=xs.length∧((n=0∧c=0)∨∃cells:List (List Value),Own w lo E sz A n c cells.flatten∧(∀k,blk A=some k→lo≤k∧k<hi)∧JH RO w sz (blk A) lo hi cells xs)
def ZL{α:Type}(w:World)(lo hi E sz:Nat)(RO:fJ α)(A:Option Addr)(n c:Nat)(xs:List α)(i l h:Nat)(e:List Value):Prop:=
 n=xs.length∧∃cells:List (List Value),Own w lo E sz A n c cells.flatten∧(∀k,blk A=some k→lo≤k∧k<hi)∧DI RO w sz (blk A) l h e i lo hi cells xs
section
variable {α:Type}{RO:fJ α}{R:tJ α}{w w':World}{lo hi E sz n c i l h h':Nat}{A:Option Addr}{xs ys:List α}{e:List Value}
theorem mI.len(h:mI w lo hi E sz RO A n c xs):n=xs.length:=h.1
theorem mI.fix(h:mI w lo hi E sz RO A n c xs):mI w lo hi E sz RO A xs.length c xs:=by
 obtain rfl:=h.1
 exact h
theorem mI.nil(w:World)(lo hi E sz:Nat)(RO:fJ α):mI w lo hi E sz RO none 0 0 []:=⟨rfl,.inl ⟨rfl,rfl⟩⟩
theorem mI.empty(w:World)(lo hi E sz:Nat)(RO:fJ α)(A:Option Addr):mI w lo hi E sz RO A 0 0 []:=⟨rfl,.inl ⟨rfl,rfl⟩⟩
theorem mI.keep(hG:ML RO R)(h:mI w lo hi E sz RO A n c xs)(hk:∀b,lo≤b→b<hi→b<w.heap.size→w'.heap[b]? = w.heap[b]?):mI w' lo hi E sz RO A n c xs:=by
 refine⟨h.1,h.2.imp id fun⟨cells,ho,hb,hc⟩=>⟨cells,ho.keep fun k e=>?_,hb,hc.keep hG fun b h1 h2 _ h3=>hk b h1 h2 h3⟩⟩
 obtain⟨_,_,hf⟩:=ho.form
 obtain⟨k1,k2⟩:=hb k e
 rcases hf with⟨hA,_⟩ | ⟨g',hA,_,hlt⟩
 ·subst hA;cases e
 ·subst hA
  simp only[blk,Option.some.injEq]at e
  subst e
  exact hk _ k1 k2 hlt
theorem mI.ex(hG:ML RO R)(h:mI w lo hi E sz RO A n c xs)(e:Ex w w'):mI w' lo hi E sz RO A n c xs:=h.keep hG fun b _ _ hl=>Below.block e b hl
theorem mI.only(hG:ML RO R){b:Nat}(h:mI w lo hi E sz RO A n c xs)(e:UK b w w')(hb:b<lo∨hi≤b):mI w' lo hi E sz RO A n c xs:=h.keep hG fun k h1 h2 _=>e.block k (by omega)
theorem mI.grown(hG:ML RO R){row:Option Nat}(h:mI w lo hi E sz RO A n c xs)(e:w.grownBy w' row)(hb:∀k,row=some k→k<lo∨hi≤k):mI w' lo hi E sz RO A n c xs:=h.keep hG fun k h1 h2 h3=>e.block k h3 (fun hh=>by have:=hb k hh.symm;omega)
theorem mI.chg(hG:ML RO R){p:Nat→Prop}(h:mI w lo hi E sz RO A n c xs)(e:jK p w w')(hp:∀b,b<w.heap.size→p b→b<lo∨hi≤b):mI w' lo hi E sz RO A n c xs:=h.keep hG fun b h1 h2 hl=>e.block b hl fun hh=>by have:=hp b hl hh;omega
theorem mI.mut(hG:ML RO R){r:List (Nat×Nat)}(h:mI w lo hi E sz RO A n c xs)(e:qG r w w')(hd:∀k,kK r k→k<lo∨hi≤k):mI w' lo hi E sz RO A n c xs:=
 e.carry (F:=fun w=>mI w lo hi E sz RO A n c xs) h (fun _ _ h e=>h.ex hG e) (fun _ _ k h e hk=>h.only hG e (hd k hk))
theorem mI.more{lo' hi':Nat}(h:mI w lo hi E sz RO A n c xs)(hl:lo'≤lo)(hh:hi≤hi'):mI w lo' hi' E sz RO A n c xs:=
 ⟨h.1,h.2.imp id fun⟨cells,ho,hb,hc⟩=>⟨cells,⟨⟨ho.1.1,by
  rcases ho.1.2 with hx | ⟨g,cap,cur,hv,hg,r⟩
  ·exact .inl hx
  ·exact .inr ⟨g,cap,cur,hv,by omega,r⟩⟩,ho.2⟩,fun k hk=>by have:=hb k hk;omega,(hc.low hl).high hh⟩⟩
theorem mI.of_box{b:Nat}{cells:List (List Value)}(hB:MF w b E cells.flatten)(hlo:lo≤b)(hbi:b<hi)(hc:JH RO w sz (some b) lo hi cells xs)(hn:xs.length≤281474976710656):mI w lo hi E sz RO (some ⟨b,0,none⟩) xs.length xs.length xs:=
 ⟨rfl,.inr ⟨cells,Own.of_box hB hlo hc.len hn,fun k hk=>by simp only[Go.X.blk,Option.some.injEq]at hk;omega,hc⟩⟩
theorem ZL.cells{g:Nat}(h:ZL w lo hi E sz RO (some ⟨g,0,none⟩) n c xs i l h' e):UF w g (0+i*sz) e:=by
 obtain⟨h0,cells,ho,hb,hc⟩:=h
 intro j v hv
 have:=ho.cells (i*sz+j) v (hc.at j v hv)
 simpa [Nat.add_assoc]using this
theorem ZL.keep(hG:ML RO R)(h:ZL w lo hi E sz RO A n c xs i l h' e)(hk:∀b,lo≤b→b<hi→(b<l∨h'≤b)→b<w.heap.size→w'.heap[b]? = w.heap[b]?):ZL w' lo hi E sz RO A n c xs i l h' e:=by
 obtain⟨h0,cells,ho,hb,hc⟩:=h
 obtain⟨_,_,_,_,_,_,_,hgl⟩:=hc.size
 refine⟨h0,cells,ho.keep fun k e=>?_,hb,(hc.keep hG fun b h1 h2 _ h3 h4=>hk b h1 h2 h3 h4).2⟩
 obtain⟨_,_,hf⟩:=ho.form
 obtain⟨k1,k2⟩:=hb k e
 have k3:=hgl k e
 rcases hf with⟨hA,_⟩ | ⟨g',hA,_,hlt⟩
 ·subst hA;cases e
 ·subst hA
  simp only[blk,Option.some.injEq]at e
  subst e
  exact hk _ k1 k2 k3 hlt
theorem ZL.ex(hG:ML RO R)(k:ZL w lo hi E sz RO A n c xs i l h e)(x:Ex w w'):ZL w' lo hi E sz RO A n c xs i l h e:=k.keep hG fun b _ _ _ hl=>Below.block x b hl
theorem ZL.only(hG:ML RO R){b:Nat}(k:ZL w lo hi E sz RO A n c xs i l h e)(x:UK b w w')(hb:b<lo∨hi≤b∨(l≤b∧b<h)):ZL w' lo hi E sz RO A n c xs i l h e:=k.keep hG fun k h1 h2 h3 _=>x.block k (by omega)
theorem ZL.mut(hG:ML RO R){r:List (Nat×Nat)}(k:ZL w lo hi E sz RO A n c xs i l h e)(x:qG r w w')(hd:∀k,kK r k→k<lo∨hi≤k∨(l≤k∧k<h)):ZL w' lo hi E sz RO A n c xs i l h e:=
 x.carry (F:=fun w=>ZL w lo hi E sz RO A n c xs i l h e) k (fun _ _ h e=>h.ex hG e) (fun _ _ k h e hk=>h.only hG e (hd k hk))
end
section
variable {α:Type}{P:Program}{o:Oper}{L:List (Nat×Value)}{w:World}{Q:Value→World→Prop}{RO:fJ α}{R:tJ α}
end
end Go.X
