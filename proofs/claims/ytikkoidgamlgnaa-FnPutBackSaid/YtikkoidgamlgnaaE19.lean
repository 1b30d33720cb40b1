import Derived.Test.YtikkoidgamlgnaaE18
/-! clear of a list's tail; the list's head stays the call's own. -/
set_option linter.unusedVariables false
set_option linter.unusedSimpArgs false
namespace Go.X
open Go.RowKit
section
variable {α:Type}{P:Program}{o:Oper}{L:List (Nat×Value)}{w:World}{Q:Value→World→Prop}{R:KF α}{lo hi E sz n c k:Nat}{A:Option Addr}{xs:List α}
theorem Own.take{cells:List Value}(h:Own w lo E sz A n c cells)(hk:k≤n):Own w lo E sz A k c (cells.take (k*sz)):=by
 have hn:=h.2
 have hl:=h.len
 obtain⟨f1,f2,hf⟩:=h.form
 have hmul:=Nat.mul_le_mul_right sz hk
 rcases hf with⟨hA,h0⟩ | ⟨g,hA,hlo,hlt⟩
 ·have:k=n:=by omega
  subst this
  rw[List.take_of_length_le (by omega)]
  exact h
 ·subst hA
  obtain⟨rest,hB,hr,hnc,hcm,hlo⟩:=h.box
  refine Own.of_box' (rest:=cells.drop (k*sz)++rest) ?_ (by rw[List.length_take];omega) ?_ (by omega) hcm hlo (by omega)
  ·rw[←List.append_assoc,List.take_append_drop];exact hB
  ·rw[List.length_append,List.length_drop,hl,hr,←Nat.sub_mul,←Nat.add_mul]
   congr 1;omega
theorem JB.take'{w:World}{S:Nat→Prop}{cells:List Value}{R:KF α}(h:JB (R w S) sz cells xs):∀k,JB (R w S) sz (cells.take (k*sz)) (xs.take k):=by
 induction h with
 | nil=>intro k;simp only[List.take_nil];exact .nil
 | @cons c x cs xs hl h hs ih=>
  intro k
  cases k with
  | zero=>simp only[Nat.zero_mul,List.take_zero];exact .nil
  | succ k=>
   have e:(c++cs).take ((k+1)*sz)=c++cs.take (k*sz):=by
    rw[Nat.succ_mul,Nat.add_comm,List.take_append,List.take_of_length_le (by omega)]
    congr 2;omega
   rw[e,List.take_succ_cons]
   exact .cons hl h (ih k)
theorem WA.take(h:WA w lo hi E sz R A n c xs)(hk:k≤n):WA w lo hi E sz R A k c (xs.take k):=by
 obtain⟨h1,h2⟩:=h
 refine⟨by rw[List.length_take];omega,?_⟩
 rcases h2 with⟨h0,hc⟩ | ⟨a,S,cells,ho,he,h3,h4⟩
 ·exact .inl ⟨by omega,hc⟩
 ·exact .inr ⟨a,S,_,ho.take hk,he.take' k,h3,h4⟩
end
/-! What slices.DeleteFunc has done when it has looked at j elements and kept i. -/
structure DF {α:Type}(f:α→Bool) (p xs:List α) (i j:Nat):Prop where
 lt:i<j
 le:j≤p.length
 len:xs.length=p.length
 pre:xs.take i=(p.take j).filter fun y=>!f y
 suf:xs.drop j=p.drop j
section
variable {α:Type}{f:α→Bool}{p xs:List α}{i j:Nat}{d:α}
theorem DF.get(h:DF f p xs i j)(hj:j<p.length):xs.getD j d=p.getD j d:=by
 have e:(xs.drop j).getD 0 d=(p.drop j).getD 0 d:=by rw[h.suf]
 simpa [List.getD,List.getElem?_drop]using e
theorem DF.done(h:DF f p xs i p.length):xs.take i=(p.filter fun y=>!f y)∧i=(p.filter fun y=>!f y).length:=by
 have e:=h.pre
 rw[List.take_length]at e
 refine⟨e,?_⟩
 rw[←e,List.length_take]
 have:=h.lt;have:=h.len;omega
end
end Go.X
