/- A list made with its length, whose elements own memory, while it is filled from its first place on. -/
import Derived.Test.YtikkoidgamlgnaaE23
set_option linter.unusedVariables false
set_option linter.unusedSimpArgs false
namespace Go.X
open Go.RowKit
def AI{α:Type}(w:World)(lo hi E sz:Nat)(RO:rF α)(A:Option Addr)(n:Nat)(z:List Value)(ys:List α):Prop:=
 ys.length≤n∧z.length=sz∧∃cells:List (List Value),Own w lo E sz A n n (cells.flatten++RH z (n-ys.length))∧(∀k,blk A=some k→lo≤k∧k<hi)∧bD RO w sz (blk A) lo hi cells ys
section
variable {α:Type}{RO:rF α}{R:KF α}{w w':World}{lo hi E sz n:Nat}{A:Option Addr}{z:List Value}{ys:List α}
theorem AI.of_box{b:Nat}(hB:OD w b E (RH z n))(hz:z.length=sz)(hn:n≤281474976710656):AI w b (b+1) E sz RO (some ⟨b,0,none⟩) n z ([]:List α):=
 ⟨Nat.zero_le _,hz,[],Own.of_box hB (Nat.le_refl _) (by show(RH z n).length=_;rw[lJ,hz]) hn,fun k hk=>by simp only[blk,Option.some.injEq]at hk;omega,.nil (Nat.le_succ _)⟩
theorem AI.keep(hG:oG RO R)(h:AI w lo hi E sz RO A n z ys)(hk:∀b,lo≤b→b<hi→b<w.heap.size→w'.heap[b]? = w.heap[b]?):AI w' lo hi E sz RO A n z ys:=by
 obtain⟨h1,h2,cells,ho,hb,hc⟩:=h
 refine⟨h1,h2,cells,ho.keep fun k e=>?_,hb,hc.keep hG fun b h1 h2 _ h3=>hk b h1 h2 h3⟩
 obtain⟨_,_,hf⟩:=ho.form
 obtain⟨k1,k2⟩:=hb k e
 rcases hf with⟨hA,_⟩ | ⟨g',hA,_,hlt⟩
 ·subst hA;cases e
 ·subst hA;simp only[blk,Option.some.injEq]at e;exact hk k k1 k2 (e▸hlt)
theorem AI.ex(hG:oG RO R)(h:AI w lo hi E sz RO A n z ys)(e:Ex w w'):AI w' lo hi E sz RO A n z ys:=h.keep hG fun b _ _ hl=>Below.block e b hl
theorem AI.done(h:AI w lo hi E sz RO A n z ys)(hn:ys.length=n):IC w lo hi E sz RO A n n ys:=by
 obtain⟨h1,h2,cells,ho,hb,hc⟩:=h
 rw[hn,Nat.sub_self,show RH z 0=[]from rfl,List.append_nil]at ho
 exact⟨hn.symm,.inr ⟨cells,ho,hb,hc⟩⟩
variable {P:Program}{o:Oper}{L:List (Nat×Value)}{Q:Value→World→Prop}
end
end Go.X
