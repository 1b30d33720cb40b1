/- append, told finely: the list stays where it was, or lies in what is new. -/
import Derived.Test.YtikkoidgamlgnaaE21
set_option linter.unusedVariables false
set_option linter.unusedSimpArgs false
namespace Go.X
open Go.RowKit
section
variable {α:Type}{P:Program}{o:Oper}{L:List (Nat×Value)}{w:World}{Q:Value→World→Prop}{enc:α→List Value}
theorem Own.relo{w':World}{lo E sz n c:Nat}{A:Option Addr}{cells:List Value}(h:Own w' lo E sz A n c cells){lo2:Nat}(h2:∀g,blk A=some g→lo2≤g):Own w' lo2 E sz A n c cells:=by
 obtain⟨⟨h1,h3⟩,hn⟩:=h
 refine⟨⟨h1,?_⟩,hn⟩
 rcases h3 with h3 | ⟨g,cap,cur,hv,hg,r⟩
 ·exact .inl h3
 ·refine .inr ⟨g,cap,cur,hv,?_,r⟩
  simp only[Value.slice.injEq]at hv
  exact h2 g (by rw[hv.1];rfl)
theorem tF{s x:Operand}{t E lo hi sz by_:Nat}{z:Value}{ag:Bool}{A B:Option Addr}{n c m d:Nat}{xs ys:List α}{news:List Value}(ht:P.underlying t=some (.slice E))(hE:HF P E=some (sz,by_,some z,ag))(hzs:z.cells.size=sz)(hsz:0<sz)(h1c:∀x,(enc x).all (·.oneCell')=true)
  (ho:o.op=.call { callee:=.builtin .append,args:=#[s,x],argTypes:=#[t,t]}) (hs:tD L s=some (.slice A n c)) (hx:tD L x=some (.slice B m d)) (hown:WA w lo hi E sz (RF enc) A n c xs) {S:Nat→Prop}(henc:JB (RF enc w S) sz news ys) (hsrc:Src w sz B m news) (hm:m=ys.length)
  (h63:n+m≤281474976710656) (hb:(n+m)*by_≤140737488355328) (hlo:lo≤w.heap.size) (hhi:hi≤w.heap.size) (hlh:lo≤hi)
  (hR:∀A' c' w' row lo2 hi2,WA w' lo2 hi2 E sz (RF enc) A' (xs++ys).length c' (xs++ys)→w.grownBy w' row→(∀k,row=some k→lo≤k∧k<hi)→((lo2=lo∧hi2=hi)∨(lo2=w.heap.size∧hi2=w'.heap.size))→Q (.slice A' (xs++ys).length c') w'):Yl P o L w Q:=by
 have hg:Gd (RF enc):=RF.good h1c
 obtain⟨h1,h2⟩:=hown
 have hl:n+m=(xs++ys).length:=by rw[List.length_append,h1,hm]
 have hfl:∀{w1 w2:World}{S1 S2:Nat→Prop}{cs:List Value}{ys:List α},JB (RF enc w1 S1) sz cs ys→JB (RF enc w2 S2) sz cs ys:=fun h=>h.mono fun c x hx=>hx
 rcases h2 with⟨hn0,hc0⟩ | ⟨h2,S0,cells,hown,he,h3,h4⟩
 ·have hx0:xs=[]:=List.eq_nil_of_length_eq_zero (by rw[←h1,hn0])
  subst hx0;subst hn0;subst hc0
  rw[List.nil_append]at hR
  rw[Nat.zero_add]at h63 hb
  refine dH (lo:=w.heap.size) ht hE hzs hsz ho hs hx hsrc (henc.ones hg) h63 hb (Nat.le_refl _) (fun hm0=>?_) fun hmp A' c' w' hown' hgr hA'=>?_
  ·have hy0:ys=[]:=List.eq_nil_of_length_eq_zero (by rw[←hm,hm0])
   subst hy0
   exact hR A 0 w none lo hi (WA.empty _ _ _ _ _ _ _) ⟨rfl,rfl,rfl,Nat.le_refl _,fun _ _ _=>rfl⟩ (fun k h=>by cases h) (.inl ⟨rfl,rfl⟩)
  ·rw[hm]at hown' ⊢
   refine hR A' c' w' none w.heap.size w'.heap.size ⟨rfl,.inr ⟨fun k hk=>?_,fun _=>False,_,hown',hfl henc,fun _ _ h=>h,fun _ h=>h.elim⟩⟩ hgr (fun k h=>by cases h) (.inr ⟨rfl,rfl⟩)
   obtain⟨_,_,hf⟩:=hown'.form
   rcases hf with⟨hA,_⟩ | ⟨g,hA,hlo,hlt⟩
   ·rw[hA]at hk;cases hk
   ·rw[hA]at hk;simp only[blk,Option.some.injEq]at hk;subst hk;exact⟨hlo,hlt⟩
 ·refine EH ht hE hzs hsz ho hs hx hown hsrc (henc.ones hg) h63 hb hlo fun A' c' w' hown' hgr hA'=>?_
  rw[hl]at hown' ⊢
  have henc':=(hfl (w2:=w') (S2:=fun _=>False) he).append (hfl (w2:=w') (S2:=fun _=>False) henc)
  rcases hA' with hA' | hA'
  ·exact hR A' c' w' _ lo hi ⟨rfl,.inr ⟨fun k hk=>h2 k (by rw[←hA'];exact hk),fun _=>False,_,hown',henc',fun _ _ h=>h,fun _ h=>h.elim⟩⟩ hgr h2 (.inl ⟨rfl,rfl⟩)
  ·have hk0:∀k,blk A'=some k→k=w.heap.size:=fun k hk=>by rw[hA']at hk;simp only[blk,Option.some.injEq]at hk;exact hk.symm
   have ho2:=hown'.relo (lo2:=w.heap.size) fun g hg=>Nat.le_of_eq (hk0 g hg).symm
   refine hR A' c' w' _ w.heap.size w'.heap.size ⟨rfl,.inr ⟨fun k hk=>?_,fun _=>False,_,ho2,henc',fun _ _ h=>h,fun _ h=>h.elim⟩⟩ hgr h2 (.inr ⟨rfl,rfl⟩)
   obtain⟨_,_,hf⟩:=ho2.form
   rcases hf with⟨hA,_⟩ | ⟨g,hA,hlo,hlt⟩
   ·rw[hA]at hk;cases hk
   ·rw[hA]at hk;simp only[blk,Option.some.injEq]at hk;subst hk;exact⟨hlo,hlt⟩
end
def JL(n:Int):Prop:=0≤n∧n≤255
theorem zL{P:Program}{t:TypeId}(ht:P.underlying t=some (.int .u8)):OI P t (RF CF) JL:=by
 intro H enc w base spare held fuel cs x h _
 obtain⟨n,rfl,rfl,hw⟩:=DataW.trod_int ht h
 refine⟨n,rfl,?_⟩
 have h1:IntKind.min .u8=0:=by decide
 have h2:IntKind.max .u8=255:=by decide
 simp[Lit.wf]at hw
 unfold JL
 omega
theorem MK{xs:List Int}(h:YM JL xs):rE xs:=h.2
end Go.X
