/- An append of elements that are older than the list that the call makes. -/
import Derived.Test.YtoimdjojffkefaaGreatDoorE25
set_option linter.unusedVariables false
set_option linter.unusedSimpArgs false
namespace Go.X
open Go.RowKit
section
variable {α:Type}{P:Program}{o:Oper}{L:List (Nat×Value)}{w:World}{Q:Value→World→Prop}{R:JM α}
theorem ZX{s x:Operand}{t E lo hi sz by_:Nat}{z:Value}{ag:Bool}{A B:Option Addr}{n c m d:Nat}{xs ys:List α}{M:Nat}{S:Nat→Prop}{news:List Value}(hg:Gd R)(ht:P.underlying t=some (.slice E))(hE:sK P E=some (sz,by_,some z,ag))(hzs:z.cells.size=sz)(hsz:0<sz)
  (ho:o.op=.call { callee:=.builtin .append,args:=#[s,x],argTypes:=#[t,t]}) (hs:rG L s=some (.slice A n c)) (hx:rG L x=some (.slice B m d)) (hown:KB w lo hi E sz R A n c xs) (henc:WC (R w S) sz news ys) (hsrc:Src w sz B m news) (hm:m=ys.length)
  (h63:n+m≤281474976710656) (hb:(n+m)*by_≤140737488355328) (hlo:lo≤w.heap.size) (hhi:hi≤w.heap.size) (hS:∀k,S k→k<w.heap.size→lo≤k∧(hi≤k∨k<M)) (hbk:∀k,blk A=some k→M≤k) (hM:M≤w.heap.size) (hlh:lo≤hi)
  (hR:∀A' c' w' row,KB w' lo w'.heap.size E sz R A' (xs++ys).length c' (xs++ys)→w.grownBy w' row→(∀k,row=some k→(lo≤k∧M≤k)∧k<hi)→(∀k,blk A'=some k→M≤k)→Q (.slice A' (xs++ys).length c') w'):Yl P o L w Q:=by
 obtain⟨h1,h2⟩:=hown
 have hl:n+m=(xs++ys).length:=by rw[List.length_append,h1,hm]
 have hblk:∀{A' c' w' cells},Own w' lo E sz A' (xs++ys).length c' cells→∀k,blk A'=some k→lo≤k∧k<w'.heap.size:=fun hown' k hk=>by
  obtain⟨_,_,hf⟩:=hown'.form
  rcases hf with⟨hA,_⟩ | ⟨g,hA,hlo,hlt⟩
  ·rw[hA]at hk;cases hk
  ·rw[hA]at hk;simp only[blk,Option.some.injEq]at hk;subst hk;exact⟨hlo,hlt⟩
 rcases h2 with⟨hn0,hc0⟩ | ⟨h2,S0,cells,hown,he,h3,h4⟩
 ·have hx0:xs=[]:=List.eq_nil_of_length_eq_zero (by rw[←h1,hn0])
  subst hx0;subst hn0;subst hc0
  rw[List.nil_append]at hR hblk
  rw[Nat.zero_add]at h63 hb
  refine IM ht hE hzs hsz ho hs hx hsrc (henc.ones hg) h63 hb hlo (fun hm0=>?_) fun hmp A' c' w' hown' hgr hA'=>?_
  ·have hy0:ys=[]:=List.eq_nil_of_length_eq_zero (by rw[←hm,hm0])
   subst hy0
   exact hR A 0 w none (KB.empty _ _ _ _ _ _ _) ⟨rfl,rfl,rfl,Nat.le_refl _,fun _ _ _=>rfl⟩ (fun k h=>by cases h) hbk
  ·rw[hm]at hown' ⊢
   refine hR A' c' w' none ⟨rfl,.inr ⟨hblk hown',fun b=>S b∧b<w.heap.size,_,hown',henc.mono fun c x hx=>?_,fun k hk hb=>?_,fun b hb=>⟨?_,Nat.lt_of_lt_of_le hb.2 hgr.size⟩⟩⟩ hgr (fun k h=>by cases h) (fun k hk=>?_)
   ·exact hg.keep (hg.wide hx fun b hb hl=>⟨hb,hl⟩) (fun b hb hl=>hgr.block b hl (by intro h;cases h))
   ·rw[hA']at hk
    simp only[Option.some.injEq]at hk
    have:=hb.2
    omega
   ·have:=hS b hb.1 hb.2;omega
   ·rw[hA']at hk
    simp only[Option.some.injEq]at hk
    omega
 ·have hSA:∀k,blk A=some k→¬S k:=fun k hk hs=>by
   have h5:=h2 k hk
   have h6:=hbk k hk
   have:=hS k hs (by omega)
   omega
  refine yN ht hE hzs hsz ho hs hx hown hsrc (henc.ones hg) h63 hb hlo fun A' c' w' hown' hgr hA'=>?_
  rw[hl]at hown' ⊢
  have hkeep0:∀{cs x},R w S0 cs x→R w' (fun b=>(S0 b∨S b)∧b<w.heap.size∧lo≤b) cs x:=fun hx=>
   hg.keep (hg.wide hx (fun b hb hl=>⟨.inl hb,hl,(h4 b hb).1⟩)) (fun b hb hl=>hgr.block b hl (fun hh=>by
    rcases hb.1 with h | h
    ·exact h3 b hh.symm h
    ·exact hSA b hh.symm h))
  have hkeep1:∀{cs x},R w S cs x→R w' (fun b=>(S0 b∨S b)∧b<w.heap.size∧lo≤b) cs x:=fun hx=>
   hg.keep (hg.wide hx (fun b hb hl=>⟨.inr hb,hl,by have:=hS b hb hl;omega⟩)) (fun b hb hl=>hgr.block b hl (fun hh=>by
    rcases hb.1 with h | h
    ·exact h3 b hh.symm h
    ·exact hSA b hh.symm h))
  refine hR A' c' w' _ ⟨rfl,.inr ⟨hblk hown',_,_,hown',(he.mono fun c x hx=>hkeep0 hx).append (henc.mono fun c x hx=>hkeep1 hx),fun k hk=>?_,fun b hb=>⟨hb.2.2,Nat.lt_of_lt_of_le hb.2.1 hgr.size⟩⟩⟩ hgr (fun k hk=>⟨⟨(h2 k hk).1,hbk k hk⟩,(h2 k hk).2⟩) (fun k hk=>?_)
  rotate_left
  ·rcases hA' with hA' | hA'
   ·rw[hA']at hk;exact hbk k hk
   ·rw[hA']at hk
    simp only[blk,Option.some.injEq]at hk
    omega
  rintro⟨hb,hl,_⟩
  rcases hA' with hA' | hA'
  ·rw[hA']at hk
   rcases hb with hb | hb
   ·exact h3 k hk hb
   ·exact hSA k hk hb
  ·rw[hA']at hk
   simp only[blk,Option.some.injEq]at hk
   omega
end
end Go.X
