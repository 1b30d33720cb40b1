/- Lists whose elements change places: where the list's block lies after an append; an element that is read keeps off the list's own block. -/
import Derived.Test.YtoimdjojffkefaaGreatDoorE26
set_option linter.unusedVariables false
set_option linter.unusedSimpArgs false
namespace Go.X
open Go.RowKit
section
variable {α:Type}{P:Program}{o:Oper}{L:List (Nat×Value)}{w:World}{Q:Value→World→Prop}{R:JM α}
theorem XX{s x:Operand}{t E lo hi sz by_:Nat}{z:Value}{ag:Bool}{A B:Option Addr}{n c m d:Nat}{xs ys:List α}{S:Nat→Prop}{news:List Value}(hg:Gd R)(ht:P.underlying t=some (.slice E))(hE:sK P E=some (sz,by_,some z,ag))(hzs:z.cells.size=sz)(hsz:0<sz)
  (ho:o.op=.call { callee:=.builtin .append,args:=#[s,x],argTypes:=#[t,t]}) (hs:rG L s=some (.slice A n c)) (hx:rG L x=some (.slice B m d)) (hown:KB w lo hi E sz R A n c xs) (henc:WC (R w S) sz news ys) (hsrc:Src w sz B m news) (hm:m=ys.length)
  (h63:n+m≤281474976710656) (hb:(n+m)*by_≤140737488355328) (hlo:lo≤w.heap.size) (hhi:hi≤w.heap.size) (hS:∀k,S k→k<w.heap.size→hi≤k) (hlh:lo≤hi) (hmp:0<m)
  (hR:∀A' c' w' row,KB w' lo w'.heap.size E sz R A' (xs++ys).length c' (xs++ys)→w.grownBy w' row→(∀k,row=some k→lo≤k∧k<hi)→(∀k,blk A'=some k→(lo≤k∧k<hi)∨w.heap.size≤k)→Q (.slice A' (xs++ys).length c') w'):Yl P o L w Q:=by
 obtain⟨h1,h2⟩:=hown
 have hl:n+m=(xs++ys).length:=by rw[List.length_append,h1,hm]
 have hblk:∀{A' c' w' cells},Own w' lo E sz A' (xs++ys).length c' cells→∀k,blk A'=some k→lo≤k∧k<w'.heap.size:=fun hown' k hk=>by
  obtain⟨_,_,hf⟩:=hown'.form
  rcases hf with⟨hA,_⟩ | ⟨g,hA,hlo,hlt⟩
  ·rw[hA]at hk;cases hk
  ·rw[hA]at hk;simp only[blk,Option.some.injEq]at hk;subst hk;exact⟨hlo,hlt⟩
 rcases h2 with⟨hn0,hc0⟩ | ⟨h2,S0,cells,hown,he,h3,h4⟩
 ·have hx0:xs=[]:=List.eq_nil_of_length_eq_zero (by rw[←h1,hn0])
  subst hx0;subst hn0;subst hc0
  rw[List.nil_append]at hR hblk
  rw[Nat.zero_add]at h63 hb
  refine IM ht hE hzs hsz ho hs hx hsrc (henc.ones hg) h63 hb hlo (fun hm0=>absurd hm0 (by omega)) fun hmp A' c' w' hown' hgr hA'=>?_
  rw[hm]at hown' ⊢
  refine hR A' c' w' none ⟨rfl,.inr ⟨hblk hown',fun b=>S b∧b<w.heap.size,_,hown',henc.mono fun c x hx=>?_,fun k hk hb=>?_,fun b hb=>⟨?_,Nat.lt_of_lt_of_le hb.2 hgr.size⟩⟩⟩ hgr (fun k h=>by cases h) (fun k hk=>?_)
  ·exact hg.keep (hg.wide hx fun b hb hl=>⟨hb,hl⟩) (fun b hb hl=>hgr.block b hl (by intro h;cases h))
  ·rw[hA']at hk
   simp only[Option.some.injEq]at hk
   have:=hb.2
   omega
  ·have:=hS b hb.1 hb.2;omega
  ·rw[hA']at hk
   simp only[Option.some.injEq]at hk
   omega
 ·have hSA:∀k,blk A=some k→¬S k:=fun k hk hs=>by
   have h5:=h2 k hk
   have:=hS k hs (by omega)
   omega
  refine yN ht hE hzs hsz ho hs hx hown hsrc (henc.ones hg) h63 hb hlo fun A' c' w' hown' hgr hA'=>?_
  rw[hl]at hown' ⊢
  have hkeep0:∀{cs x},R w S0 cs x→R w' (fun b=>(S0 b∨S b)∧b<w.heap.size∧lo≤b) cs x:=fun hx=>
   hg.keep (hg.wide hx (fun b hb hl=>⟨.inl hb,hl,(h4 b hb).1⟩)) (fun b hb hl=>hgr.block b hl (fun hh=>by
    rcases hb.1 with h | h
    ·exact h3 b hh.symm h
    ·exact hSA b hh.symm h))
  have hkeep1:∀{cs x},R w S cs x→R w' (fun b=>(S0 b∨S b)∧b<w.heap.size∧lo≤b) cs x:=fun hx=>
   hg.keep (hg.wide hx (fun b hb hl=>⟨.inr hb,hl,by have:=hS b hb hl;omega⟩)) (fun b hb hl=>hgr.block b hl (fun hh=>by
    rcases hb.1 with h | h
    ·exact h3 b hh.symm h
    ·exact hSA b hh.symm h))
  refine hR A' c' w' _ ⟨rfl,.inr ⟨hblk hown',_,_,hown',(he.mono fun c x hx=>hkeep0 hx).append (henc.mono fun c x hx=>hkeep1 hx),fun k hk=>?_,fun b hb=>⟨hb.2.2,Nat.lt_of_lt_of_le hb.2.1 hgr.size⟩⟩⟩ hgr h2 (fun k hk=>?_)
  ·rintro⟨hb,hl,_⟩
   rcases hA' with hA' | hA'
   ·rw[hA']at hk
    rcases hb with hb | hb
    ·exact h3 k hk hb
    ·exact hSA k hk hb
   ·rw[hA']at hk
    simp only[blk,Option.some.injEq]at hk
    omega
  ·rcases hA' with hA' | hA'
   ·rw[hA']at hk;exact .inl (h2 k hk)
   ·rw[hA']at hk
    simp only[blk,Option.some.injEq]at hk
    omega
def Dg(lo hi:Nat)(A:Option Addr)(b:Nat):Prop:=lo≤b∧b<hi∧blk A≠some b
theorem KB.atN{lo hi E sz n c:Nat}{A:Option Addr}{xs:List α}(hg:Gd R)(h:KB w lo hi E sz R A n c xs)(d:α){i:Nat}(hi':i<n) :
  ∃b off cs,A=some ⟨b,off,none⟩∧(lo≤b∧b<hi)∧b<w.heap.size∧cs.length=sz∧R w (Dg lo hi A) cs (xs.getD i d)∧VH w b (off+i*sz) cs:=by
 obtain⟨e1,-⟩:=id h
 obtain⟨e2,S,cells,hown,he,h3,h4⟩:=h.full hi'
 obtain⟨f1,f2,hf⟩:=hown.form
 rcases hf with⟨_,h0⟩ | ⟨g,hA,hlo,hlt⟩
 ·omega
 subst hA
 obtain⟨rest,hB,hr,hnc,hcm,hlo2⟩:=hown.box
 have hil:i<xs.length:=by omega
 obtain⟨hl,hR⟩:=he.at hil
 have hcl:=he.length
 have hm:i*sz+sz≤xs.length*sz:=by have:=Nat.mul_le_mul_right sz hil;rw[Nat.succ_mul]at this;omega
 refine⟨g,0,_,rfl,e2 g rfl,hlt,hl,?_,?_⟩
 ·rw[yE hil]
  exact hg.wide hR fun b hb _=>⟨(h4 b hb).1,(h4 b hb).2,fun e=>h3 b e hb⟩
 ·rw[Nat.zero_add]
  exact hB.cells (o:=i*sz) (n:=sz) (by rw[List.drop_append_of_le_length (by omega),List.take_append_of_le_length (by rw[List.length_drop];omega)])
end
end Go.X
