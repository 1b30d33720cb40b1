/- Shorter words for what the printed proofs say often. -/
import Derived.Test.YtjgimhdmpcincaaGreatDoorE12
set_option linter.unusedVariables false
set_option linter.unusedSimpArgs false
namespace Go.X
open Go.RowKit
section
variable {P:Program}{n:Nat}{ops:Array Oper}{K:List (Nat×Value)→World→Prop}{o:Oper}{l:List Oper}{L:List (Nat×Value)}{w:World}
def cP(n:Nat)(o:Oper):Option Nat:=match o.guard,o.dst with
 | none,some d=>bif Nat.blt d n then some d else none
 | _,_=>none
theorem cP.spec{d:Nat}(h:cP n o=some d):o.guard=none∧o.dst=some d∧Nat.blt d n=true:=by
 unfold cP at h
 cases hg:o.guard with
 | some x=>rw[hg]at h;cases h
 | none=>
  cases hd:o.dst with
  | none=>rw[hg,hd]at h;cases h
  | some d'=>
   rw[hg,hd]at h
   simp only at h
   cases hb:Nat.blt d' n with
   | false=>rw[hb]at h;cases h
   | true=>rw[hb]at h;cases h;exact⟨rfl,rfl,hb⟩
theorem sd{d:Nat}(hs:cP n o=some d)(h:Yl P o L w fun v w'=>jH P n ops K l ((d,v)::L) w'):jH P n ops K (o::l) L w:=
 jH.d1 (cP.spec hs).1 (cP.spec hs).2.1 (cP.spec hs).2.2 h
def MP(n:Nat)(ops:Array Oper)(o:Oper):Option (Nat×Nat×Bool):=match o.guard,o.dst with
 | some (j,b),some d=>match (ops[j]?).bind (·.dst)with
  | some e=>bif Nat.blt d n then some (d,e,b)else none
  | none=>none
 | _,_=>none
theorem MP.spec{d e:Nat}{b:Bool}(h:MP n ops o=some (d,e,b)):∃j,o.guard=some (j,b)∧o.dst=some d∧Nat.blt d n=true∧(ops[j]?).bind (·.dst)=some e:=by
 unfold MP at h
 cases hg:o.guard with
 | none=>rw[hg]at h;cases h
 | some x=>
  obtain⟨j,b'⟩:=x
  cases hd:o.dst with
  | none=>rw[hg,hd]at h;cases h
  | some d'=>
   rw[hg,hd]at h
   simp only at h
   cases he:(ops[j]?).bind (·.dst)with
   | none=>rw[he]at h;cases h
   | some e'=>
    rw[he]at h
    simp only at h
    cases hb:Nat.blt d' n with
    | false=>rw[hb]at h;cases h
    | true=>rw[hb]at h;cases h;exact⟨j,rfl,rfl,hb,he⟩
theorem sy{d e:Nat}{b g:Bool}(hs:MP n ops o=some (d,e,b))(hv:jK L e=some (.bool g))(hb:g=b)(h:Yl P o L w fun v w'=>jH P n ops K l ((d,v)::L) w'):jH P n ops K (o::l) L w:=by
 obtain⟨j,h1,h2,h3,h4⟩:=MP.spec hs
 exact jH.y h1 h2 h3 h4 hv hb h
theorem sz{d e:Nat}{b g:Bool}(hs:MP n ops o=some (d,e,b))(hv:jK L e=some (.bool g))(hb:g=!b)(h:jH P n ops K l ((d,undef)::L) w):jH P n ops K (o::l) L w:=by
 obtain⟨j,h1,h2,h3,h4⟩:=MP.spec hs
 exact jH.z h1 h2 h3 h4 hv hb h
theorem sq{d e:Nat}{b:Bool}(hs:MP n ops o=some (d,e,b))(hv:jK L e=some undef)(h:jH P n ops K l ((d,undef)::L) w):jH P n ops K (o::l) L w:=by
 obtain⟨j,h1,h2,h3,h4⟩:=MP.spec hs
 exact jH.q h1 h2 h3 h4 hv h
end
section
variable {P:Program}{n:Nat}{ops:List Oper}{opa:Array Oper}{o:Oper}{L0 L:List (Nat×Value)}{w0 w:World}{Vs:List (Nat→Nat→Value→World→Prop)}{i:Nat}
theorem XL.dt{c:Value}(h:XL ops L0 w0 (yH Vs) i o L w)(j d:Nat)(h1:(OJ o).any (Nat.beq j)=true)(h2:(ops[j]?).bind (·.dst)=some d)(h3:Vs[j]? = some (bE c)):jK L d=some c:=by
 obtain⟨lo,hi,v,hv,_,_,_,hV⟩:=h.dep j d h1 h2
 unfold yH at hV
 rw[h3]at hV
 rw[hv,show v=c from hV]
theorem dR.nt{m:Nat}{c:Value}{lo hi:Nat→Nat}(h:dR ops m L0 w0 (yH Vs) lo hi L w)(j d:Nat)(h1:Nat.blt j m=true)(h2:(ops[j]?).bind (·.dst)=some d)(h3:Vs[j]? = some (bE c)):jK L d=some c:=by
 obtain⟨v,hv,hV⟩:=h.new j d h1 h2
 unfold yH at hV
 rw[h3]at hV
 rw[hv,show v=c from hV]
theorem kI{c:Value}:(∀lo hi:Nat,bE c lo hi c w)∧w=w:=⟨fun _ _=>rfl,rfl⟩
theorem os{R:Nat→Nat→Value→World→Prop}(hg:o.guard=none)(h:Yl P o L w fun v w'=>(∀lo hi,R lo hi v w')∧w'=w):kM P opa o L w fun v w'=>R w.heap.size w'.heap.size v w'∧Ex w w':=kM.op' hg (Yl.sameI h)
end
/-! ### marks: what a call writes into its results, and finds there again -/
end Go.X
