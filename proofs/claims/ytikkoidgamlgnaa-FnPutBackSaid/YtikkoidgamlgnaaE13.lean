/- Shorter words for what the printed proofs say often. -/
import Derived.Test.YtikkoidgamlgnaaE12
set_option linter.unusedVariables false
set_option linter.unusedSimpArgs false
namespace Go.X
open Go.RowKit
section
variable {P:Program}{n:Nat}{ops:Array Oper}{K:List (Nat×Value)→World→Prop}{o:Oper}{l:List Oper}{L:List (Nat×Value)}{w:World}
def bH(n:Nat)(o:Oper):Option Nat:=match o.guard,o.dst with
 | none,some d=>bif Nat.blt d n then some d else none
 | _,_=>none
theorem bH.spec{d:Nat}(h:bH n o=some d):o.guard=none∧o.dst=some d∧Nat.blt d n=true:=by
 unfold bH at h
 cases hg:o.guard with
 | some x=>rw[hg]at h;cases h
 | none=>
  cases hd:o.dst with
  | none=>rw[hg,hd]at h;cases h
  | some d'=>
   rw[hg,hd]at h
   simp only at h
   cases hb:Nat.blt d' n with
   | false=>rw[hb]at h;cases h
   | true=>rw[hb]at h;cases h;exact⟨rfl,rfl,hb⟩
theorem sd{d:Nat}(hs:bH n o=some d)(h:Yl P o L w fun v w'=>RC P n ops K l ((d,v)::L) w'):RC P n ops K (o::l) L w:=
 RC.d1 (bH.spec hs).1 (bH.spec hs).2.1 (bH.spec hs).2.2 h
def qH(n:Nat)(ops:Array Oper)(o:Oper):Option (Nat×Nat×Bool):=match o.guard,o.dst with
 | some (j,b),some d=>match (ops[j]?).bind (·.dst)with
  | some e=>bif Nat.blt d n then some (d,e,b)else none
  | none=>none
 | _,_=>none
theorem qH.spec{d e:Nat}{b:Bool}(h:qH n ops o=some (d,e,b)):∃j,o.guard=some (j,b)∧o.dst=some d∧Nat.blt d n=true∧(ops[j]?).bind (·.dst)=some e:=by
 unfold qH at h
 cases hg:o.guard with
 | none=>rw[hg]at h;cases h
 | some x=>
  obtain⟨j,b'⟩:=x
  cases hd:o.dst with
  | none=>rw[hg,hd]at h;cases h
  | some d'=>
   rw[hg,hd]at h
   simp only at h
   cases he:(ops[j]?).bind (·.dst)with
   | none=>rw[he]at h;cases h
   | some e'=>
    rw[he]at h
    simp only at h
    cases hb:Nat.blt d' n with
    | false=>rw[hb]at h;cases h
    | true=>rw[hb]at h;cases h;exact⟨j,rfl,rfl,hb,he⟩
theorem sy{d e:Nat}{b g:Bool}(hs:qH n ops o=some (d,e,b))(hv:iF L e=some (.bool g))(hb:g=b)(h:Yl P o L w fun v w'=>RC P n ops K l ((d,v)::L) w'):RC P n ops K (o::l) L w:=by
 obtain⟨j,h1,h2,h3,h4⟩:=qH.spec hs
 exact RC.y h1 h2 h3 h4 hv hb h
theorem sz{d e:Nat}{b g:Bool}(hs:qH n ops o=some (d,e,b))(hv:iF L e=some (.bool g))(hb:g=!b)(h:RC P n ops K l ((d,undef)::L) w):RC P n ops K (o::l) L w:=by
 obtain⟨j,h1,h2,h3,h4⟩:=qH.spec hs
 exact RC.z h1 h2 h3 h4 hv hb h
theorem sq{d e:Nat}{b:Bool}(hs:qH n ops o=some (d,e,b))(hv:iF L e=some undef)(h:RC P n ops K l ((d,undef)::L) w):RC P n ops K (o::l) L w:=by
 obtain⟨j,h1,h2,h3,h4⟩:=qH.spec hs
 exact RC.q h1 h2 h3 h4 hv h
end
section
variable {P:Program}{n:Nat}{ops:List Oper}{opa:Array Oper}{o:Oper}{L0 L:List (Nat×Value)}{w0 w:World}{Vs:List (Nat→Nat→Value→World→Prop)}{i:Nat}
theorem OF.dt{c:Value}(h:OF ops L0 w0 (zE Vs) i o L w)(j d:Nat)(h1:(sE o).any (Nat.beq j)=true)(h2:(ops[j]?).bind (·.dst)=some d)(h3:Vs[j]? = some (zG c)):iF L d=some c:=by
 obtain⟨lo,hi,v,hv,_,_,_,hV⟩:=h.dep j d h1 h2
 unfold zE at hV
 rw[h3]at hV
 rw[hv,show v=c from hV]
theorem aI.nt{m:Nat}{c:Value}{lo hi:Nat→Nat}(h:aI ops m L0 w0 (zE Vs) lo hi L w)(j d:Nat)(h1:Nat.blt j m=true)(h2:(ops[j]?).bind (·.dst)=some d)(h3:Vs[j]? = some (zG c)):iF L d=some c:=by
 obtain⟨v,hv,hV⟩:=h.new j d h1 h2
 unfold zE at hV
 rw[h3]at hV
 rw[hv,show v=c from hV]
theorem kI{c:Value}:(∀lo hi:Nat,zG c lo hi c w)∧w=w:=⟨fun _ _=>rfl,rfl⟩
theorem os{R:Nat→Nat→Value→World→Prop}(hg:o.guard=none)(h:Yl P o L w fun v w'=>(∀lo hi,R lo hi v w')∧w'=w):gG P opa o L w fun v w'=>R w.heap.size w'.heap.size v w'∧Ex w w':=gG.op' hg (Yl.sameI h)
end
/-! ### marks: what a call writes into its results, and finds there again -/
theorem OM{α β ρ T:Type}{body:Nat→List β→wF ρ (List β)}{fr:ρ→T}{fd:List β→T}{xs:List α}(d:α)(f:α→List β){x0:List β}(hb:∀k x,k<xs.length→body k x=.cont (x++f (xs.getD k d))) :
  KC (IA body (xs.length-0) 0 x0) fr fd=fd (x0++(xs.map f).flatten):=by
 refine TE (fun k s=>s=x0++((xs.take k).map f).flatten) (fun v=>v=fd (x0++(xs.map f).flatten)) (by simp) (fun s hs=>by rw[hs,List.take_of_length_le (by omega)]) ?_
 intro j s _ hj hs
 have hj':j<xs.length:=by omega
 rw[hb j s hj']
 show s++f _=_
 rw[hs,nD hj',List.take_succ_eq_append_getElem hj',List.map_append,List.flatten_append,List.append_assoc]
 simp
end Go.X
