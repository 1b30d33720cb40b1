/- Shorter words for what the printed proofs say often. -/
import Derived.Test.YtikkoidgamlgnaaE12
set_option linter.unusedVariables false
set_option linter.unusedSimpArgs false
namespace Go.X
open Go.RowKit
section
variable {P:Program}{n:Nat}{ops:Array Oper}{K:List (Nat×Value)→World→Prop}{o:Oper}{l:List Oper}{L:List (Nat×Value)}{w:World}
def WI(n:Nat)(o:Oper):Option Nat:=match o.guard,o.dst with
 | none,some d=>bif Nat.blt d n then some d else none
 | _,_=>none
theorem WI.spec{d:Nat}(h:WI n o=some d):o.guard=none∧o.dst=some d∧Nat.blt d n=true:=by
 unfold WI at h
 cases hg:o.guard with
 | some x=>rw[hg]at h;cases h
 | none=>
  cases hd:o.dst with
  | none=>rw[hg,hd]at h;cases h
  | some d'=>
   rw[hg,hd]at h
   simp only at h
   cases hb:Nat.blt d' n with
   | false=>rw[hb]at h;cases h
   | true=>rw[hb]at h;cases h;exact⟨rfl,rfl,hb⟩
theorem sd{d:Nat}(hs:WI n o=some d)(h:Yl P o L w fun v w'=>SD P n ops K l ((d,v)::L) w'):SD P n ops K (o::l) L w:=
 SD.d1 (WI.spec hs).1 (WI.spec hs).2.1 (WI.spec hs).2.2 h
def lJ(n:Nat)(ops:Array Oper)(o:Oper):Option (Nat×Nat×Bool):=match o.guard,o.dst with
 | some (j,b),some d=>match (ops[j]?).bind (·.dst)with
  | some e=>bif Nat.blt d n then some (d,e,b)else none
  | none=>none
 | _,_=>none
theorem lJ.spec{d e:Nat}{b:Bool}(h:lJ n ops o=some (d,e,b)):∃j,o.guard=some (j,b)∧o.dst=some d∧Nat.blt d n=true∧(ops[j]?).bind (·.dst)=some e:=by
 unfold lJ at h
 cases hg:o.guard with
 | none=>rw[hg]at h;cases h
 | some x=>
  obtain⟨j,b'⟩:=x
  cases hd:o.dst with
  | none=>rw[hg,hd]at h;cases h
  | some d'=>
   rw[hg,hd]at h
   simp only at h
   cases he:(ops[j]?).bind (·.dst)with
   | none=>rw[he]at h;cases h
   | some e'=>
    rw[he]at h
    simp only at h
    cases hb:Nat.blt d' n with
    | false=>rw[hb]at h;cases h
    | true=>rw[hb]at h;cases h;exact⟨j,rfl,rfl,hb,he⟩
theorem sy{d e:Nat}{b g:Bool}(hs:lJ n ops o=some (d,e,b))(hv:BG L e=some (.bool g))(hb:g=b)(h:Yl P o L w fun v w'=>SD P n ops K l ((d,v)::L) w'):SD P n ops K (o::l) L w:=by
 obtain⟨j,h1,h2,h3,h4⟩:=lJ.spec hs
 exact SD.y h1 h2 h3 h4 hv hb h
theorem sz{d e:Nat}{b g:Bool}(hs:lJ n ops o=some (d,e,b))(hv:BG L e=some (.bool g))(hb:g=!b)(h:SD P n ops K l ((d,undef)::L) w):SD P n ops K (o::l) L w:=by
 obtain⟨j,h1,h2,h3,h4⟩:=lJ.spec hs
 exact SD.z h1 h2 h3 h4 hv hb h
theorem sq{d e:Nat}{b:Bool}(hs:lJ n ops o=some (d,e,b))(hv:BG L e=some undef)(h:SD P n ops K l ((d,undef)::L) w):SD P n ops K (o::l) L w:=by
 obtain⟨j,h1,h2,h3,h4⟩:=lJ.spec hs
 exact SD.q h1 h2 h3 h4 hv h
end
section
variable {P:Program}{n:Nat}{ops:List Oper}{opa:Array Oper}{o:Oper}{L0 L:List (Nat×Value)}{w0 w:World}{Vs:List (Nat→Nat→Value→World→Prop)}{i:Nat}
theorem oH.dt{c:Value}(h:oH ops L0 w0 (wF Vs) i o L w)(j d:Nat)(h1:(LF o).any (Nat.beq j)=true)(h2:(ops[j]?).bind (·.dst)=some d)(h3:Vs[j]? = some (MD c)):BG L d=some c:=by
 obtain⟨lo,hi,v,hv,_,_,_,hV⟩:=h.dep j d h1 h2
 unfold wF at hV
 rw[h3]at hV
 rw[hv,show v=c from hV]
theorem bK.nt{m:Nat}{c:Value}{lo hi:Nat→Nat}(h:bK ops m L0 w0 (wF Vs) lo hi L w)(j d:Nat)(h1:Nat.blt j m=true)(h2:(ops[j]?).bind (·.dst)=some d)(h3:Vs[j]? = some (MD c)):BG L d=some c:=by
 obtain⟨v,hv,hV⟩:=h.new j d h1 h2
 unfold wF at hV
 rw[h3]at hV
 rw[hv,show v=c from hV]
theorem kI{c:Value}:(∀lo hi:Nat,MD c lo hi c w)∧w=w:=⟨fun _ _=>rfl,rfl⟩
theorem os{R:Nat→Nat→Value→World→Prop}(hg:o.guard=none)(h:Yl P o L w fun v w'=>(∀lo hi,R lo hi v w')∧w'=w):IH P opa o L w fun v w'=>R w.heap.size w'.heap.size v w'∧Ex w w':=IH.op' hg (Yl.sameI h)
end
/-! ### marks: what a call writes into its results, and finds there again -/
theorem LP{n c:Int}(hc:1<c)(h:0<n)(h2:n≤9223372036854775807):0≤IntKind.wrap .i64 (Int.tdiv n c)∧c*IntKind.wrap .i64 (Int.tdiv n c)≤n∧IntKind.wrap .i64 (Int.tdiv n c)<n:=by
 have h1:Int.tdiv n c=n / c:=Int.tdiv_eq_ediv_of_nonneg (by omega)
 have h3:0≤n / c:=Int.ediv_nonneg (by omega) (by omega)
 have h4:n / c<n:=Int.ediv_lt_self_of_pos_of_ne_one h (by omega)
 have h5:c*(n / c)≤n:=Int.mul_ediv_self_le (by omega)
 rw[h1,uC (by omega)]
 exact⟨h3,h5,h4⟩
theorem yP{α β ρ T:Type}{body:Nat→List β→zG ρ (List β)}{fr:ρ→T}{fd:List β→T}{xs:List α}(d:α)(f:α→List β){x0:List β}(hb:∀k x,k<xs.length→body k x=.cont (x++f (xs.getD k d))) :
  qD (kB body (xs.length-0) 0 x0) fr fd=fd (x0++(xs.map f).flatten):=by
 refine UF (fun k s=>s=x0++((xs.take k).map f).flatten) (fun v=>v=fd (x0++(xs.map f).flatten)) (by simp) (fun s hs=>by rw[hs,List.take_of_length_le (by omega)]) ?_
 intro j s _ hj hs
 have hj':j<xs.length:=by omega
 rw[hb j s hj']
 show s++f _=_
 rw[hs,YH hj',List.take_succ_eq_append_getElem hj',List.map_append,List.flatten_append,List.append_assoc]
 simp
end Go.X
