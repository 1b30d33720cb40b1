/- Shorter words for what the printed proofs say often. -/
import Derived.Test.YtoimdjojffkefaaGreatDoorE12
set_option linter.unusedVariables false
set_option linter.unusedSimpArgs false
namespace Go.X
open Go.RowKit
section
variable {P:Program}{n:Nat}{ops:Array Oper}{K:List (Nat×Value)→World→Prop}{o:Oper}{l:List Oper}{L:List (Nat×Value)}{w:World}
def eM(n:Nat)(o:Oper):Option Nat:=match o.guard,o.dst with
 | none,some d=>bif Nat.blt d n then some d else none
 | _,_=>none
theorem eM.spec{d:Nat}(h:eM n o=some d):o.guard=none∧o.dst=some d∧Nat.blt d n=true:=by
 unfold eM at h
 cases hg:o.guard with
 | some x=>rw[hg]at h;cases h
 | none=>
  cases hd:o.dst with
  | none=>rw[hg,hd]at h;cases h
  | some d'=>
   rw[hg,hd]at h
   simp only at h
   cases hb:Nat.blt d' n with
   | false=>rw[hb]at h;cases h
   | true=>rw[hb]at h;cases h;exact⟨rfl,rfl,hb⟩
theorem sd{d:Nat}(hs:eM n o=some d)(h:Yl P o L w fun v w'=>iF P n ops K l ((d,v)::L) w'):iF P n ops K (o::l) L w:=
 iF.d1 (eM.spec hs).1 (eM.spec hs).2.1 (eM.spec hs).2.2 h
def zM(n:Nat)(ops:Array Oper)(o:Oper):Option (Nat×Nat×Bool):=match o.guard,o.dst with
 | some (j,b),some d=>match (ops[j]?).bind (·.dst)with
  | some e=>bif Nat.blt d n then some (d,e,b)else none
  | none=>none
 | _,_=>none
theorem zM.spec{d e:Nat}{b:Bool}(h:zM n ops o=some (d,e,b)):∃j,o.guard=some (j,b)∧o.dst=some d∧Nat.blt d n=true∧(ops[j]?).bind (·.dst)=some e:=by
 unfold zM at h
 cases hg:o.guard with
 | none=>rw[hg]at h;cases h
 | some x=>
  obtain⟨j,b'⟩:=x
  cases hd:o.dst with
  | none=>rw[hg,hd]at h;cases h
  | some d'=>
   rw[hg,hd]at h
   simp only at h
   cases he:(ops[j]?).bind (·.dst)with
   | none=>rw[he]at h;cases h
   | some e'=>
    rw[he]at h
    simp only at h
    cases hb:Nat.blt d' n with
    | false=>rw[hb]at h;cases h
    | true=>rw[hb]at h;cases h;exact⟨j,rfl,rfl,hb,he⟩
theorem sy{d e:Nat}{b g:Bool}(hs:zM n ops o=some (d,e,b))(hv:vI L e=some (.bool g))(hb:g=b)(h:Yl P o L w fun v w'=>iF P n ops K l ((d,v)::L) w'):iF P n ops K (o::l) L w:=by
 obtain⟨j,h1,h2,h3,h4⟩:=zM.spec hs
 exact iF.y h1 h2 h3 h4 hv hb h
theorem sz{d e:Nat}{b g:Bool}(hs:zM n ops o=some (d,e,b))(hv:vI L e=some (.bool g))(hb:g=!b)(h:iF P n ops K l ((d,undef)::L) w):iF P n ops K (o::l) L w:=by
 obtain⟨j,h1,h2,h3,h4⟩:=zM.spec hs
 exact iF.z h1 h2 h3 h4 hv hb h
theorem sq{d e:Nat}{b:Bool}(hs:zM n ops o=some (d,e,b))(hv:vI L e=some undef)(h:iF P n ops K l ((d,undef)::L) w):iF P n ops K (o::l) L w:=by
 obtain⟨j,h1,h2,h3,h4⟩:=zM.spec hs
 exact iF.q h1 h2 h3 h4 hv h
end
section
variable {P:Program}{n:Nat}{ops:List Oper}{opa:Array Oper}{o:Oper}{L0 L:List (Nat×Value)}{w0 w:World}{Vs:List (Nat→Nat→Value→World→Prop)}{i:Nat}
theorem GJ.dt{c:Value}(h:GJ ops L0 w0 (SG Vs) i o L w)(j d:Nat)(h1:(QH o).any (Nat.beq j)=true)(h2:(ops[j]?).bind (·.dst)=some d)(h3:Vs[j]? = some (tG c)):vI L d=some c:=by
 obtain⟨lo,hi,v,hv,_,_,_,hV⟩:=h.dep j d h1 h2
 unfold SG at hV
 rw[h3]at hV
 rw[hv,show v=c from hV]
theorem HN.nt{m:Nat}{c:Value}{lo hi:Nat→Nat}(h:HN ops m L0 w0 (SG Vs) lo hi L w)(j d:Nat)(h1:Nat.blt j m=true)(h2:(ops[j]?).bind (·.dst)=some d)(h3:Vs[j]? = some (tG c)):vI L d=some c:=by
 obtain⟨v,hv,hV⟩:=h.new j d h1 h2
 unfold SG at hV
 rw[h3]at hV
 rw[hv,show v=c from hV]
theorem kI{c:Value}:(∀lo hi:Nat,tG c lo hi c w)∧w=w:=⟨fun _ _=>rfl,rfl⟩
theorem os{R:Nat→Nat→Value→World→Prop}(hg:o.guard=none)(h:Yl P o L w fun v w'=>(∀lo hi,R lo hi v w')∧w'=w):fK P opa o L w fun v w'=>R w.heap.size w'.heap.size v w'∧Ex w w':=fK.op' hg (Yl.sameI h)
end
/-! ### marks: what a call writes into its results, and finds there again -/
def eO{α:Type}(mk:α→Int→Int×α):List α→Int→Int×List α
 | [],k=>(k,[])
 | x::xs,k=>((eO mk xs (mk x k).1).1,(mk x k).2::(eO mk xs (mk x k).1).2)
theorem NJ{α:Type}(mk:α→Int→Int×α):∀(xs:List α) (k:Int),(eO mk xs k).2.length=xs.length
 | [],_=>rfl
 | x::xs,k=>by simp only[eO,List.length_cons,NJ mk xs]
theorem ZQ{α:Type}(d x:α)(pre post:List α):(pre++x::post).getD pre.length d=x:=by
 rw[List.getD_eq_getElem?_getD,List.getElem?_append_right (Nat.le_refl _),Nat.sub_self];rfl
theorem MV{α:Type}(x y:α)(pre post:List α):(pre++x::post).set pre.length y=pre++y::post:=by
 rw[List.set_append_right _ _ (Nat.le_refl _),Nat.sub_self];rfl
theorem mP{α ρ:Type}{d:α}{mk:α→Int→Int×α}{body:Nat→Int×List α→nH ρ (Int×List α)}(hb:∀i k xs,i<xs.length→body i (k,xs)=.cont ((mk (xs.getD i d) k).1,xs.set i (mk (xs.getD i d) k).2)):∀(post pre:List α) (k:Int),BA body post.length pre.length (k,pre++post)=.done ((eO mk post k).1,pre++(eO mk post k).2)
 | [],pre,k=>rfl
 | x::post,pre,k=>by
  have h:=hb pre.length k (pre++x::post) (by rw[List.length_append,List.length_cons];omega)
  rw[ZQ,MV]at h
  have ih:=mP hb post (pre++[(mk x k).2]) (mk x k).1
  rw[List.length_append,List.length_singleton,List.append_assoc,List.append_assoc]at ih
  simp only[List.length_cons,BA,h,eO]
  exact ih
theorem JU{α ρ T:Type}{d:α}{mk:α→Int→Int×α}{body:Nat→Int×List α→nH ρ (Int×List α)}{fr:ρ→T}{fd:Int×List α→T}(hb:∀i k xs,i<xs.length→body i (k,xs)=.cont ((mk (xs.getD i d) k).1,xs.set i (mk (xs.getD i d) k).2))(xs:List α)(k:Int):OC (BA body (xs.length-0) 0 (k,xs)) fr fd=fd (eO mk xs k):=by
 have h:=mP hb xs [] k
 rw[List.nil_append,List.nil_append]at h
 rw[Nat.sub_zero,show(0:Nat)=([]:List α).length from rfl,h];rfl
def PM{α:Type}(c:α→Nat):List α→Nat
 | []=>0
 | x::xs=>c x+PM c xs
theorem yN{α:Type}{mk:α→Int→Int×α}{c:α→Nat}(hm:∀x (k:Int),0≤k→k+(c x:Int)≤4611686018427387904→(mk x k).1=k+(c x:Int)):∀(xs:List α) (k:Int),0≤k→k+(PM c xs:Int)≤4611686018427387904→(eO mk xs k).1=k+(PM c xs:Int)
 | [],k,_,_=>by simp[eO,PM]
 | x::xs,k,h0,h1=>by
  unfold PM at h1 ⊢
  have h2:=hm x k h0 (by omega)
  have h3:=yN hm xs (k+c x) (by omega) (by omega)
  unfold eO
  simp only[h2,h3];omega
theorem gP{α ρ:Type}{mk:α→Int→Int×α}{c:α→Nat}{d:α}(all:List α){body:Nat→Int→nH ρ Int}(hm:∀x (k:Int),0≤k→k+(c x:Int)≤4611686018427387904→(mk x k).1=k+(c x:Int))(hb:∀i (k:Int) x,all.getD i d=(mk x k).2→0≤k→k+(c x:Int)≤4611686018427387904→body i k=.cont (mk x k).1):∀(post:List α) (pre:List α) (k:Int),all=pre++(eO mk post k).2→0≤k→k+(PM c post:Int)≤4611686018427387904→BA body post.length pre.length k=.done (eO mk post k).1
 | [],pre,k,_,_,_=>rfl
 | x::post,pre,k,ha,h0,h1=>by
  unfold PM at h1
  have h2:=hm x k h0 (by omega)
  have h3:=hb pre.length k x (by rw[ha];unfold eO;exact ZQ _ _ _ _) h0 (by omega)
  have ih:=gP all hm hb post (pre++[(mk x k).2]) (mk x k).1 (by rw[ha];show pre++((mk x k).2::(eO mk post (mk x k).1).2)=_;simp) (by omega) (by omega)
  rw[List.length_append,List.length_singleton]at ih
  simp only[List.length_cons,BA,h3,eO]
  exact ih
theorem AU{α ρ T:Type}{mk:α→Int→Int×α}{c:α→Nat}{d:α}{body:Nat→Int→nH ρ Int}{fr:ρ→T}{fd:Int→T}(xs:List α)(k:Int)(hm:∀x (k:Int),0≤k→k+(c x:Int)≤4611686018427387904→(mk x k).1=k+(c x:Int))(hb:∀i (k':Int) x,(eO mk xs k).2.getD i d=(mk x k').2→0≤k'→k'+(c x:Int)≤4611686018427387904→body i k'=.cont (mk x k').1)(h0:0≤k)(h1:k+(PM c xs:Int)≤4611686018427387904):OC (BA body ((eO mk xs k).2.length-0) 0 k) fr fd=fd (eO mk xs k).1:=by
 have h:=gP (eO mk xs k).2 hm hb xs [] k rfl h0 h1
 rw[Nat.sub_zero,NJ,show(0:Nat)=([]:List α).length from rfl,h];rfl
theorem zK{α:Type}(n:Nat):∀xs:List α,PM (fun _=>n) xs=n*xs.length
 | []=>rfl
 | x::xs=>by unfold PM;rw[zK n xs,List.length_cons,Nat.mul_succ];omega
theorem wF{α:Type}{d:α}{xs:List α}{i:Nat}{v:α}(h:i<xs.length):(xs.set i v).getD i d=v:=by
 rw[List.getD_eq_getElem?_getD,List.getElem?_set];simp[h]
theorem uX{n c:Int}(hc:1<c)(h:0<n)(h2:n≤9223372036854775807):0≤IntKind.wrap .i64 (Int.tdiv n c)∧c*IntKind.wrap .i64 (Int.tdiv n c)≤n∧IntKind.wrap .i64 (Int.tdiv n c)<n:=by
 have h1:Int.tdiv n c=n / c:=Int.tdiv_eq_ediv_of_nonneg (by omega)
 have h3:0≤n / c:=Int.ediv_nonneg (by omega) (by omega)
 have h4:n / c<n:=Int.ediv_lt_self_of_pos_of_ne_one h (by omega)
 have h5:c*(n / c)≤n:=Int.mul_ediv_self_le (by omega)
 rw[h1,EF (by omega)]
 exact⟨h3,h5,h4⟩
theorem AN(n:Int):IntKind.wrap .i64 n≤9223372036854775807:=by rw[IntKind.wrap_i64];omega
theorem FV:(-1:Int)≤9223372036854775807:=by decide
end Go.X
