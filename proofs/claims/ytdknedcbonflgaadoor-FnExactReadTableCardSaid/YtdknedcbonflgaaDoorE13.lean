/- Shorter words for what the printed proofs say often. -/
import Derived.Test.YtdknedcbonflgaaDoorE12
set_option linter.unusedVariables false
set_option linter.unusedSimpArgs false
namespace Go.X
open Go.RowKit
section
variable {P:Program}{n:Nat}{ops:Array Oper}{K:List (Nat×Value)→World→Prop}{o:Oper}{l:List Oper}{L:List (Nat×Value)}{w:World}
def TF(n:Nat)(o:Oper):Option Nat:=match o.guard,o.dst with
 | none,some d=>bif Nat.blt d n then some d else none
 | _,_=>none
theorem TF.spec{d:Nat}(h:TF n o=some d):o.guard=none∧o.dst=some d∧Nat.blt d n=true:=by
 unfold TF at h
 cases hg:o.guard with
 | some x=>rw[hg]at h;cases h
 | none=>
  cases hd:o.dst with
  | none=>rw[hg,hd]at h;cases h
  | some d'=>
   rw[hg,hd]at h
   simp only at h
   cases hb:Nat.blt d' n with
   | false=>rw[hb]at h;cases h
   | true=>rw[hb]at h;cases h;exact⟨rfl,rfl,hb⟩
theorem sd{d:Nat}(hs:TF n o=some d)(h:Yl P o L w fun v w'=>vC P n ops K l ((d,v)::L) w'):vC P n ops K (o::l) L w:=
 vC.d1 (TF.spec hs).1 (TF.spec hs).2.1 (TF.spec hs).2.2 h
def YG(n:Nat)(ops:Array Oper)(o:Oper):Option (Nat×Nat×Bool):=match o.guard,o.dst with
 | some (j,b),some d=>match (ops[j]?).bind (·.dst)with
  | some e=>bif Nat.blt d n then some (d,e,b)else none
  | none=>none
 | _,_=>none
theorem YG.spec{d e:Nat}{b:Bool}(h:YG n ops o=some (d,e,b)):∃j,o.guard=some (j,b)∧o.dst=some d∧Nat.blt d n=true∧(ops[j]?).bind (·.dst)=some e:=by
 unfold YG at h
 cases hg:o.guard with
 | none=>rw[hg]at h;cases h
 | some x=>
  obtain⟨j,b'⟩:=x
  cases hd:o.dst with
  | none=>rw[hg,hd]at h;cases h
  | some d'=>
   rw[hg,hd]at h
   simp only at h
   cases he:(ops[j]?).bind (·.dst)with
   | none=>rw[he]at h;cases h
   | some e'=>
    rw[he]at h
    simp only at h
    cases hb:Nat.blt d' n with
    | false=>rw[hb]at h;cases h
    | true=>rw[hb]at h;cases h;exact⟨j,rfl,rfl,hb,he⟩
theorem sy{d e:Nat}{b g:Bool}(hs:YG n ops o=some (d,e,b))(hv:MD L e=some (.bool g))(hb:g=b)(h:Yl P o L w fun v w'=>vC P n ops K l ((d,v)::L) w'):vC P n ops K (o::l) L w:=by
 obtain⟨j,h1,h2,h3,h4⟩:=YG.spec hs
 exact vC.y h1 h2 h3 h4 hv hb h
theorem sz{d e:Nat}{b g:Bool}(hs:YG n ops o=some (d,e,b))(hv:MD L e=some (.bool g))(hb:g=!b)(h:vC P n ops K l ((d,undef)::L) w):vC P n ops K (o::l) L w:=by
 obtain⟨j,h1,h2,h3,h4⟩:=YG.spec hs
 exact vC.z h1 h2 h3 h4 hv hb h
end
section
variable {P:Program}{n:Nat}{ops:List Oper}{opa:Array Oper}{o:Oper}{L0 L:List (Nat×Value)}{w0 w:World}{Vs:List (Nat→Nat→Value→World→Prop)}{i:Nat}
theorem lE.dt{c:Value}(h:lE ops L0 w0 (WC Vs) i o L w)(j d:Nat)(h1:(oD o).any (Nat.beq j)=true)(h2:(ops[j]?).bind (·.dst)=some d)(h3:Vs[j]? = some (MB c)):MD L d=some c:=by
 obtain⟨lo,hi,v,hv,_,_,_,hV⟩:=h.dep j d h1 h2
 unfold WC at hV
 rw[h3]at hV
 rw[hv,show v=c from hV]
theorem PG.nt{m:Nat}{c:Value}{lo hi:Nat→Nat}(h:PG ops m L0 w0 (WC Vs) lo hi L w)(j d:Nat)(h1:Nat.blt j m=true)(h2:(ops[j]?).bind (·.dst)=some d)(h3:Vs[j]? = some (MB c)):MD L d=some c:=by
 obtain⟨v,hv,hV⟩:=h.new j d h1 h2
 unfold WC at hV
 rw[h3]at hV
 rw[hv,show v=c from hV]
theorem kI{c:Value}:(∀lo hi:Nat,MB c lo hi c w)∧w=w:=⟨fun _ _=>rfl,rfl⟩
theorem os{R:Nat→Nat→Value→World→Prop}(hg:o.guard=none)(h:Yl P o L w fun v w'=>(∀lo hi,R lo hi v w')∧w'=w):EE P opa o L w fun v w'=>R w.heap.size w'.heap.size v w'∧Ex w w':=EE.op' hg (Yl.sameI h)
end
/-! ### marks: what a call writes into its results, and finds there again -/
def fH{α:Type}(mk:α→Int→Int×α):List α→Int→Int×List α
 | [],k=>(k,[])
 | x::xs,k=>((fH mk xs (mk x k).1).1,(mk x k).2::(fH mk xs (mk x k).1).2)
theorem TE{α:Type}(mk:α→Int→Int×α):∀(xs:List α) (k:Int),(fH mk xs k).2.length=xs.length
 | [],_=>rfl
 | x::xs,k=>by simp only[fH,List.length_cons,TE mk xs]
theorem CI{α:Type}(d x:α)(pre post:List α):(pre++x::post).getD pre.length d=x:=by
 rw[List.getD_eq_getElem?_getD,List.getElem?_append_right (Nat.le_refl _),Nat.sub_self];rfl
theorem SK{α:Type}(x y:α)(pre post:List α):(pre++x::post).set pre.length y=pre++y::post:=by
 rw[List.set_append_right _ _ (Nat.le_refl _),Nat.sub_self];rfl
theorem JH{α ρ:Type}{d:α}{mk:α→Int→Int×α}{body:Nat→Int×List α→yE ρ (Int×List α)}(hb:∀i k xs,i<xs.length→body i (k,xs)=.cont ((mk (xs.getD i d) k).1,xs.set i (mk (xs.getD i d) k).2)):∀(post pre:List α) (k:Int),FA body post.length pre.length (k,pre++post)=.done ((fH mk post k).1,pre++(fH mk post k).2)
 | [],pre,k=>rfl
 | x::post,pre,k=>by
  have h:=hb pre.length k (pre++x::post) (by rw[List.length_append,List.length_cons];omega)
  rw[CI,SK]at h
  have ih:=JH hb post (pre++[(mk x k).2]) (mk x k).1
  rw[List.length_append,List.length_singleton,List.append_assoc,List.append_assoc]at ih
  simp only[List.length_cons,FA,h,fH]
  exact ih
theorem bL{α ρ T:Type}{d:α}{mk:α→Int→Int×α}{body:Nat→Int×List α→yE ρ (Int×List α)}{fr:ρ→T}{fd:Int×List α→T}(hb:∀i k xs,i<xs.length→body i (k,xs)=.cont ((mk (xs.getD i d) k).1,xs.set i (mk (xs.getD i d) k).2))(xs:List α)(k:Int):KC (FA body (xs.length-0) 0 (k,xs)) fr fd=fd (fH mk xs k):=by
 have h:=JH hb xs [] k
 rw[List.nil_append,List.nil_append]at h
 rw[Nat.sub_zero,show(0:Nat)=([]:List α).length from rfl,h];rfl
def LG{α:Type}(c:α→Nat):List α→Nat
 | []=>0
 | x::xs=>c x+LG c xs
theorem WH{α:Type}{mk:α→Int→Int×α}{c:α→Nat}(hm:∀x (k:Int),0≤k→k+(c x:Int)≤4611686018427387904→(mk x k).1=k+(c x:Int)):∀(xs:List α) (k:Int),0≤k→k+(LG c xs:Int)≤4611686018427387904→(fH mk xs k).1=k+(LG c xs:Int)
 | [],k,_,_=>by simp[fH,LG]
 | x::xs,k,h0,h1=>by
  unfold LG at h1 ⊢
  have h2:=hm x k h0 (by omega)
  have h3:=WH hm xs (k+c x) (by omega) (by omega)
  unfold fH
  simp only[h2,h3];omega
theorem FH{α ρ:Type}{mk:α→Int→Int×α}{c:α→Nat}{d:α}(all:List α){body:Nat→Int→yE ρ Int}(hm:∀x (k:Int),0≤k→k+(c x:Int)≤4611686018427387904→(mk x k).1=k+(c x:Int))(hb:∀i (k:Int) x,all.getD i d=(mk x k).2→0≤k→k+(c x:Int)≤4611686018427387904→body i k=.cont (mk x k).1):∀(post:List α) (pre:List α) (k:Int),all=pre++(fH mk post k).2→0≤k→k+(LG c post:Int)≤4611686018427387904→FA body post.length pre.length k=.done (fH mk post k).1
 | [],pre,k,_,_,_=>rfl
 | x::post,pre,k,ha,h0,h1=>by
  unfold LG at h1
  have h2:=hm x k h0 (by omega)
  have h3:=hb pre.length k x (by rw[ha];unfold fH;exact CI _ _ _ _) h0 (by omega)
  have ih:=FH all hm hb post (pre++[(mk x k).2]) (mk x k).1 (by rw[ha];show pre++((mk x k).2::(fH mk post (mk x k).1).2)=_;simp) (by omega) (by omega)
  rw[List.length_append,List.length_singleton]at ih
  simp only[List.length_cons,FA,h3,fH]
  exact ih
theorem aL{α ρ T:Type}{mk:α→Int→Int×α}{c:α→Nat}{d:α}{body:Nat→Int→yE ρ Int}{fr:ρ→T}{fd:Int→T}(xs:List α)(k:Int)(hm:∀x (k:Int),0≤k→k+(c x:Int)≤4611686018427387904→(mk x k).1=k+(c x:Int))(hb:∀i (k':Int) x,(fH mk xs k).2.getD i d=(mk x k').2→0≤k'→k'+(c x:Int)≤4611686018427387904→body i k'=.cont (mk x k').1)(h0:0≤k)(h1:k+(LG c xs:Int)≤4611686018427387904):KC (FA body ((fH mk xs k).2.length-0) 0 k) fr fd=fd (fH mk xs k).1:=by
 have h:=FH (fH mk xs k).2 hm hb xs [] k rfl h0 h1
 rw[Nat.sub_zero,TE,show(0:Nat)=([]:List α).length from rfl,h];rfl
theorem LF{α:Type}(n:Nat):∀xs:List α,LG (fun _=>n) xs=n*xs.length
 | []=>rfl
 | x::xs=>by unfold LG;rw[LF n xs,List.length_cons,Nat.mul_succ];omega
theorem sD{α:Type}{d:α}{xs:List α}{i:Nat}{v:α}(h:i<xs.length):(xs.set i v).getD i d=v:=by
 rw[List.getD_eq_getElem?_getD,List.getElem?_set];simp[h]
theorem OL{n c:Int}(hc:1<c)(h:0<n)(h2:n≤9223372036854775807):0≤IntKind.wrap .i64 (Int.tdiv n c)∧c*IntKind.wrap .i64 (Int.tdiv n c)≤n∧IntKind.wrap .i64 (Int.tdiv n c)<n:=by
 have h1:Int.tdiv n c=n / c:=Int.tdiv_eq_ediv_of_nonneg (by omega)
 have h3:0≤n / c:=Int.ediv_nonneg (by omega) (by omega)
 have h4:n / c<n:=Int.ediv_lt_self_of_pos_of_ne_one h (by omega)
 have h5:c*(n / c)≤n:=Int.mul_ediv_self_le (by omega)
 rw[h1,UE (by omega)]
 exact⟨h3,h5,h4⟩
theorem NG(n:Int):IntKind.wrap .i64 n≤9223372036854775807:=by rw[IntKind.wrap_i64];omega
theorem XH:(-1:Int)≤9223372036854775807:=by decide
theorem GL{α β ρ T:Type}{body:Nat→List β→yE ρ (List β)}{fr:ρ→T}{fd:List β→T}{xs:List α}(d:α)(f:α→List β){x0:List β}(hb:∀k x,k<xs.length→body k x=.cont (x++f (xs.getD k d))) :
  KC (FA body (xs.length-0) 0 x0) fr fd=fd (x0++(xs.map f).flatten):=by
 refine CC (fun k s=>s=x0++((xs.take k).map f).flatten) (fun v=>v=fd (x0++(xs.map f).flatten)) (by simp) (fun s hs=>by rw[hs,List.take_of_length_le (by omega)]) ?_
 intro j s _ hj hs
 have hj':j<xs.length:=by omega
 rw[hb j s hj']
 show s++f _=_
 rw[hs,VC hj',List.take_succ_eq_append_getElem hj',List.map_append,List.flatten_append,List.append_assoc]
 simp
end Go.X
