/- A law's arguments, opened; its end. -/
import Derived.Test.YtdknedcbonflgaaDoorE7
import Derived.SizedLaws
import Derived.Below
import Derived.ChangeSame
import Derived.WideKeyArgs
import Derived.ProofKit
set_option linter.unusedVariables false
set_option linter.unusedSimpArgs false
namespace Go.X
open Go.RowKit Go.WideShapes Go.ChangeShapes
/-! ### What an argument is sure to be -/
def fL(n:Int):Prop:=-9223372036854775808≤n∧n≤9223372036854775807
def CK(s:nA):Prop:=s.length≤9223372036854775807
def NL{α:Type}(wf:α→Prop)(xs:List α):Prop:=xs.length≤281474976710656∧∀x∈xs,wf x
def aK{α:Type}(P:Program)(t:TypeId)(R:WE α)(wf:α→Prop):Prop:=
 ∀{H:Type}(enc:TypeId×Value→H) (w:World) (base:Nat) (spare:Nat→Bool) (held:Bool) (fuel:Nat) (cs:List Value) (x:DataW H×List MemPlace),
  DataW.trod enc P w base spare held fuel t cs=some x→(∀n∈x.1.weights P t,n≤reachBytes)→∃y,R w Any cs y∧wf y
section
variable {P:Program}{t:TypeId}
theorem ZH(ht:P.underlying t=some .string):aK P t (RF kC) CK:=by
 intro H enc w base spare held fuel cs x h _
 obtain⟨s,rfl,rfl,hs⟩:=DataW.trod_string ht h
 refine⟨s.data.toList,?_,?_⟩
 ·show[Value.string s]=[Value.string (bs s.data.toList)]
  unfold bs;rfl
 ·have:s.data.toList.length=s.size:=rfl
  unfold CK;rw[this];exact Nat.le_trans hs (by decide)
end
/-! ### The call's arguments -/
section
variable {P:Program}{H:Type}{enc:TypeId×Value→H}{w:World}{base:Nat}{spare:Nat→Bool}{held:Bool}{t:TypeId}{v:Value}{d:DataW H}{ps:List MemPlace}
theorem nK{α:Type}{R:WE α}{wf:α→Prop}(O:aK P t R wf)(h:DataW.Trod enc P w base spare held t v d ps)(hw:∀n∈d.weights P t,n≤reachBytes):∃y,R w Any v.cells.toList y∧wf y:=by
 obtain⟨n,hn⟩:=h
 exact O enc w base spare held n _ _ hn hw
theorem YH{v u:Value}(hv:v.cells.toList=[v])(h:v.cells.toList=[u]):v=u:=by
 rw[hv]at h;exact(List.cons.inj h).1
end
theorem kK{P:Program}{H:Type}{enc:TypeId×Value→H}{f:Func}{s:ChangeSpec}{apart fresh handsOn again:Bool}{W W':World}{args:Array Value}{ds gs:List (DataW H)}{before:List MemPlace}{tb:TypeId}
  (hl:laidOutB P=true) (hread:f.params.toList.all (fun t=>P.readableRec t&&decide (t<P.types.size))=true) (hv:s.vars=[]) (hres:f.resultTypes=#[tb]) (hb:P.underlying tb=some .bool)
  (hfn:gs=[]→s.fn H (ds++gs)={ results:=[.lit (.bool true)],args:=ds})
  (hW:DataW.Whole enc P f.params.toList s.vars apart W args.toList ds gs before) (he:Ex W W'):s.post enc P f apart fresh handsOn again W args (.bool true) W':=by
 have hlt:∀p∈before,p.block<W.heap.size:=fun p hp=>hW.lt p hp
 have hold:∀p∈before,(fun b=>decide (b<W.heap.size)) p.block=true:=fun p hp=>by simpa using hlt p hp
 have hW0:=hW
 obtain⟨pa,pv,hA,hV,hps,hz,hn⟩:=hW0
 rw[hv]at hV
 obtain⟨rfl,rfl⟩:=trodVars_none hV
 rw[List.append_nil]at hps
 obtain rfl:before=pa:=hps
 have hfn:=hfn rfl
 have stay:∀(sp:Nat→Bool) {ts:List TypeId}{vs:List Value}{es:List (DataW H)}{ps:List MemPlace},ts.all (fun t=>P.readableRec t&&decide (t<P.types.size))=true→DataW.TrodAll enc P W 0 (fun _=>true) true ts vs es ps→(∀p∈ps,p.block<W.heap.size)→(∀p∈ps,sp p.block=true)→DataW.TrodAll enc P W' 0 sp true ts vs es ps:=by
  intro sp ts
  induction ts with
  | nil=>
   intro vs es ps _ h _ _
   obtain⟨rfl,rfl,rfl⟩:=trodAll_nil h
   rfl
  | cons t ts ih=>
   intro vs es ps hr h hb hs
   obtain⟨v,vs',d,es',p,q,rfl,rfl,rfl,h1,h2⟩:=trodAll_cons h
   simp only[List.all_cons,Bool.and_eq_true,decide_eq_true_eq]at hr
   refine⟨p,q,Go.WideElems.Trod_stays hl hr.1.1 hr.1.2 h1 (fun x hx=>Below.same he (hb x (List.mem_append_left _ hx))) (fun x hx=>hs x (List.mem_append_left _ hx)),ih hr.2 h2 (fun x hx=>hb x (List.mem_append_right _ hx)) (fun x hx=>hs x (List.mem_append_right _ hx)),rfl⟩
 have hargs:∀sp:Nat→Bool,(∀p∈before,sp p.block=true)→DataW.TrodAll enc P W' 0 sp true f.params.toList args.toList ds before:=fun sp hs=>stay sp hread hA hlt hs
 have hres':∀(b:Nat) (sp:Nat→Bool) (hd:Bool),DataW.TrodAll enc P W' b sp hd f.resultTypes.toList ((Value.bool true).resultList f.resultTypes.size) [DataW.lit (.bool true)] []:=by
  intro b sp hd
  rw[hres]
  exact trodAll_mk1 (shut_bool hb true)
 refine⟨ds,[],before,[],before,[],hW,by rw[hfn];exact hres' _ _ _,by rw[hfn];exact hargs _ hold,by rw[hfn,hv];rfl,World.keptBut_mono (fun p hp=>⟨hp,?_⟩) (Below.frame he (·∈before)),fun _=>?_⟩
 ·exact Or.inr (by simpa using hp)
 ·have hA':DataW.TrodAll enc P W' 0 (fun _=>true) true f.params.toList args.toList (s.fn H (ds++[])).args before:=by rw[hfn];exact hargs _ (fun _ _=>rfl)
  have hR':DataW.TrodAll enc P W' 0 (fun _=>true) true f.resultTypes.toList ((Value.bool true).resultList f.resultTypes.size) (s.fn H (ds++[])).results []:=by rw[hfn];exact hres' _ _ _
  have hV':DataW.TrodVars enc P W' (fun _=>true) s.vars (s.fn H (ds++[])).vars []:=by rw[hfn,hv];rfl
  refine⟨ok_one hres rfl (okWide_bool_mk hb true),_,_,([]++before)++[],⟨[]++before,[],trodAll_append hA' hR',hV',rfl,?_,?_⟩,?_⟩
  ·intro b off hp
   have hin:MemPlace.cell b off∈before:=by simpa using hp
   rw[Below.frozen he (hlt _ hin)]
   exact hz b off hin
  ·intro ha
   simpa using hn ha
  ·intro p hp _
   simpa using hp
end Go.X
