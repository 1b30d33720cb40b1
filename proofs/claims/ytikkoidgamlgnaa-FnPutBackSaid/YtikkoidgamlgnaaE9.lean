/- Plain laws of loops; the bulk that a law lets pass; copies and comparisons of lists. -/
import Derived.Test.YtikkoidgamlgnaaE8
set_option linter.unusedVariables false
set_option linter.unusedSimpArgs false
namespace Go.X
open Go.RowKit
theorem UI{ρ σ:Type}{body:Nat→σ→wF ρ σ}(I:Nat→σ→Prop)(D:σ→Prop)(Q:ρ→Prop):∀(n k:Nat) (s:σ),I k s→(∀s,I (k+n) s→D s) →
  (∀j s,k≤j→j<k+n→I j s→match body j s with | .ret r=>Q r | .brk s'=>D s' | .cont s'=>I (j+1) s')→match IA body n k s with | .ret r=>Q r | .done s=>D s
 | 0,_,s,h0,hD,_=>hD s h0
 | n+1,k,s,h0,hD,hs=>by
  have h1:=hs k s (Nat.le_refl _) (by omega) h0
  unfold IA
  cases hb:body k s with
  | ret r=>rw[hb]at h1;exact h1
  | brk s'=>rw[hb]at h1;exact h1
  | cont s'=>
   rw[hb]at h1
   exact UI I D Q n (k+1) s' h1 (fun s h=>hD s (by rwa[Nat.add_right_comm]at h)) fun j s h2 h3=>hs j s (by omega) (by omega)
theorem TE{ρ σ:Type}{body:Nat→σ→wF ρ σ}{T:Type}{fr:ρ→T}{fd:σ→T}(I:Nat→σ→Prop)(V:T→Prop){n k:Nat}{s:σ}(h0:I k s)(hD:∀s,I (k+n) s→V (fd s))
  (hs:∀j s,k≤j→j<k+n→I j s→match body j s with | .ret r=>V (fr r) | .brk s'=>V (fd s') | .cont s'=>I (j+1) s'):V (KC (IA body n k s) fr fd):=by
 have h:=UI I (fun s=>V (fd s)) (fun r=>V (fr r)) n k s h0 hD hs
 cases hl:IA body n k s with
 | ret r=>rw[hl]at h;exact h
 | done s=>rw[hl]at h;exact h
theorem IF{n:Int}(h:-9223372036854775808≤n∧n≤9223372036854775807):IntKind.wrap .i64 n=n:=by rw[IntKind.wrap_i64];omega
theorem jG{α:Type}{xs:List α}{d:α}{i:Nat}(h:i<xs.length):xs.getD i d∈xs:=by
 simp only[List.getD,List.getElem?_eq_getElem h,Option.getD_some]
 exact List.getElem_mem h
theorem nD{α:Type}{xs:List α}{d:α}{i:Nat}(h:i<xs.length):xs.getD i d=xs[i]:=by
 simp only[List.getD,List.getElem?_eq_getElem h,Option.getD_some]
theorem AH{b x:Bool}(h:(bif b then x else false)=true):b=true∧x=true:=by cases b<;>simp_all
/-! ### Rounds that keep nothing -/
theorem VI{ρ T:Type}{body:Nat→Unit→wF ρ Unit}{fr:ρ→T}{fd:Unit→T}{n:Nat}(p:Nat→Bool){r:ρ}(hb:∀k,k<n→body k ()=bif p k then .cont ()else .ret r) :
  KC (IA body (n-0) 0 ()) fr fd=bif(List.range n).all p then fd ()else fr r:=by
 have key:∀m k,(∀j,k≤j→j<k+m→body j ()=bif p j then .cont ()else .ret r)→KC (IA body m k ()) fr fd=bif(List.range' k m).all p then fd ()else fr r:=by
  intro m
  induction m with
  | zero=>intro k _;rfl
  | succ m ih=>
   intro k h
   unfold IA
   rw[h k (Nat.le_refl _) (by omega),List.range'_succ,List.all_cons]
   cases hp:p k
   ·rfl
   ·exact ih (k+1) fun j h1 h2=>h j (by omega) (by omega)
 rw[Nat.sub_zero,key n 0 (fun j _ h=>hb j (by omega)),List.range_eq_range']
theorem RG{α:Type}(d:α)(q:α→Bool)(xs:List α):(List.range xs.length).all (fun k=>q (xs.getD k d))=xs.all q:=by
 rw[Bool.eq_iff_iff,List.all_eq_true,List.all_eq_true]
 constructor
 ·intro h x hx
  obtain⟨i,hi,rfl⟩:=List.getElem_of_mem hx
  have:=h i (List.mem_range.2 hi)
  rwa[nD hi]at this
 ·intro h k hk
  exact h _ (jG (List.mem_range.1 hk))
theorem MM{α ρ T:Type}{body:Nat→Unit→wF ρ Unit}{fr:ρ→T}{fd:Unit→T}{xs:List α}(d:α)(q:α→Bool){r:ρ}(hb:∀k,body k ()=bif q (xs.getD k d)then .cont ()else .ret r) :
  KC (IA body (xs.length-0) 0 ()) fr fd=bif xs.all q then fd ()else fr r:=by
 rw[VI (fun k=>q (xs.getD k d)) (r:=r) (fun k _=>hb k),RG]
theorem JN{α ρ T:Type}{body:Nat→Bool→wF ρ Bool}{fr:ρ→T}{fd:Bool→T}{xs:List α}(d:α)(q:α→Bool){x0:Bool}(hb:∀k x,body k x=.cont (x||q (xs.getD k d))) :
  KC (IA body (xs.length-0) 0 x0) fr fd=fd (x0||xs.any q):=by
 refine TE (fun k x=>x=(x0||(xs.take k).any q)) (fun v=>v=fd (x0||xs.any q)) (by simp) ?_ ?_
 ·intro s hs
  rw[hs,show 0+(xs.length-0)=xs.length by omega,List.take_length]
 ·intro j s _ hj hs
  have hj':j<xs.length:=by omega
  rw[hb]
  show(s||q (xs.getD j d))=(x0||(xs.take (j+1)).any q)
  rw[hs,nD hj',List.take_succ_eq_append_getElem hj',List.any_append,Bool.or_assoc]
  simp
theorem BN{α β ρ T:Type}{body:Nat→List β→wF ρ (List β)}{fr:ρ→T}{fd:List β→T}{xs:List α}(d:α)(q:α→β){x0:List β}(hb:∀k x,k<xs.length→body k x=.cont (x++[q (xs.getD k d)])) :
  KC (IA body (xs.length-0) 0 x0) fr fd=fd (x0++xs.map q):=by
 refine TE (fun k x=>x=x0++(xs.take k).map q) (fun v=>v=fd (x0++xs.map q)) (by simp) ?_ ?_
 ·intro s hs
  rw[hs,show 0+(xs.length-0)=xs.length by omega,List.take_length]
 ·intro j s _ hj hs
  have hj':j<xs.length:=by omega
  rw[hb j s hj']
  show s++[q (xs.getD j d)]=x0++(xs.take (j+1)).map q
  rw[hs,nD hj',List.take_succ_eq_append_getElem hj',List.map_append,List.append_assoc]
  rfl
def VM{α:Type}(f:α→Bool)(d:α)(xs:List α):Int:=KC (IA (ρ:=Int) (fun k (_:Unit)=>bif f (xs.getD k d)then .ret (k:Int)else .cont ()) (xs.length-0) 0 ()) (fun r=>r) (fun _=>-1)
theorem OK{α:Type}(f:α→Bool)(d:α)(xs:List α):(VM f d xs=-1∧∀x∈xs,f x=false)∨∃(k:Nat) (h:k<xs.length),VM f d xs=(k:Int)∧f xs[k]=true∧∀j (h:j<k),f (xs[j]'(by omega))=false:=by
 refine TE (fun k (_:Unit)=>∀j,j<k→(h:j<xs.length)→f xs[j]=false) (fun v=>(v=-1∧∀x∈xs,f x=false)∨∃(k:Nat) (h:k<xs.length),v=(k:Int)∧f xs[k]=true∧∀j (h:j<k),f (xs[j]'(by omega))=false) (fun j hj=>by omega) ?_ ?_
 ·intro s hs
  exact .inl ⟨rfl,fun x hx=>by
   obtain⟨i,hi,rfl⟩:=List.getElem_of_mem hx
   exact hs i (by omega) hi⟩
 ·intro j s _ hj hs
  have hj':j<xs.length:=by omega
  rw[nD hj']
  cases hf:f xs[j]
  ·intro i hi hl
   rcases Nat.lt_or_ge i j with h | h
   ·exact hs i h hl
   ·obtain rfl:i=j:=by omega
    exact hf
  ·exact .inr ⟨j,hj',rfl,hf,fun i hi=>hs i hi (by omega)⟩
theorem tL{α:Type}(f:α→Bool)(d:α)(xs:List α):decide (0≤VM f d xs)=xs.any f:=by
 rw[Bool.eq_iff_iff,decide_eq_true_iff,List.any_eq_true]
 rcases OK f d xs with⟨h,h2⟩ | ⟨k,hk,h,h2,_⟩
 ·rw[h]
  constructor
  ·intro h;omega
  ·rintro⟨x,hx,hf⟩;rw[h2 x hx]at hf;cases hf
 ·rw[h]
  exact⟨fun _=>⟨_,List.getElem_mem hk,h2⟩,fun _=>by omega⟩
/-! ### The bulk -/
/-! ### Copies -/
/-! ### Comparisons -/
/-! ### The order of strings -/
theorem rG:∀(x y:tB),Op.bytesLess x y=decide (x<y)
 | [],[]=>by simp[Op.bytesLess]
 | _::_,[]=>by simp[Op.bytesLess]
 | [],_::_=>by simp[Op.bytesLess]
 | a::x,b::y=>by
  rw[Op.bytesLess,rG x y]
  simp only[List.cons_lt_cons_iff]
  by_cases h1:a<b<;>by_cases h2:a=b<;>by_cases h3:x<y<;>simp[h1,h2,h3]
theorem nM(a b:tB):SG a b=true↔a<b:=by
 unfold SG;rw[rG,decide_eq_true_iff]
theorem pM(a b:tB):a<b∨a=b∨b<a:=by
 induction a generalizing b with
 | nil=>cases b with
  | nil=>exact .inr (.inl rfl)
  | cons y b=>exact .inl (List.nil_lt_cons y b)
 | cons x a ih=>cases b with
  | nil=>exact .inr (.inr (List.nil_lt_cons x a))
  | cons y b=>
   simp only[List.cons_lt_cons_iff]
   rcases Nat.lt_trichotomy x.toNat y.toNat with h | h | h
   ·exact .inl (.inl h)
   ·have:x=y:=UInt8.toNat.inj h
    subst this
    rcases ih b with h | h | h
    ·exact .inl (.inr ⟨rfl,h⟩)
    ·exact .inr (.inl (by rw[h]))
    ·exact .inr (.inr (.inr ⟨rfl,h⟩))
   ·exact .inr (.inr (.inl h))
theorem AK(a:tB):¬a<a:=List.lt_irrefl a
theorem ZK{a b c:tB}(h:a<b)(k:b<c):a<c:=List.lt_trans h k
theorem YK{a b:tB}(h:a<b):¬b<a:=fun k=>AK a (ZK h k)
theorem mM(a b:tB):XK a b=!(SG b a):=by
 unfold XK
 rw[Bool.eq_iff_iff]
 simp only[Bool.or_eq_true,beq_iff_eq,Bool.not_eq_true',←Bool.not_eq_true,nM]
 constructor
 ·rintro(h | h)
  ·exact YK h
  ·subst h;exact AK a
 ·intro h
  rcases pM a b with k | k | k
  ·exact .inl k
  ·exact .inr k
  ·exact absurd k h
end Go.X
