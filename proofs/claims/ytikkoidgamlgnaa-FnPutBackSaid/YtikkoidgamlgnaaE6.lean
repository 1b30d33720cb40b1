/- Loops in plain terms; the words that the printed proofs use. -/
import Derived.Test.YtikkoidgamlgnaaE5
set_option linter.unusedVariables false
set_option linter.unusedSimpArgs false
namespace Go.X
open Go.RowKit
inductive wF (ρ σ:Type) where
 | ret (r:ρ)
 | brk (s:σ)
 | cont (s:σ)
inductive End (ρ σ:Type) where
 | ret (r:ρ)
 | done (s:σ)
def IA{ρ σ:Type}(body:Nat→σ→wF ρ σ):Nat→Nat→σ→End ρ σ
 | 0,_,s=>.done s
 | f+1,k,s=>match body k s with
  | .ret r=>.ret r
  | .brk s=>.done s
  | .cont s=>IA body f (k+1) s
def KC{ρ σ T:Type}(e:End ρ σ)(fr:ρ→T)(fd:σ→T):T:=match e with | .ret r=>fr r | .done s=>fd s
theorem UA{ρ σ T:Type}(s:σ)(fr:ρ→T)(fd:σ→T):KC (.done s) fr fd=fd s:=rfl
theorem eB{ρ σ T:Type}(r:ρ)(fr:ρ→T)(fd:σ→T):KC (.ret r) fr fd=fr r:=rfl
section
variable {ρ σ:Type}{body:Nat→σ→wF ρ σ}{n k:Nat}{s s':σ}{r:ρ}
theorem IA.stop(h:n≤k):IA body (n-k) k s=.done s:=by
 rw[Nat.sub_eq_zero_of_le h];rfl
theorem IA.cont(h:k<n)(hb:body k s=.cont s'):IA body (n-k) k s=IA body (n-(k+1)) (k+1) s':=by
 obtain⟨f,hf⟩:∃f,n-k=f+1:=⟨n-k-1,by omega⟩
 have hf':n-(k+1)=f:=by omega
 rw[hf,hf']
 simp only[IA,hb]
theorem IA.ret(h:k<n)(hb:body k s=.ret r):IA body (n-k) k s=.ret r:=by
 obtain⟨f,hf⟩:∃f,n-k=f+1:=⟨n-k-1,by omega⟩
 rw[hf]
 simp only[IA,hb]
theorem IA.brk(h:k<n)(hb:body k s=.brk s'):IA body (n-k) k s=.done s':=by
 obtain⟨f,hf⟩:∃f,n-k=f+1:=⟨n-k-1,by omega⟩
 rw[hf]
 simp only[IA,hb]
end
theorem dC{p:Prop}(b:Bool)(ht:b=true→p)(hf:b=false→p):p:=by
 cases b
 ·exact hf rfl
 ·exact ht rfl
theorem OA{b:Bool}(h:b=true):(!b)=false:=by rw[h];rfl
theorem AB{b:Bool}(h:b=false):(!b)=true:=by rw[h];rfl
theorem oN{p:Prop}[Decidable p](h:decide p=true):p:=of_decide_eq_true h
theorem EM{p:Prop}[Decidable p](h:decide p=false):¬p:=of_decide_eq_false h
section
variable {P:Program}{n:Nat}{ops:Array Oper}{K:List (Nat×Value)→World→Prop}{o:Oper}{l:List Oper}{L:List (Nat×Value)}{w:World}{Q:Exit→List (Nat×Value)→World→Prop}{nx:List (Nat×Value)→World→Prop}
theorem RC.done(h:K L w):RC P n ops K [] L w:=h
theorem RC.d1{d:Nat}(hg:o.guard=none)(hd:o.dst=some d)(hn:Nat.blt d n=true)(h:Yl P o L w fun v w'=>RC P n ops K l ((d,v)::L) w'):RC P n ops K (o::l) L w:=
 RC.op hg (by unfold fF;rw[hd];exact hn) (by rw[hd];exact h)
theorem RC.u(hg:o.guard=none)(hd:o.dst=none)(h:Yl P o L w fun _ w'=>RC P n ops K l L w'):RC P n ops K (o::l) L w:=
 RC.op hg (by unfold fF;rw[hd]) (by rw[hd];exact h)
theorem RC.y{d j e:Nat}{b g:Bool}(hg:o.guard=some (j,b))(hd:o.dst=some d)(hn:Nat.blt d n=true)(hj:(ops[j]?).bind (·.dst)=some e)(hv:iF L e=some (.bool g))(hb:g=b)(h:Yl P o L w fun v w'=>RC P n ops K l ((d,v)::L) w'):RC P n ops K (o::l) L w:=
 RC.want hg (by unfold fF;rw[hd];exact hn) hj hv hb (by rw[hd];exact h)
theorem RC.z{d j e:Nat}{b g:Bool}(hg:o.guard=some (j,b))(hd:o.dst=some d)(hn:Nat.blt d n=true)(hj:(ops[j]?).bind (·.dst)=some e)(hv:iF L e=some (.bool g))(hb:g=!b)(h:RC P n ops K l ((d,undef)::L) w):RC P n ops K (o::l) L w:=
 RC.skip hg (by unfold fF;rw[hd];exact hn) hj hv hb (by rw[hd];exact h)
theorem RC.q{d j e:Nat}{b:Bool}(hg:o.guard=some (j,b))(hd:o.dst=some d)(hn:Nat.blt d n=true)(hj:(ops[j]?).bind (·.dst)=some e)(hv:iF L e=some undef)(h:RC P n ops K l ((d,undef)::L) w):RC P n ops K (o::l) L w:=
 ⟨by unfold fF;rw[hd];exact hn,.undef hg hj hv (by rw[hd];exact h)⟩
theorem tn(h:nx L w):pI nx Q .normal L w:=h
theorem tx{i:Nat}(h:Q (.exit i) L w):pI nx Q (.exit i) L w:=h
theorem tr(h:Q .ret L w):pI nx Q .ret L w:=h
theorem bn{i:Nat}(h:Q .normal L w):LG i Q .normal L w:=h
theorem br{i:Nat}(h:Q .ret L w):LG i Q .ret L w:=h
theorem bx{i:Nat}(h:Q .normal L w):LG i Q (.exit i) L w:=by show(if i=i then _ else _);rw[if_pos rfl];exact h
theorem rr{fn:Func}{R:Value→World→Prop}{rs:List ResultVar}{vs:List Value}(hr:fn.results=rs.toArray)(hv:PI P L w rs vs)(h:R (sN vs) w):EL P fn R .ret L w:=EL.of hr hv h
theorem gG.op'(hg:o.guard=none){R:Value→World→Prop}(h:Yl P o L w R):gG P ops o L w R:=.op hg h
end
def IN(c:Value):Value→World→Prop:=fun v _=>v=c
def fL(V:Value→World→Prop):Prop:=∀v w w',V v w→Ex w w'→V v w'
theorem fL.det(c:Value):fL (IN c):=fun _ _ _ h _=>h
theorem Yl.same{P:Program}{o:Oper}{L:List (Nat×Value)}{w:World}{V:Value→World→Prop}(h:Yl P o L w fun v w'=>V v w'∧w'=w):Yl P o L w fun v w'=>V v w'∧Ex w w':=
 fun ρ hρ=>(h ρ hρ).mono fun _ _ ⟨h1,h2⟩=>⟨h1,h2▸Ex.refl _⟩
theorem kC.fix{α:Type}{w:World}{S:Nat→Prop}{R:KF α}{sz:Nat}{A:Option Addr}{n c:Nat}{xs:List α}(h:kC w S R sz A n c xs):kC w S R sz A xs.length c xs:=by
 obtain rfl:=h.1
 exact h
theorem kC.up{α:Type}{w:World}{S:Nat→Prop}{R:KF α}{sz:Nat}{A:Option Addr}{n c:Nat}{xs:List α}(h:kC w S R sz A n c xs)(hg:Gd R):kC w (Iv 0 w.heap.size) R sz A n c xs:=h.wide hg fun _ _ hb=>⟨Nat.zero_le _,hb⟩
end Go.X
