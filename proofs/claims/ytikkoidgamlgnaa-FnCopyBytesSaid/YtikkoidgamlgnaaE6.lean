/- Loops in plain terms; the words that the printed proofs use. -/
import Derived.Test.YtikkoidgamlgnaaE5
set_option linter.unusedVariables false
set_option linter.unusedSimpArgs false
namespace Go.X
open Go.RowKit
inductive CF (ρ σ:Type) where
 | ret (r:ρ)
 | brk (s:σ)
 | cont (s:σ)
inductive End (ρ σ:Type) where
 | ret (r:ρ)
 | done (s:σ)
def NA{ρ σ:Type}(body:Nat→σ→CF ρ σ):Nat→Nat→σ→End ρ σ
 | 0,_,s=>.done s
 | f+1,k,s=>match body k s with
  | .ret r=>.ret r
  | .brk s=>.done s
  | .cont s=>NA body f (k+1) s
def JC{ρ σ T:Type}(e:End ρ σ)(fr:ρ→T)(fd:σ→T):T:=match e with | .ret r=>fr r | .done s=>fd s
theorem GA{ρ σ T:Type}(s:σ)(fr:ρ→T)(fd:σ→T):JC (.done s) fr fd=fd s:=rfl
theorem RA{ρ σ T:Type}(r:ρ)(fr:ρ→T)(fd:σ→T):JC (.ret r) fr fd=fr r:=rfl
section
variable {ρ σ:Type}{body:Nat→σ→CF ρ σ}{n k:Nat}{s s':σ}{r:ρ}
theorem NA.stop(h:n≤k):NA body (n-k) k s=.done s:=by
 rw[Nat.sub_eq_zero_of_le h];rfl
theorem NA.cont(h:k<n)(hb:body k s=.cont s'):NA body (n-k) k s=NA body (n-(k+1)) (k+1) s':=by
 obtain⟨f,hf⟩:∃f,n-k=f+1:=⟨n-k-1,by omega⟩
 have hf':n-(k+1)=f:=by omega
 rw[hf,hf']
 simp only[NA,hb]
theorem NA.ret(h:k<n)(hb:body k s=.ret r):NA body (n-k) k s=.ret r:=by
 obtain⟨f,hf⟩:∃f,n-k=f+1:=⟨n-k-1,by omega⟩
 rw[hf]
 simp only[NA,hb]
theorem NA.brk(h:k<n)(hb:body k s=.brk s'):NA body (n-k) k s=.done s':=by
 obtain⟨f,hf⟩:∃f,n-k=f+1:=⟨n-k-1,by omega⟩
 rw[hf]
 simp only[NA,hb]
end
theorem iC{p:Prop}(b:Bool)(ht:b=true→p)(hf:b=false→p):p:=by
 cases b
 ·exact hf rfl
 ·exact ht rfl
theorem dB{b:Bool}(h:b=true):(!b)=false:=by rw[h];rfl
theorem KB{b:Bool}(h:b=false):(!b)=true:=by rw[h];rfl
theorem yP{p:Prop}[Decidable p](h:decide p=true):p:=of_decide_eq_true h
theorem OO{p:Prop}[Decidable p](h:decide p=false):¬p:=of_decide_eq_false h
section
variable {P:Program}{n:Nat}{ops:Array Oper}{K:List (Nat×Value)→World→Prop}{o:Oper}{l:List Oper}{L:List (Nat×Value)}{w:World}{Q:Exit→List (Nat×Value)→World→Prop}{nx:List (Nat×Value)→World→Prop}
theorem sD.done(h:K L w):sD P n ops K [] L w:=h
theorem sD.d1{d:Nat}(hg:o.guard=none)(hd:o.dst=some d)(hn:Nat.blt d n=true)(h:Yl P o L w fun v w'=>sD P n ops K l ((d,v)::L) w'):sD P n ops K (o::l) L w:=
 sD.op hg (by unfold NF;rw[hd];exact hn) (by rw[hd];exact h)
theorem sD.u(hg:o.guard=none)(hd:o.dst=none)(h:Yl P o L w fun _ w'=>sD P n ops K l L w'):sD P n ops K (o::l) L w:=
 sD.op hg (by unfold NF;rw[hd]) (by rw[hd];exact h)
theorem sD.y{d j e:Nat}{b g:Bool}(hg:o.guard=some (j,b))(hd:o.dst=some d)(hn:Nat.blt d n=true)(hj:(ops[j]?).bind (·.dst)=some e)(hv:OF L e=some (.bool g))(hb:g=b)(h:Yl P o L w fun v w'=>sD P n ops K l ((d,v)::L) w'):sD P n ops K (o::l) L w:=
 sD.want hg (by unfold NF;rw[hd];exact hn) hj hv hb (by rw[hd];exact h)
theorem sD.z{d j e:Nat}{b g:Bool}(hg:o.guard=some (j,b))(hd:o.dst=some d)(hn:Nat.blt d n=true)(hj:(ops[j]?).bind (·.dst)=some e)(hv:OF L e=some (.bool g))(hb:g=!b)(h:sD P n ops K l ((d,undef)::L) w):sD P n ops K (o::l) L w:=
 sD.skip hg (by unfold NF;rw[hd];exact hn) hj hv hb (by rw[hd];exact h)
theorem sD.q{d j e:Nat}{b:Bool}(hg:o.guard=some (j,b))(hd:o.dst=some d)(hn:Nat.blt d n=true)(hj:(ops[j]?).bind (·.dst)=some e)(hv:OF L e=some undef)(h:sD P n ops K l ((d,undef)::L) w):sD P n ops K (o::l) L w:=
 ⟨by unfold NF;rw[hd];exact hn,.undef hg hj hv (by rw[hd];exact h)⟩
theorem tn(h:nx L w):JJ nx Q .normal L w:=h
theorem tx{i:Nat}(h:Q (.exit i) L w):JJ nx Q (.exit i) L w:=h
theorem tr(h:Q .ret L w):JJ nx Q .ret L w:=h
theorem bn{i:Nat}(h:Q .normal L w):bH i Q .normal L w:=h
theorem br{i:Nat}(h:Q .ret L w):bH i Q .ret L w:=h
theorem bx{i:Nat}(h:Q .normal L w):bH i Q (.exit i) L w:=by show(if i=i then _ else _);rw[if_pos rfl];exact h
theorem SP{i j:Nat}(hij:Nat.beq j i=false)(h:Q (.exit j) L w):bH i Q (.exit j) L w:=by
 show(if j=i then _ else _)
 rw[if_neg (fun e=>by subst e;rw[Nat.beq_refl]at hij;cases hij)]
 exact h
theorem rn{fn:Func}{R:Value→World→Prop}{rs:List ResultVar}{vs:List Value}(hr:fn.results=rs.toArray)(hv:uJ P L w rs vs)(h:R (wP vs) w):VL P fn R .normal L w:=VL.of hr hv h
theorem rr{fn:Func}{R:Value→World→Prop}{rs:List ResultVar}{vs:List Value}(hr:fn.results=rs.toArray)(hv:uJ P L w rs vs)(h:R (wP vs) w):VL P fn R .ret L w:=VL.of hr hv h
theorem XG.op'(hg:o.guard=none){R:Value→World→Prop}(h:Yl P o L w R):XG P ops o L w R:=.op hg h
end
def RP(c:Value):Value→World→Prop:=fun v _=>v=c
def gN(V:Value→World→Prop):Prop:=∀v w w',V v w→Ex w w'→V v w'
theorem gN.det(c:Value):gN (RP c):=fun _ _ _ h _=>h
theorem Yl.same{P:Program}{o:Oper}{L:List (Nat×Value)}{w:World}{V:Value→World→Prop}(h:Yl P o L w fun v w'=>V v w'∧w'=w):Yl P o L w fun v w'=>V v w'∧Ex w w':=
 fun ρ hρ=>(h ρ hρ).mono fun _ _ ⟨h1,h2⟩=>⟨h1,h2▸Ex.refl _⟩
theorem GC.fix{α:Type}{w:World}{S:Nat→Prop}{R:IG α}{sz:Nat}{A:Option Addr}{n c:Nat}{xs:List α}(h:GC w S R sz A n c xs):GC w S R sz A xs.length c xs:=by
 obtain rfl:=h.1
 exact h
theorem GC.up{α:Type}{w:World}{S:Nat→Prop}{R:IG α}{sz:Nat}{A:Option Addr}{n c:Nat}{xs:List α}(h:GC w S R sz A n c xs)(hg:Gd R):GC w (Iv 0 w.heap.size) R sz A n c xs:=h.wide hg fun _ _ hb=>⟨Nat.zero_le _,hb⟩
end Go.X
