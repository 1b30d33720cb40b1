/- Loops in plain terms; the words that the printed proofs use. -/
import Derived.Test.YtikkoidgamlgnaaE5
set_option linter.unusedVariables false
set_option linter.unusedSimpArgs false
namespace Go.X
open Go.RowKit
inductive zG (ρ σ:Type) where
 | ret (r:ρ)
 | brk (s:σ)
 | cont (s:σ)
inductive End (ρ σ:Type) where
 | ret (r:ρ)
 | done (s:σ)
def kB{ρ σ:Type}(body:Nat→σ→zG ρ σ):Nat→Nat→σ→End ρ σ
 | 0,_,s=>.done s
 | f+1,k,s=>match body k s with
  | .ret r=>.ret r
  | .brk s=>.done s
  | .cont s=>kB body f (k+1) s
def qD{ρ σ T:Type}(e:End ρ σ)(fr:ρ→T)(fd:σ→T):T:=match e with | .ret r=>fr r | .done s=>fd s
theorem PA{ρ σ T:Type}(s:σ)(fr:ρ→T)(fd:σ→T):qD (.done s) fr fd=fd s:=rfl
theorem YA{ρ σ T:Type}(r:ρ)(fr:ρ→T)(fd:σ→T):qD (.ret r) fr fd=fr r:=rfl
section
variable {ρ σ:Type}{body:Nat→σ→zG ρ σ}{n k:Nat}{s s':σ}{r:ρ}
theorem kB.stop(h:n≤k):kB body (n-k) k s=.done s:=by
 rw[Nat.sub_eq_zero_of_le h];rfl
theorem kB.cont(h:k<n)(hb:body k s=.cont s'):kB body (n-k) k s=kB body (n-(k+1)) (k+1) s':=by
 obtain⟨f,hf⟩:∃f,n-k=f+1:=⟨n-k-1,by omega⟩
 have hf':n-(k+1)=f:=by omega
 rw[hf,hf']
 simp only[kB,hb]
theorem kB.ret(h:k<n)(hb:body k s=.ret r):kB body (n-k) k s=.ret r:=by
 obtain⟨f,hf⟩:∃f,n-k=f+1:=⟨n-k-1,by omega⟩
 rw[hf]
 simp only[kB,hb]
theorem kB.brk(h:k<n)(hb:body k s=.brk s'):kB body (n-k) k s=.done s':=by
 obtain⟨f,hf⟩:∃f,n-k=f+1:=⟨n-k-1,by omega⟩
 rw[hf]
 simp only[kB,hb]
end
theorem qC{p:Prop}(b:Bool)(ht:b=true→p)(hf:b=false→p):p:=by
 cases b
 ·exact hf rfl
 ·exact ht rfl
theorem qB{b:Bool}(h:b=true):(!b)=false:=by rw[h];rfl
theorem MB{b:Bool}(h:b=false):(!b)=true:=by rw[h];rfl
theorem ZP{p:Prop}[Decidable p](h:decide p=true):p:=of_decide_eq_true h
theorem pP{p:Prop}[Decidable p](h:decide p=false):¬p:=of_decide_eq_false h
section
variable {P:Program}{n:Nat}{ops:Array Oper}{K:List (Nat×Value)→World→Prop}{o:Oper}{l:List Oper}{L:List (Nat×Value)}{w:World}{Q:Exit→List (Nat×Value)→World→Prop}{nx:List (Nat×Value)→World→Prop}
theorem SD.done(h:K L w):SD P n ops K [] L w:=h
theorem SD.d1{d:Nat}(hg:o.guard=none)(hd:o.dst=some d)(hn:Nat.blt d n=true)(h:Yl P o L w fun v w'=>SD P n ops K l ((d,v)::L) w'):SD P n ops K (o::l) L w:=
 SD.op hg (by unfold wG;rw[hd];exact hn) (by rw[hd];exact h)
theorem SD.u(hg:o.guard=none)(hd:o.dst=none)(h:Yl P o L w fun _ w'=>SD P n ops K l L w'):SD P n ops K (o::l) L w:=
 SD.op hg (by unfold wG;rw[hd]) (by rw[hd];exact h)
theorem SD.y{d j e:Nat}{b g:Bool}(hg:o.guard=some (j,b))(hd:o.dst=some d)(hn:Nat.blt d n=true)(hj:(ops[j]?).bind (·.dst)=some e)(hv:BG L e=some (.bool g))(hb:g=b)(h:Yl P o L w fun v w'=>SD P n ops K l ((d,v)::L) w'):SD P n ops K (o::l) L w:=
 SD.want hg (by unfold wG;rw[hd];exact hn) hj hv hb (by rw[hd];exact h)
theorem SD.z{d j e:Nat}{b g:Bool}(hg:o.guard=some (j,b))(hd:o.dst=some d)(hn:Nat.blt d n=true)(hj:(ops[j]?).bind (·.dst)=some e)(hv:BG L e=some (.bool g))(hb:g=!b)(h:SD P n ops K l ((d,undef)::L) w):SD P n ops K (o::l) L w:=
 SD.skip hg (by unfold wG;rw[hd];exact hn) hj hv hb (by rw[hd];exact h)
theorem SD.q{d j e:Nat}{b:Bool}(hg:o.guard=some (j,b))(hd:o.dst=some d)(hn:Nat.blt d n=true)(hj:(ops[j]?).bind (·.dst)=some e)(hv:BG L e=some undef)(h:SD P n ops K l ((d,undef)::L) w):SD P n ops K (o::l) L w:=
 ⟨by unfold wG;rw[hd];exact hn,.undef hg hj hv (by rw[hd];exact h)⟩
theorem tn(h:nx L w):xK nx Q .normal L w:=h
theorem tx{i:Nat}(h:Q (.exit i) L w):xK nx Q (.exit i) L w:=h
theorem tr(h:Q .ret L w):xK nx Q .ret L w:=h
theorem bn{i:Nat}(h:Q .normal L w):KH i Q .normal L w:=h
theorem br{i:Nat}(h:Q .ret L w):KH i Q .ret L w:=h
theorem bx{i:Nat}(h:Q .normal L w):KH i Q (.exit i) L w:=by show(if i=i then _ else _);rw[if_pos rfl];exact h
theorem rQ{i j:Nat}(hij:Nat.beq j i=false)(h:Q (.exit j) L w):KH i Q (.exit j) L w:=by
 show(if j=i then _ else _)
 rw[if_neg (fun e=>by subst e;rw[Nat.beq_refl]at hij;cases hij)]
 exact h
theorem rn{fn:Func}{R:Value→World→Prop}{rs:List ResultVar}{vs:List Value}(hr:fn.results=rs.toArray)(hv:cK P L w rs vs)(h:R (XP vs) w):HM P fn R .normal L w:=HM.of hr hv h
theorem rr{fn:Func}{R:Value→World→Prop}{rs:List ResultVar}{vs:List Value}(hr:fn.results=rs.toArray)(hv:cK P L w rs vs)(h:R (XP vs) w):HM P fn R .ret L w:=HM.of hr hv h
theorem IH.op'(hg:o.guard=none){R:Value→World→Prop}(h:Yl P o L w R):IH P ops o L w R:=.op hg h
end
def qQ(c:Value):Value→World→Prop:=fun v _=>v=c
def JN(V:Value→World→Prop):Prop:=∀v w w',V v w→Ex w w'→V v w'
theorem JN.det(c:Value):JN (qQ c):=fun _ _ _ h _=>h
theorem Yl.same{P:Program}{o:Oper}{L:List (Nat×Value)}{w:World}{V:Value→World→Prop}(h:Yl P o L w fun v w'=>V v w'∧w'=w):Yl P o L w fun v w'=>V v w'∧Ex w w':=
 fun ρ hρ=>(h ρ hρ).mono fun _ _ ⟨h1,h2⟩=>⟨h1,h2▸Ex.refl _⟩
theorem cD.fix{α:Type}{w:World}{S:Nat→Prop}{R:xH α}{sz:Nat}{A:Option Addr}{n c:Nat}{xs:List α}(h:cD w S R sz A n c xs):cD w S R sz A xs.length c xs:=by
 obtain rfl:=h.1
 exact h
theorem cD.up{α:Type}{w:World}{S:Nat→Prop}{R:xH α}{sz:Nat}{A:Option Addr}{n c:Nat}{xs:List α}(h:cD w S R sz A n c xs)(hg:Gd R):cD w (Iv 0 w.heap.size) R sz A n c xs:=h.wide hg fun _ _ hb=>⟨Nat.zero_le _,hb⟩
end Go.X
