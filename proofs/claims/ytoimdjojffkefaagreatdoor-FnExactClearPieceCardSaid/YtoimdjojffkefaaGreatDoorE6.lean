/- Loops in plain terms; the words that the printed proofs use. -/
import Derived.Test.YtoimdjojffkefaaGreatDoorE5
set_option linter.unusedVariables false
set_option linter.unusedSimpArgs false
namespace Go.X
open Go.RowKit
inductive nH (ρ σ:Type) where
 | ret (r:ρ)
 | brk (s:σ)
 | cont (s:σ)
inductive End (ρ σ:Type) where
 | ret (r:ρ)
 | done (s:σ)
def BA{ρ σ:Type}(body:Nat→σ→nH ρ σ):Nat→Nat→σ→End ρ σ
 | 0,_,s=>.done s
 | f+1,k,s=>match body k s with
  | .ret r=>.ret r
  | .brk s=>.done s
  | .cont s=>BA body f (k+1) s
def OC{ρ σ T:Type}(e:End ρ σ)(fr:ρ→T)(fd:σ→T):T:=match e with | .ret r=>fr r | .done s=>fd s
theorem iS{ρ σ T:Type}(s:σ)(fr:ρ→T)(fd:σ→T):OC (.done s) fr fd=fd s:=rfl
theorem FT{ρ σ T:Type}(r:ρ)(fr:ρ→T)(fd:σ→T):OC (.ret r) fr fd=fr r:=rfl
section
variable {ρ σ:Type}{body:Nat→σ→nH ρ σ}{n k:Nat}{s s':σ}{r:ρ}
theorem BA.stop(h:n≤k):BA body (n-k) k s=.done s:=by
 rw[Nat.sub_eq_zero_of_le h];rfl
theorem BA.cont(h:k<n)(hb:body k s=.cont s'):BA body (n-k) k s=BA body (n-(k+1)) (k+1) s':=by
 obtain⟨f,hf⟩:∃f,n-k=f+1:=⟨n-k-1,by omega⟩
 have hf':n-(k+1)=f:=by omega
 rw[hf,hf']
 simp only[BA,hb]
theorem BA.ret(h:k<n)(hb:body k s=.ret r):BA body (n-k) k s=.ret r:=by
 obtain⟨f,hf⟩:∃f,n-k=f+1:=⟨n-k-1,by omega⟩
 rw[hf]
 simp only[BA,hb]
theorem BA.brk(h:k<n)(hb:body k s=.brk s'):BA body (n-k) k s=.done s':=by
 obtain⟨f,hf⟩:∃f,n-k=f+1:=⟨n-k-1,by omega⟩
 rw[hf]
 simp only[BA,hb]
end
theorem AB{p:Prop}(b:Bool)(ht:b=true→p)(hf:b=false→p):p:=by
 cases b
 ·exact hf rfl
 ·exact ht rfl
theorem xA{b:Bool}(h:b=true):(!b)=false:=by rw[h];rfl
theorem UA{b:Bool}(h:b=false):(!b)=true:=by rw[h];rfl
theorem RN{p:Prop}[Decidable p](h:decide p=true):p:=of_decide_eq_true h
theorem YE{p:Prop}[Decidable p](h:decide p=false):¬p:=of_decide_eq_false h
section
variable {P:Program}{n:Nat}{ops:Array Oper}{K:List (Nat×Value)→World→Prop}{o:Oper}{l:List Oper}{L:List (Nat×Value)}{w:World}{Q:Exit→List (Nat×Value)→World→Prop}{nx:List (Nat×Value)→World→Prop}
theorem iF.done(h:K L w):iF P n ops K [] L w:=h
theorem iF.d1{d:Nat}(hg:o.guard=none)(hd:o.dst=some d)(hn:Nat.blt d n=true)(h:Yl P o L w fun v w'=>iF P n ops K l ((d,v)::L) w'):iF P n ops K (o::l) L w:=
 iF.op hg (by unfold NI;rw[hd];exact hn) (by rw[hd];exact h)
theorem iF.u(hg:o.guard=none)(hd:o.dst=none)(h:Yl P o L w fun _ w'=>iF P n ops K l L w'):iF P n ops K (o::l) L w:=
 iF.op hg (by unfold NI;rw[hd]) (by rw[hd];exact h)
theorem iF.y{d j e:Nat}{b g:Bool}(hg:o.guard=some (j,b))(hd:o.dst=some d)(hn:Nat.blt d n=true)(hj:(ops[j]?).bind (·.dst)=some e)(hv:vI L e=some (.bool g))(hb:g=b)(h:Yl P o L w fun v w'=>iF P n ops K l ((d,v)::L) w'):iF P n ops K (o::l) L w:=
 iF.want hg (by unfold NI;rw[hd];exact hn) hj hv hb (by rw[hd];exact h)
theorem iF.z{d j e:Nat}{b g:Bool}(hg:o.guard=some (j,b))(hd:o.dst=some d)(hn:Nat.blt d n=true)(hj:(ops[j]?).bind (·.dst)=some e)(hv:vI L e=some (.bool g))(hb:g=!b)(h:iF P n ops K l ((d,undef)::L) w):iF P n ops K (o::l) L w:=
 iF.skip hg (by unfold NI;rw[hd];exact hn) hj hv hb (by rw[hd];exact h)
theorem iF.q{d j e:Nat}{b:Bool}(hg:o.guard=some (j,b))(hd:o.dst=some d)(hn:Nat.blt d n=true)(hj:(ops[j]?).bind (·.dst)=some e)(hv:vI L e=some undef)(h:iF P n ops K l ((d,undef)::L) w):iF P n ops K (o::l) L w:=
 ⟨by unfold NI;rw[hd];exact hn,.undef hg hj hv (by rw[hd];exact h)⟩
theorem tn(h:nx L w):mO nx Q .normal L w:=h
theorem tx{i:Nat}(h:Q (.exit i) L w):mO nx Q (.exit i) L w:=h
theorem tr(h:Q .ret L w):mO nx Q .ret L w:=h
theorem bn{i:Nat}(h:Q .normal L w):lK i Q .normal L w:=h
theorem br{i:Nat}(h:Q .ret L w):lK i Q .ret L w:=h
theorem bx{i:Nat}(h:Q .normal L w):lK i Q (.exit i) L w:=by show(if i=i then _ else _);rw[if_pos rfl];exact h
theorem jX{i j:Nat}(hij:Nat.beq j i=false)(h:Q (.exit j) L w):lK i Q (.exit j) L w:=by
 show(if j=i then _ else _)
 rw[if_neg (fun e=>by subst e;rw[Nat.beq_refl]at hij;cases hij)]
 exact h
theorem rr{fn:Func}{R:Value→World→Prop}{rs:List ResultVar}{vs:List Value}(hr:fn.results=rs.toArray)(hv:VO P L w rs vs)(h:R (bX vs) w):TU P fn R .ret L w:=TU.of hr hv h
theorem fK.op'(hg:o.guard=none){R:Value→World→Prop}(h:Yl P o L w R):fK P ops o L w R:=.op hg h
end
def vX(c:Value):Value→World→Prop:=fun v _=>v=c
def kU(V:Value→World→Prop):Prop:=∀v w w',V v w→Ex w w'→V v w'
theorem kU.det(c:Value):kU (vX c):=fun _ _ _ h _=>h
theorem Yl.same{P:Program}{o:Oper}{L:List (Nat×Value)}{w:World}{V:Value→World→Prop}(h:Yl P o L w fun v w'=>V v w'∧w'=w):Yl P o L w fun v w'=>V v w'∧Ex w w':=
 fun ρ hρ=>(h ρ hρ).mono fun _ _ ⟨h1,h2⟩=>⟨h1,h2▸Ex.refl _⟩
theorem IC.fix{α:Type}{w:World}{S:Nat→Prop}{R:qJ α}{sz:Nat}{A:Option Addr}{n c:Nat}{xs:List α}(h:IC w S R sz A n c xs):IC w S R sz A xs.length c xs:=by
 obtain rfl:=h.1
 exact h
theorem IC.up{α:Type}{w:World}{S:Nat→Prop}{R:qJ α}{sz:Nat}{A:Option Addr}{n c:Nat}{xs:List α}(h:IC w S R sz A n c xs)(hg:Gd R):IC w (Iv 0 w.heap.size) R sz A n c xs:=h.wide hg fun _ _ hb=>⟨Nat.zero_le _,hb⟩
end Go.X
