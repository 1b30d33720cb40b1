/- More words for the printed proofs. -/
import Derived.Test.YtikkoidgamlgnaaE6
set_option linter.unusedVariables false
set_option linter.unusedSimpArgs false
namespace Go.X
open Go.RowKit
section
variable {P:Program}{o:Oper}{L:List (Nat×Value)}{w:World}{R:Value→World→Prop}
theorem fM(a:Int)(h0:-9223372036854775808≤a)(h1:a≤9223372036854775807):IntKind.wrap .i64 a=a:=by
 rw[IntKind.wrap_i64];omega
theorem oD{x y:Operand}{t t':TypeId}{k:Nat}(ho:o.op=.binOp .add t x y t')(hx:aE L x=some (.int .i64 (k:Int)))(hy:aE L y=some (.int .i64 1))(hk:k+1≤9223372036854775807)(hR:R (.int .i64 ((k+1:Nat):Int)) w):Yl P o L w R:=
 XD ho hx hy (by
  have e:IntKind.wrap .i64 ((k:Int)+1)=((k+1:Nat):Int):=by rw[fM _ (by omega) (by omega)];omega
  rw[e];exact hR)
theorem JK{x y:Operand}{t e:TypeId}{A:Option Addr}{n c b off sz by_:Nat}{z:Option Value}{ag:Bool}{i:Nat}{k:IntKind}(hu:P.underlying t=some (.slice e))(he:gH P e=some (sz,by_,z,ag))
  (ho:o.op=.indexAddr t x y) (hx:aE L x=some (.slice A n c)) (hy:aE L y=some (.int k (i:Int))) (hA:A=some ⟨b,off,none⟩) (h1:i<n) (hR:R (.pointer (some ⟨b,off+i*sz,none⟩)) w):Yl P o L w R:=
 dC hu he ho hx hy hA (by omega) (by omega) hR
theorem XC{x y:Operand}{t:TypeId}{a:uB}(hu:P.underlying t=some .string){i:Nat}{k:IntKind}(ho:o.op=.index t x y)(hx:aE L x=some (.string (bs a)))(hy:aE L y=some (.int k (i:Int)))(h1:i<a.length)
  (hR:R (.int .u8 (a.getD i 0).toNat) w):Yl P o L w R:=
 CN hu ho hx hy (by omega) (by omega) hR
theorem AE.spec{t:TypeId}{k fo sz:Nat}{ag:Bool}(hf:AE P t k=some (fo,sz,ag)):∃fs f i d,P.underlying t=some (.struct fs)∧fs[k]? = some f∧P.info? f.type=some i∧P.underlying f.type=some d∧f.offset=fo∧i.size=sz∧xP d=ag:=by
 unfold AE at hf
 split at hf
 ·rename_i fs hu
  split at hf
  ·rename_i f hfk
   split at hf
   ·rename_i sz' by_ z ag' hty
    simp only[Option.some.injEq,Prod.mk.injEq]at hf
    obtain⟨h1,h2,h3⟩:=hf
    obtain⟨ie,d,hi,hd,hsz,_,_,hag⟩:=gH.spec hty
    exact⟨fs,f,ie,d,hu,hfk,hi,hd,h1,by omega,by rw[hag,h3]⟩
   ·cases hf
  ·cases hf
 ·cases hf
theorem pF{x:Operand}{k:IntKind}{n:Int}(hx:aE L x=some (.int k n))(h0:0≤n):aE L x=some (.int k ((n.toNat:Nat):Int)):=by
 rw[hx,Int.toNat_of_nonneg h0]
theorem pJ{x y:Operand}{t:TypeId}{a:uB}{h:Nat}{k:IntKind}(hu:P.underlying t=some .string)(ho:o.op=.slice t x none (some y) none)(hx:aE L x=some (.string (bs a)))(hy:aE L y=some (.int k (h:Int)))(hh:h≤a.length)(hR:R (.string (bs (a.take h))) w):Yl P o L w R:=
 hL (kl:=.i64) hu ho hx (show(0:Nat)=0 from rfl) hy (Nat.zero_le _) hh (by rw[List.drop_zero];exact hR)
theorem qJ{x y y':Operand}{t:TypeId}{a:uB}{l h:Nat}{k k':IntKind}(hu:P.underlying t=some .string)(ho:o.op=.slice t x (some y) (some y') none)(hx:aE L x=some (.string (bs a)))(hy:aE L y=some (.int k (l:Int)))(hy':aE L y'=some (.int k' (h:Int)))(hl:l≤h)(hh:h≤a.length)(hR:R (.string (bs ((a.take h).drop l))) w):Yl P o L w R:=
 hL hu ho hx hy hy' hl hh hR
theorem yG{x:Operand}{t E sz by_:Nat}{z:Option Value}{ag:Bool}{A A':Option Addr}{n c c' m l h:Nat}{kl kh:IntKind}{lo hi:Option Operand}(ht:P.underlying t=some (.slice E))(hE:gH P E=some (sz,by_,z,ag))(ho:o.op=.slice t x lo hi none)(hx:aE L x=some (.slice A n c))
  (hlo:(lo=none∧l=0)∨∃y,lo=some y∧aE L y=some (.int kl (l:Int))) (hhi:(hi=none∧h=n)∨∃y,hi=some y∧aE L y=some (.int kh (h:Int))) (hlh:l≤h) (hhc:h≤c)
  (he:(if c=l then A else A.map (·.add (l*sz)))=A'∧h-l=m∧c-l=c') (hR:R (.slice A' m c') w):Yl P o L w R:=by
 obtain⟨h1,h2,h3⟩:=he
 exact zO ht hE ho hx hlo hhi hlh hhc (by rw[h1,h2,h3];exact hR)
theorem JE:VI L []=some []:=rfl
theorem tN{x:Operand}{v:Value}{xs:List Operand}{vs:List Value}(h:aE L x=some v)(hs:VI L xs=some vs):VI L (x::xs)=some (v::vs):=by
 simp only[VI,h,hs]
theorem cH{k n:Nat}(h:k<n):decide ((k:Int)<(n:Int))=true:=by simpa using h
theorem bH{k n:Nat}(h:n≤k):decide ((k:Int)<(n:Int))=false:=by simpa using h
end
theorem jF.sub{w:World}{b o:Nat}{cs:List Value}(h:jF w b o cs)(d n:Nat):jF w b (o+d) ((cs.drop d).take n):=by
 intro j u hu
 rw[List.getElem?_take]at hu
 split at hu
 ·rw[List.getElem?_drop]at hu
  rw[Nat.add_assoc]
  exact h _ _ hu
 ·cases hu
theorem lE.grown{w w':World}{row:Option Nat}{b:Nat}{T:TypeId}{cs:List Value}(h:lE w b T cs)(e:w.grownBy w' row)(hn:∀k,row=some k→k≠b):lE w' b T cs:=
 (e.block b h.lt fun hh=>hn b hh.symm rfl).trans h
theorem cD.sl{α:Type}{w:World}{S:Nat→Prop}{R:xH α}{sz:Nat}{A:Option Addr}{n c:Nat}{xs:List α}(h:cD w S R sz A n c xs):∃A' c',(A=A'∧n=xs.length∧c=c')∧cD w S R sz A' xs.length c' xs:=
 ⟨A,c,⟨rfl,h.1,rfl⟩,h.1▸h⟩
def eQ:Nat→Prop:=fun _=>True
def Ge(lo:Nat):Nat→Prop:=fun b=>lo≤b
/-! ### short strings -/
def aF(s:uB):Prop:=s.length≤1073741824
def PF{α:Type}(ok:α→Prop)(xs:List α):Prop:=xs.length≤2147483648∧∀x∈xs,ok x
theorem PF.nil{α:Type}(ok:α→Prop):PF ok []:=⟨by simp,fun _ h=>by cases h⟩
theorem PF.getD{α:Type}{ok:α→Prop}{xs:List α}{d:α}(h:PF ok xs)(hd:ok d)(i:Nat):ok (xs.getD i d):=by
 rw[List.getD_eq_getElem?_getD]
 rcases hx:xs[i]? with _ | x
 ·exact hd
 ·exact h.2 x (List.mem_of_getElem? hx)
theorem PF.drop{α:Type}{ok:α→Prop}{xs:List α}(h:PF ok xs)(k:Nat):PF ok (xs.drop k):=⟨by rw[List.length_drop];have:=h.1;omega,fun y hy=>h.2 y (List.mem_of_mem_drop hy)⟩
theorem PF.take{α:Type}{ok:α→Prop}{xs:List α}(h:PF ok xs)(k:Nat):PF ok (xs.take k):=⟨by rw[List.length_take];have:=h.1;omega,fun y hy=>h.2 y (List.mem_of_mem_take hy)⟩
def rL{α:Type}:α→Prop:=fun _=>True
theorem oG:aF []:=by unfold aF;simp
theorem aF.take{s:uB}(h:aF s)(k:Nat):aF (s.take k):=by unfold aF at *;rw[List.length_take];omega
theorem aF.drop{s:uB}(h:aF s)(k:Nat):aF (s.drop k):=by unfold aF at *;rw[List.length_drop];omega
def ZF:uB:=[]
def QI:Int:=0
def WK(s:uB):List Value:=[.string (bs s)]
def HJ(n:Int):List Value:=[.int .i64 n]
theorem gS:Gd (RF WK):=RF.good fun _=>rfl
theorem YG:Gd (RF HJ):=RF.good fun _=>rfl
/-! ### Lists that the call owns -/
theorem TB.ones{α:Type}{R:xH α}(hg:Gd R){w:World}{S:Nat→Prop}{sz:Nat}{cs:List Value}{xs:List α}(h:TB (R w S) sz cs xs):∀u∈cs,u.oneCell'=true:=by
 induction h with
 | nil=>intro u hu;cases hu
 | @cons c x cs xs hl h hs ih=>
  intro u hu
  rcases List.mem_append.1 hu with hu | hu
  ·exact List.all_eq_true.1 (hg.one h) u hu
  ·exact ih u hu
def aK{α:Type}(w:World)(lo hi E sz:Nat)(R:xH α)(A:Option Addr)(n c:Nat)(xs:List α):Prop:=
 (∀k,blk A=some k→lo≤k∧k<hi)∧∃S cells,Own w lo E sz A n c cells∧TB (R w S) sz cells xs∧(∀k,blk A=some k→¬S k)∧(∀b,S b→lo≤b∧b<hi)
def AB{α:Type}(w:World)(lo hi E sz:Nat)(R:xH α)(A:Option Addr)(n c:Nat)(xs:List α):Prop:=
 n=xs.length∧((n=0∧c=0)∨aK w lo hi E sz R A n c xs)
section
variable {α:Type}{w w':World}{lo hi E sz:Nat}{R:xH α}{A:Option Addr}{n c:Nat}{xs:List α}
theorem aK.keep(hg:Gd R)(h:aK w lo hi E sz R A n c xs)(hk:∀b,lo≤b→b<hi→b<w.heap.size→w'.heap[b]? = w.heap[b]?):aK w' lo hi E sz R A n c xs:=by
 obtain⟨h2,S,cells,ho,he,h3,h4⟩:=h
 refine⟨h2,S,cells,ho.keep fun g hgk=>?_,he.mono fun c x hx=>hg.keep hx fun b hb hl=>hk b (h4 b hb).1 (h4 b hb).2 hl,h3,h4⟩
 obtain⟨_,_,hf⟩:=ho.form
 obtain⟨k1,k2⟩:=h2 g hgk
 rcases hf with⟨hA,_⟩ | ⟨g',hA,_,hlt⟩
 ·subst hA;cases hgk
 ·subst hA
  simp only[blk,Option.some.injEq]at hgk
  subst hgk
  exact hk _ k1 k2 hlt
theorem AB.keep(hg:Gd R)(h:AB w lo hi E sz R A n c xs)(hk:∀b,lo≤b→b<hi→b<w.heap.size→w'.heap[b]? = w.heap[b]?):AB w' lo hi E sz R A n c xs:=
 ⟨h.1,h.2.imp id fun h=>h.keep hg hk⟩
theorem AB.ex(hg:Gd R)(h:AB w lo hi E sz R A n c xs)(e:Ex w w'):AB w' lo hi E sz R A n c xs:=h.keep hg fun b _ _ hl=>Below.block e b hl
theorem AB.only(hg:Gd R){b:Nat}(h:AB w lo hi E sz R A n c xs)(e:HH b w w')(hb:b<lo∨hi≤b):AB w' lo hi E sz R A n c xs:=
 h.keep hg fun k h1 h2 _=>e.block k (by omega)
theorem AB.grown(hg:Gd R){row:Option Nat}(h:AB w lo hi E sz R A n c xs)(e:w.grownBy w' row)(hb:∀k,row=some k→k<lo∨hi≤k):AB w' lo hi E sz R A n c xs:=
 h.keep hg fun k h1 h2 hl=>e.block k hl (fun hh=>by have:=hb k hh.symm;omega)
theorem aK.rd(hg:Gd R)(h1:n=xs.length)(h:aK w lo hi E sz R A n c xs):cD w (Iv lo w.heap.size) R sz A n c xs:=by
 obtain⟨h2,S,cells,ho,he,h3,h4⟩:=h
 obtain⟨f1,f2,hf⟩:=ho.form
 refine⟨h1,f1,⟨f2,ho.2⟩,cells,he.mono fun c x hx=>hg.wide hx fun b hb hl=>⟨(h4 b hb).1,hl⟩,?_⟩
 rcases hf with⟨hA,hn⟩ | ⟨g,hA,hlo,hlt⟩
 ·left;exact List.eq_nil_of_length_eq_zero (by omega)
 ·right
  subst hA
  exact⟨g,0,rfl,⟨hlo,hlt⟩,hlt,ho.cells⟩
theorem AB.rd(hg:Gd R)(h:AB w lo hi E sz R A n c xs):cD w (Iv lo w.heap.size) R sz A n c xs:=by
 rcases h.2 with⟨h0,hc⟩ | h2
 ·have hx:xs=[]:=List.eq_nil_of_length_eq_zero (by rw[←h.1,h0])
  subst hx;subst h0;subst hc
  exact cD.nil _ _ _ _ _ _ (by decide)
 ·exact h2.rd hg h.1
theorem AB.len(h:AB w lo hi E sz R A n c xs):n=xs.length:=h.1
theorem AB.full(h:AB w lo hi E sz R A n c xs){i:Nat}(hi':i<n):aK w lo hi E sz R A n c xs:=by
 rcases h.2 with⟨h0,_⟩ | h2
 ·omega
 ·exact h2
theorem AB.rng(h:AB w lo hi E sz R A n c xs){i:Nat}(hi':i<n):∀k,blk A=some k→lo≤k∧k<hi:=(h.full hi').1
theorem aK.more{lo' hi':Nat}(h:aK w lo hi E sz R A n c xs)(hl:lo'≤lo)(hh:hi≤hi'):aK w lo' hi' E sz R A n c xs:=by
 obtain⟨h2,S,cells,ho,he,h3,h4⟩:=h
 refine⟨fun k hk=>?_,S,cells,⟨⟨ho.1.1,?_⟩,ho.2⟩,he,h3,fun b hb=>?_⟩
 ·have:=h2 k hk;omega
 ·rcases ho.1.2 with hx | ⟨g,cap,cur,hv,hg,r⟩
  ·exact .inl hx
  ·exact .inr ⟨g,cap,cur,hv,by omega,r⟩
 ·have:=h4 b hb;omega
theorem AB.more{lo' hi':Nat}(h:AB w lo hi E sz R A n c xs)(hl:lo'≤lo)(hh:hi≤hi'):AB w lo' hi' E sz R A n c xs:=
 ⟨h.1,h.2.imp id fun h=>h.more hl hh⟩
theorem AB.nil(w:World)(lo hi E sz:Nat)(R:xH α):AB w lo hi E sz R none 0 0 []:=⟨rfl,.inl ⟨rfl,rfl⟩⟩
theorem AB.empty(w:World)(lo hi E sz:Nat)(R:xH α)(A:Option Addr):AB w lo hi E sz R A 0 0 []:=⟨rfl,.inl ⟨rfl,rfl⟩⟩
theorem AB.of_box{b:Nat}{cs:List Value}{S:Nat→Prop}(h:lE w b E cs)(hlo:lo≤b)(hbi:b<hi)(he:TB (R w S) sz cs xs)(hn:xs.length≤281474976710656)(hSb:¬S b)(hS:∀k,S k→lo≤k∧k<hi):AB w lo hi E sz R (some ⟨b,0,none⟩) xs.length xs.length xs:=
 ⟨rfl,.inr ⟨fun k hk=>by simp only[Go.X.blk,Option.some.injEq]at hk;omega,S,cs,Own.of_box h hlo he.length hn,he,fun k hk=>by simp only[Go.X.blk,Option.some.injEq]at hk;subst hk;exact hSb,hS⟩⟩
theorem AB.of_boxF{enc:α→List Value}{b:Nat}{cs:List Value}(h:lE w b E cs)(hlo:lo≤b)(hbi:b<hi)(he:TB (RF enc w fun _=>False) sz cs xs)(hn:xs.length≤281474976710656):AB w lo hi E sz (RF enc) (some ⟨b,0,none⟩) xs.length xs.length xs:=
 AB.of_box h hlo hbi he hn (fun h=>h) (fun _ h=>h.elim)
end
section
variable {α:Type}{P:Program}{o:Oper}{L:List (Nat×Value)}{w:World}{Q:Value→World→Prop}{R:xH α}
theorem UE{s x:Operand}{t E lo hi sz by_:Nat}{z:Value}{ag:Bool}{A B:Option Addr}{n c m d:Nat}{xs ys:List α}{S:Nat→Prop}{news:List Value}(hg:Gd R)(ht:P.underlying t=some (.slice E))(hE:gH P E=some (sz,by_,some z,ag))(hzs:z.cells.size=sz)(hsz:0<sz)
  (ho:o.op=.call { callee:=.builtin .append,args:=#[s,x],argTypes:=#[t,t]}) (hs:aE L s=some (.slice A n c)) (hx:aE L x=some (.slice B m d)) (hown:AB w lo hi E sz R A n c xs) (henc:TB (R w S) sz news ys) (hsrc:Src w sz B m news) (hm:m=ys.length)
  (h63:n+m≤281474976710656) (hb:(n+m)*by_≤140737488355328) (hlo:lo≤w.heap.size) (hhi:hi≤w.heap.size) (hS:∀k,S k→k<w.heap.size→hi≤k) (hlh:lo≤hi)
  (hR:∀A' c' w' row,AB w' lo w'.heap.size E sz R A' (xs++ys).length c' (xs++ys)→w.grownBy w' row→(∀k,row=some k→lo≤k∧k<hi)→Q (.slice A' (xs++ys).length c') w'):Yl P o L w Q:=by
 obtain⟨h1,h2⟩:=hown
 have hl:n+m=(xs++ys).length:=by rw[List.length_append,h1,hm]
 have hblk:∀{A' c' w' cells},Own w' lo E sz A' (xs++ys).length c' cells→∀k,blk A'=some k→lo≤k∧k<w'.heap.size:=fun hown' k hk=>by
  obtain⟨_,_,hf⟩:=hown'.form
  rcases hf with⟨hA,_⟩ | ⟨g,hA,hlo,hlt⟩
  ·rw[hA]at hk;cases hk
  ·rw[hA]at hk;simp only[blk,Option.some.injEq]at hk;subst hk;exact⟨hlo,hlt⟩
 rcases h2 with⟨hn0,hc0⟩ | ⟨h2,S0,cells,hown,he,h3,h4⟩
 ·have hx0:xs=[]:=List.eq_nil_of_length_eq_zero (by rw[←h1,hn0])
  subst hx0;subst hn0;subst hc0
  rw[List.nil_append]at hR hblk
  rw[Nat.zero_add]at h63 hb
  refine YI ht hE hzs hsz ho hs hx hsrc (henc.ones hg) h63 hb hlo (fun hm0=>?_) fun hmp A' c' w' hown' hgr hA'=>?_
  ·have hy0:ys=[]:=List.eq_nil_of_length_eq_zero (by rw[←hm,hm0])
   subst hy0
   exact hR A 0 w none (AB.empty _ _ _ _ _ _ _) ⟨rfl,rfl,rfl,Nat.le_refl _,fun _ _ _=>rfl⟩ (fun k h=>by cases h)
  ·rw[hm]at hown' ⊢
   refine hR A' c' w' none ⟨rfl,.inr ⟨hblk hown',fun b=>S b∧b<w.heap.size,_,hown',henc.mono fun c x hx=>?_,fun k hk hb=>?_,fun b hb=>⟨?_,Nat.lt_of_lt_of_le hb.2 hgr.size⟩⟩⟩ hgr (fun k h=>by cases h)
   ·exact hg.keep (hg.wide hx fun b hb hl=>⟨hb,hl⟩) (fun b hb hl=>hgr.block b hl (by intro h;cases h))
   ·rw[hA']at hk
    simp only[Option.some.injEq]at hk
    have:=hb.2
    omega
   ·have:=hS b hb.1 hb.2;omega
 ·have hSA:∀k,blk A=some k→¬S k:=fun k hk hs=>by
   have h5:=h2 k hk
   have:=hS k hs (by omega)
   omega
  refine AJ ht hE hzs hsz ho hs hx hown hsrc (henc.ones hg) h63 hb hlo fun A' c' w' hown' hgr hA'=>?_
  rw[hl]at hown' ⊢
  have hkeep0:∀{cs x},R w S0 cs x→R w' (fun b=>(S0 b∨S b)∧b<w.heap.size∧lo≤b) cs x:=fun hx=>
   hg.keep (hg.wide hx (fun b hb hl=>⟨.inl hb,hl,(h4 b hb).1⟩)) (fun b hb hl=>hgr.block b hl (fun hh=>by
    rcases hb.1 with h | h
    ·exact h3 b hh.symm h
    ·exact hSA b hh.symm h))
  have hkeep1:∀{cs x},R w S cs x→R w' (fun b=>(S0 b∨S b)∧b<w.heap.size∧lo≤b) cs x:=fun hx=>
   hg.keep (hg.wide hx (fun b hb hl=>⟨.inr hb,hl,by have:=hS b hb hl;omega⟩)) (fun b hb hl=>hgr.block b hl (fun hh=>by
    rcases hb.1 with h | h
    ·exact h3 b hh.symm h
    ·exact hSA b hh.symm h))
  refine hR A' c' w' _ ⟨rfl,.inr ⟨hblk hown',_,_,hown',(he.mono fun c x hx=>hkeep0 hx).append (henc.mono fun c x hx=>hkeep1 hx),fun k hk=>?_,fun b hb=>⟨hb.2.2,Nat.lt_of_lt_of_le hb.2.1 hgr.size⟩⟩⟩ hgr h2
  rintro⟨hb,hl,_⟩
  rcases hA' with hA' | hA'
  ·rw[hA']at hk
   rcases hb with hb | hb
   ·exact h3 k hk hb
   ·exact hSA k hk hb
  ·rw[hA']at hk
   simp only[blk,Option.some.injEq]at hk
   omega
end
end Go.X
