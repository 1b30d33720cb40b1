/- Lists whose elements own memory, in no order of blocks. -/
import Derived.Test.YtoimdjojffkefaaGreatDoorE31
set_option linter.unusedVariables false
set_option linter.unusedSimpArgs false
namespace Go.X
open Go.RowKit
def iX(v u:Nat×Nat):Prop:=v.2≤u.1∨u.2≤v.1
theorem iX.symm{v u:Nat×Nat}(h:iX v u):iX u v:=Or.symm h
inductive BO {α:Type}(RO:fJ α) (w:World) (sz:Nat) (g:Option Nat) (lo hi:Nat):List (Nat×Nat)→List (List Value)→List α→Prop
 | nil:BO RO w sz g lo hi [] [] []
 | cons {v:Nat×Nat}{c:List Value}{x:α}{vs:List (Nat×Nat)}{cs:List (List Value)}{xs:List α}(h0:lo≤v.1∧v.1≤v.2∧v.2≤hi) (hl:c.length=sz) (hg:∀k,g=some k→k<v.1∨v.2≤k) (hr:RO w v.1 v.2 c x) (hd:∀u∈vs,iX v u) (hs:BO RO w sz g lo hi vs cs xs):BO RO w sz g lo hi (v::vs) (c::cs) (x::xs)
section
variable {α:Type}{RO:fJ α}{R:tJ α}{w w':World}{sz:Nat}{g g':Option Nat}{lo hi lo' hi' i:Nat}{cs:List (List Value)}{xs:List α}{vs:List (Nat×Nat)}{c:List Value}
theorem BO.len(k:BO RO w sz g lo hi vs cs xs):cs.length=xs.length∧vs.length=xs.length∧cs.flatten.length=xs.length*sz:=by
 induction k with
 | nil=>simp
 | cons h0 hl hg hr hd hs ih=>
  obtain⟨a,b,d⟩:=ih
  refine⟨by simp[a],by simp[b],?_⟩
  rw[List.flatten_cons,List.length_append,hl,d,List.length_cons,Nat.succ_mul];omega
theorem BO.in(k:BO RO w sz g lo hi vs cs xs):∀v∈vs,lo≤v.1∧v.1≤v.2∧v.2≤hi∧∀b,g=some b→b<v.1∨v.2≤b:=by
 induction k with
 | nil=>intro v hv;cases hv
 | cons h0 hl hg hr hd hs ih=>
  intro u hu
  rcases List.mem_cons.1 hu with rfl | hu
  ·exact⟨h0.1,h0.2.1,h0.2.2,hg⟩
  ·exact ih u hu
theorem BO.keepV(hG:ML RO R)(k:BO RO w sz g lo hi vs cs xs)(hk:∀v∈vs,∀b,v.1≤b→b<v.2→b<w.heap.size→w'.heap[b]? = w.heap[b]?):BO RO w' sz g lo hi vs cs xs:=by
 induction k with
 | nil=>exact .nil
 | cons h0 hl hg hr hd hs ih=>exact .cons h0 hl hg (hG.keep hr (hk _ (List.mem_cons_self ..))) hd (ih fun v hv=>hk v (List.mem_cons_of_mem _ hv))
theorem BO.keep(hG:ML RO R)(k:BO RO w sz g lo hi vs cs xs)(hk:∀b,lo≤b→b<hi→g≠some b→b<w.heap.size→w'.heap[b]? = w.heap[b]?):BO RO w' sz g lo hi vs cs xs:=
 k.keepV hG fun v hv b h1 h2 h3=>by
  obtain⟨a1,a2,a3,a4⟩:=k.in v hv
  exact hk b (by omega) (by omega) (fun e=>by have:=a4 b e;omega) h3
theorem BO.to(k:BO RO w sz g lo hi vs cs xs)(hv:∀v∈vs,lo'≤v.1∧v.2≤hi'∧∀b,g'=some b→b<v.1∨v.2≤b):BO RO w sz g' lo' hi' vs cs xs:=by
 induction k with
 | nil=>exact .nil
 | cons h0 hl hg hr hd hs ih=>
  obtain⟨a,b,d⟩:=hv _ (List.mem_cons_self ..)
  exact .cons ⟨a,h0.2.1,b⟩ hl d hr hd (ih fun v h=>hv v (List.mem_cons_of_mem _ h))
theorem BO.ones(hG:ML RO R)(k:BO RO w sz g lo hi vs cs xs):∀u∈cs.flatten,u.oneCell'=true:=by
 induction k with
 | nil=>intro u hu;cases hu
 | cons h0 hl hg' hr hd hs ih=>
  intro u hu
  rw[List.flatten_cons]at hu
  rcases List.mem_append.1 hu with hu | hu
  ·exact List.all_eq_true.1 (hG.one hr) u hu
  ·exact ih u hu
end
def tI{α:Type}(w:World)(lo hi E sz:Nat)(RO:fJ α)(A:Option Addr)(n c:Nat)(xs:List α):Prop:=
 n=xs.length∧((n=0∧c=0)∨∃cells vs,Own w lo E sz A n c cells.flatten∧(∀k,blk A=some k→lo≤k∧k<hi)∧BO RO w sz (blk A) lo hi vs cells xs)
section
variable {α:Type}{RO:fJ α}{R:tJ α}{w w':World}{lo hi E sz n c i:Nat}{A:Option Addr}{xs:List α}
theorem tI.len(h:tI w lo hi E sz RO A n c xs):n=xs.length:=h.1
theorem tI.fix(h:tI w lo hi E sz RO A n c xs):tI w lo hi E sz RO A xs.length c xs:=by
 obtain rfl:=h.1
 exact h
theorem tI.nil(w:World)(lo hi E sz:Nat)(RO:fJ α):tI w lo hi E sz RO none 0 0 []:=⟨rfl,.inl ⟨rfl,rfl⟩⟩
theorem tI.empty(w:World)(lo hi E sz:Nat)(RO:fJ α)(A:Option Addr):tI w lo hi E sz RO A 0 0 []:=⟨rfl,.inl ⟨rfl,rfl⟩⟩
theorem tI.keep(hG:ML RO R)(h:tI w lo hi E sz RO A n c xs)(hk:∀b,lo≤b→b<hi→b<w.heap.size→w'.heap[b]? = w.heap[b]?):tI w' lo hi E sz RO A n c xs:=by
 refine⟨h.1,h.2.imp id fun⟨cells,vs,ho,hb,hc⟩=>⟨cells,vs,ho.keep fun k e=>?_,hb,hc.keep hG fun b h1 h2 _ h3=>hk b h1 h2 h3⟩⟩
 obtain⟨_,_,hf⟩:=ho.form
 obtain⟨k1,k2⟩:=hb k e
 rcases hf with⟨hA,_⟩ | ⟨g',hA,_,hlt⟩
 ·subst hA;cases e
 ·subst hA
  simp only[blk,Option.some.injEq]at e
  subst e
  exact hk _ k1 k2 hlt
theorem tI.ex(hG:ML RO R)(h:tI w lo hi E sz RO A n c xs)(e:Ex w w'):tI w' lo hi E sz RO A n c xs:=h.keep hG fun b _ _ hl=>Below.block e b hl
theorem tI.only(hG:ML RO R){b:Nat}(h:tI w lo hi E sz RO A n c xs)(e:UK b w w')(hb:b<lo∨hi≤b):tI w' lo hi E sz RO A n c xs:=h.keep hG fun k h1 h2 _=>e.block k (by omega)
theorem tI.grown(hG:ML RO R){row:Option Nat}(h:tI w lo hi E sz RO A n c xs)(e:w.grownBy w' row)(hb:∀k,row=some k→k<lo∨hi≤k):tI w' lo hi E sz RO A n c xs:=h.keep hG fun k h1 h2 h3=>e.block k h3 (fun hh=>by have:=hb k hh.symm;omega)
theorem tI.chg(hG:ML RO R){p:Nat→Prop}(h:tI w lo hi E sz RO A n c xs)(e:jK p w w')(hp:∀b,b<w.heap.size→p b→b<lo∨hi≤b):tI w' lo hi E sz RO A n c xs:=h.keep hG fun b h1 h2 hl=>e.block b hl fun hh=>by have:=hp b hl hh;omega
theorem tI.mut(hG:ML RO R){r:List (Nat×Nat)}(h:tI w lo hi E sz RO A n c xs)(e:qG r w w')(hd:∀k,kK r k→k<lo∨hi≤k):tI w' lo hi E sz RO A n c xs:=
 e.carry (F:=fun w=>tI w lo hi E sz RO A n c xs) h (fun _ _ h e=>h.ex hG e) (fun _ _ k h e hk=>h.only hG e (hd k hk))
theorem tI.more{lo' hi':Nat}(h:tI w lo hi E sz RO A n c xs)(hl:lo'≤lo)(hh:hi≤hi'):tI w lo' hi' E sz RO A n c xs:=
 ⟨h.1,h.2.imp id fun⟨cells,vs,ho,hb,hc⟩=>⟨cells,vs,⟨⟨ho.1.1,by
  rcases ho.1.2 with hx | ⟨g,cap,cur,hv,hg,r⟩
  ·exact .inl hx
  ·exact .inr ⟨g,cap,cur,hv,by omega,r⟩⟩,ho.2⟩,fun k hk=>by have:=hb k hk;omega,hc.to fun v hv=>by
   obtain⟨a1,a2,a3,a4⟩:=hc.in v hv
   exact⟨by omega,by omega,a4⟩⟩⟩
def qM{α:Type}(w:World)(lo hi E sz:Nat)(RO:fJ α)(A:Option Addr)(n c:Nat)(xs:List α)(i:Nat)(v:Nat×Nat)(e:List Value):Prop:=
 n=xs.length∧i<n∧e.length=sz∧∃ds us,Own w lo E sz A n c (ds.take i++e::ds.drop i).flatten∧(∀k,blk A=some k→(lo≤k∧k<hi)∧(k<v.1∨v.2≤k))∧BO RO w sz (blk A) lo hi us ds (xs.eraseIdx i)∧∀u∈us,iX v u
theorem qM.cells{g:Nat}{v:Nat×Nat}{e:List Value}(h:qM w lo hi E sz RO (some ⟨g,0,none⟩) n c xs i v e):UF w g (0+i*sz) e:=by
 obtain⟨h0,h1,h2,ds,us,ho,hb,hc,hd⟩:=h
 have her:(xs.eraseIdx i).length=xs.length-1:=List.length_eraseIdx_of_lt (by omega)
 have hlen:=hc.len
 intro j u hu
 have hj:j<e.length:=by
  rcases Nat.lt_or_ge j e.length with h | h
  ·exact h
  ·rw[List.getElem?_eq_none h]at hu;cases hu
 have hpre:(ds.take i).flatten.length=i*sz:=by
  have hs:∀{vs:List (Nat×Nat)}{cs:List (List Value)}{ys:List α},BO RO w sz (some g) lo hi vs cs ys→∀d∈cs,d.length=sz:=by
   intro vs cs ys k
   induction k with
   | nil=>intro d hd;cases hd
   | cons h0 hl hg hr hd hs ih=>
    intro d hd
    rcases List.mem_cons.1 hd with rfl | hd
    ·exact hl
    ·exact ih d hd
  have hall:∀(cs:List (List Value)),(∀d∈cs,d.length=sz)→cs.flatten.length=cs.length*sz:=by
   intro cs
   induction cs with
   | nil=>intro _;simp
   | cons d cs ih=>
    intro h
    rw[List.flatten_cons,List.length_append,h d (List.mem_cons_self ..),ih fun d hd=>h d (List.mem_cons_of_mem _ hd),List.length_cons,Nat.succ_mul];omega
  rw[hall _ fun d hd=>hs hc d (List.mem_of_mem_take hd),List.length_take,Nat.min_eq_left (by omega)]
 have:=ho.cells (i*sz+j) u (by
  rw[List.flatten_append,List.flatten_cons,List.getElem?_append_right (by omega),hpre,Nat.add_sub_cancel_left,List.getElem?_append_left hj]
  exact hu)
 simpa [Nat.add_assoc]using this
theorem qM.keep(hG:ML RO R){v:Nat×Nat}{e:List Value}(h:qM w lo hi E sz RO A n c xs i v e)(hk:∀b,lo≤b→b<hi→(b<v.1∨v.2≤b)→b<w.heap.size→w'.heap[b]? = w.heap[b]?):qM w' lo hi E sz RO A n c xs i v e:=by
 obtain⟨h0,h1,h2,ds,us,ho,hb,hc,hd⟩:=h
 refine⟨h0,h1,h2,ds,us,ho.keep fun k e=>?_,hb,hc.keepV hG fun u hu b b1 b2 b3=>?_,hd⟩
 ·obtain⟨_,_,hf⟩:=ho.form
  obtain⟨⟨k1,k2⟩,k3⟩:=hb k e
  rcases hf with⟨hA,_⟩ | ⟨g',hA,_,hlt⟩
  ·subst hA;cases e
  ·subst hA
   simp only[blk,Option.some.injEq]at e
   subst e
   exact hk _ k1 k2 k3 hlt
 ·obtain⟨a1,a2,a3,_⟩:=hc.in u hu
  have:=hd u hu
  unfold iX at this
  exact hk b (by omega) (by omega) (by omega) b3
theorem qM.ex(hG:ML RO R){v:Nat×Nat}{e:List Value}(h:qM w lo hi E sz RO A n c xs i v e)(x:Ex w w'):qM w' lo hi E sz RO A n c xs i v e:=h.keep hG fun b _ _ _ hl=>Below.block x b hl
theorem qM.chg(hG:ML RO R){p:Nat→Prop}{v:Nat×Nat}{e:List Value}(h:qM w lo hi E sz RO A n c xs i v e)(x:jK p w w')(hp:∀b,b<w.heap.size→p b→b<lo∨hi≤b∨(v.1≤b∧b<v.2)):qM w' lo hi E sz RO A n c xs i v e:=h.keep hG fun b h1 h2 h3 hl=>x.block b hl fun hh=>by have:=hp b hl hh;omega
theorem qM.grown(hG:ML RO R){row:Option Nat}{v:Nat×Nat}{e:List Value}(h:qM w lo hi E sz RO A n c xs i v e)(x:w.grownBy w' row)(hp:∀b,row=some b→b<lo∨hi≤b∨(v.1≤b∧b<v.2)):qM w' lo hi E sz RO A n c xs i v e:=h.keep hG fun b h1 h2 h3 hl=>x.block b hl fun hh=>by have:=hp b hh.symm;omega
end
section
variable {α:Type}{P:Program}{o:Oper}{L:List (Nat×Value)}{w:World}{Q:Value→World→Prop}{RO:fJ α}{R:tJ α}
end
/-! ### elements as bare cells -/
section
variable {α:Type}{RO:fJ α}{R:tJ α}{w w':World}{lo hi E sz n c i:Nat}{A:Option Addr}{xs:List α}{g:Option Nat}{vs:List (Nat×Nat)}{cells:List (List Value)}
theorem tI.cap(h:tI w lo hi E sz RO A n c xs):c≤maxLen∧n≤c∧n≤281474976710656:=by
 obtain⟨h0,h2⟩:=h
 rcases h2 with⟨h1,h2⟩ | ⟨cells,vs,ho,hb,hc⟩
 ·subst h1;subst h2;exact⟨by decide,by decide,by decide⟩
 ·obtain⟨a,b,_⟩:=ho.form
  exact⟨b,a,ho.2⟩
end
theorem LA:type_of% @Below.only:=@Below.only
theorem cA:type_of% @MF.ex:=@MF.ex
theorem FB:type_of% @MF.grown:=@MF.grown
theorem CF:type_of% @MF.lt:=@MF.lt
theorem jH:type_of% @MF.mut:=@MF.mut
theorem MA:type_of% @MF.only:=@MF.only
theorem DA:type_of% @CW.block:=@CW.block
theorem gA:type_of% @CW.cond_f:=@CW.cond_f
theorem jA:type_of% @CW.cond_t:=@CW.cond_t
theorem oH:type_of% @CW.drawsI:=@CW.drawsI
theorem CB:type_of% @CW.exit:=@CW.exit
theorem EB:type_of% @CW.loop:=@CW.loop
theorem nA:type_of% @CW.region:=@CW.region
theorem kA:type_of% @CW.ret:=@CW.ret
theorem dA:type_of% @CW.seq:=@CW.seq
theorem qA:type_of% @CW.skip:=@CW.skip
theorem UA:type_of% @CW.sub:=@CW.sub
theorem mA:type_of% @rE.mono:=@rE.mono
theorem RA:type_of% @rE.of:=@rE.of
theorem dD:type_of% @UF.ex:=@UF.ex
theorem pH:type_of% @Ex.mut:=@Ex.mut
theorem tA:type_of% @Ex.refl:=@Ex.refl
theorem iA:type_of% @Ex.size:=@Ex.size
theorem aA:type_of% @Ex.trans:=@Ex.trans
theorem KH:type_of% @cP.det:=@cP.det
theorem HE:type_of% @qG.size:=@qG.size
theorem kB:type_of% @lK.op':=@lK.op'
theorem ZB:type_of% @lK.want:=@lK.want
theorem qH:type_of% @fB.empty:=@fB.empty
theorem xA:type_of% @fB.ex:=@fB.ex
theorem LH:type_of% @fB.keep:=@fB.keep
theorem YG:type_of% @fB.len:=@fB.len
theorem zG:type_of% @fB.mut:=@fB.mut
theorem dC:type_of% @fB.nil:=@fB.nil
theorem rD:type_of% @fB.of_box:=@fB.of_box
theorem xB:type_of% @fB.only:=@fB.only
theorem dB:type_of% @fB.rd:=@fB.rd
theorem AG:type_of% @fB.rng:=@fB.rng
theorem YH:type_of% @RF.good:=@RF.good
theorem aC:type_of% @rC.aD:=@rC.aD
theorem jE:type_of% @rC.atD:=@rC.atD
theorem kC:type_of% @rC.big:=@rC.big
theorem BG:type_of% @rC.drop:=@rC.drop
theorem rA:type_of% @rC.ex:=@rC.ex
theorem PH:type_of% @rC.keep:=@rC.keep
theorem VH:type_of% @rC.sl:=@rC.sl
theorem aG:type_of% @rC.src:=@rC.src
theorem uA:type_of% @rC.up:=@rC.up
theorem zE:type_of% @rC.wide:=@rC.wide
theorem BB:type_of% @WE.d1:=@WE.d1
theorem vA:type_of% @WE.done:=@WE.done
theorem sB:type_of% @WE.u:=@WE.u
theorem QA:type_of% @BL.det:=@BL.det
theorem oF:type_of% @Sub.nil:=@Sub.nil
theorem vH:type_of% @Yl.sameG:=@Yl.sameG
theorem jC:type_of% @Yl.sameI:=@Yl.sameI
theorem JA:type_of% @GA.cont:=@GA.cont
theorem mB:type_of% @GA.ret:=@GA.ret
theorem gB:type_of% @GA.stop:=@GA.stop
theorem BC:type_of% @okE.append:=@okE.append
theorem PD:type_of% @okE.cons:=@okE.cons
theorem oC:type_of% @okE.nil:=@okE.nil
theorem wH:type_of% @SF.drop:=@SF.drop
theorem VA:type_of% @SF.getD:=@SF.getD
theorem UB:type_of% @SF.mk:=@SF.mk
theorem XC:type_of% @SF.nil:=@SF.nil
theorem CG:type_of% @SF.take:=@SF.take
theorem jD:type_of% @PF.lit:=@PF.lit
end Go.X
