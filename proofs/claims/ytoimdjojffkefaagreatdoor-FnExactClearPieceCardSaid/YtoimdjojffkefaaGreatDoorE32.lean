/- Lists whose elements own memory, in no order of blocks. -/
import Derived.Test.YtoimdjojffkefaaGreatDoorE31
set_option linter.unusedVariables false
set_option linter.unusedSimpArgs false
namespace Go.X
open Go.RowKit
def HW(v u:Nat×Nat):Prop:=v.2≤u.1∨u.2≤v.1
theorem HW.symm{v u:Nat×Nat}(h:HW v u):HW u v:=Or.symm h
inductive CN {α:Type}(RO:cJ α) (w:World) (sz:Nat) (g:Option Nat) (lo hi:Nat):List (Nat×Nat)→List (List Value)→List α→Prop
 | nil:CN RO w sz g lo hi [] [] []
 | cons {v:Nat×Nat}{c:List Value}{x:α}{vs:List (Nat×Nat)}{cs:List (List Value)}{xs:List α}(h0:lo≤v.1∧v.1≤v.2∧v.2≤hi) (hl:c.length=sz) (hg:∀k,g=some k→k<v.1∨v.2≤k) (hr:RO w v.1 v.2 c x) (hd:∀u∈vs,HW v u) (hs:CN RO w sz g lo hi vs cs xs):CN RO w sz g lo hi (v::vs) (c::cs) (x::xs)
section
variable {α:Type}{RO:cJ α}{R:qJ α}{w w':World}{sz:Nat}{g g':Option Nat}{lo hi lo' hi' i:Nat}{cs:List (List Value)}{xs:List α}{vs:List (Nat×Nat)}{c:List Value}
theorem CN.len(k:CN RO w sz g lo hi vs cs xs):cs.length=xs.length∧vs.length=xs.length∧cs.flatten.length=xs.length*sz:=by
 induction k with
 | nil=>simp
 | cons h0 hl hg hr hd hs ih=>
  obtain⟨a,b,d⟩:=ih
  refine⟨by simp[a],by simp[b],?_⟩
  rw[List.flatten_cons,List.length_append,hl,d,List.length_cons,Nat.succ_mul];omega
theorem CN.in(k:CN RO w sz g lo hi vs cs xs):∀v∈vs,lo≤v.1∧v.1≤v.2∧v.2≤hi∧∀b,g=some b→b<v.1∨v.2≤b:=by
 induction k with
 | nil=>intro v hv;cases hv
 | cons h0 hl hg hr hd hs ih=>
  intro u hu
  rcases List.mem_cons.1 hu with rfl | hu
  ·exact⟨h0.1,h0.2.1,h0.2.2,hg⟩
  ·exact ih u hu
theorem CN.keepV(hG:IK RO R)(k:CN RO w sz g lo hi vs cs xs)(hk:∀v∈vs,∀b,v.1≤b→b<v.2→b<w.heap.size→w'.heap[b]? = w.heap[b]?):CN RO w' sz g lo hi vs cs xs:=by
 induction k with
 | nil=>exact .nil
 | cons h0 hl hg hr hd hs ih=>exact .cons h0 hl hg (hG.keep hr (hk _ (List.mem_cons_self ..))) hd (ih fun v hv=>hk v (List.mem_cons_of_mem _ hv))
theorem CN.keep(hG:IK RO R)(k:CN RO w sz g lo hi vs cs xs)(hk:∀b,lo≤b→b<hi→g≠some b→b<w.heap.size→w'.heap[b]? = w.heap[b]?):CN RO w' sz g lo hi vs cs xs:=
 k.keepV hG fun v hv b h1 h2 h3=>by
  obtain⟨a1,a2,a3,a4⟩:=k.in v hv
  exact hk b (by omega) (by omega) (fun e=>by have:=a4 b e;omega) h3
theorem CN.to(k:CN RO w sz g lo hi vs cs xs)(hv:∀v∈vs,lo'≤v.1∧v.2≤hi'∧∀b,g'=some b→b<v.1∨v.2≤b):CN RO w sz g' lo' hi' vs cs xs:=by
 induction k with
 | nil=>exact .nil
 | cons h0 hl hg hr hd hs ih=>
  obtain⟨a,b,d⟩:=hv _ (List.mem_cons_self ..)
  exact .cons ⟨a,h0.2.1,b⟩ hl d hr hd (ih fun v h=>hv v (List.mem_cons_of_mem _ h))
theorem CN.enc(hG:IK RO R)(hg:Gd R)(k:CN RO w sz g lo hi vs cs xs):AD (R w fun b=>lo≤b∧b<hi∧g≠some b) sz cs.flatten xs:=by
 induction k with
 | nil=>exact .nil
 | cons h0 hl hg' hr hd hs ih=>
  rw[List.flatten_cons]
  exact .cons hl (hg.wide (hG.rd hr) fun b hb _=>⟨Nat.le_trans h0.1 hb.1,Nat.lt_of_lt_of_le hb.2 h0.2.2,fun e=>by have:=hg' b e;have:=hb.1;have:=hb.2;omega⟩) ih
theorem CN.ones(hG:IK RO R)(k:CN RO w sz g lo hi vs cs xs):∀u∈cs.flatten,u.oneCell'=true:=by
 induction k with
 | nil=>intro u hu;cases hu
 | cons h0 hl hg' hr hd hs ih=>
  intro u hu
  rw[List.flatten_cons]at hu
  rcases List.mem_append.1 hu with hu | hu
  ·exact List.all_eq_true.1 (hG.one hr) u hu
  ·exact ih u hu
end
def jI{α:Type}(w:World)(lo hi E sz:Nat)(RO:cJ α)(A:Option Addr)(n c:Nat)(xs:List α):Prop:=
 n=xs.length∧((n=0∧c=0)∨∃cells vs,Own w lo E sz A n c cells.flatten∧(∀k,blk A=some k→lo≤k∧k<hi)∧CN RO w sz (blk A) lo hi vs cells xs)
section
variable {α:Type}{RO:cJ α}{R:qJ α}{w w':World}{lo hi E sz n c i:Nat}{A:Option Addr}{xs:List α}
theorem jI.len(h:jI w lo hi E sz RO A n c xs):n=xs.length:=h.1
theorem jI.fix(h:jI w lo hi E sz RO A n c xs):jI w lo hi E sz RO A xs.length c xs:=by
 obtain rfl:=h.1
 exact h
theorem jI.nil(w:World)(lo hi E sz:Nat)(RO:cJ α):jI w lo hi E sz RO none 0 0 []:=⟨rfl,.inl ⟨rfl,rfl⟩⟩
theorem jI.empty(w:World)(lo hi E sz:Nat)(RO:cJ α)(A:Option Addr):jI w lo hi E sz RO A 0 0 []:=⟨rfl,.inl ⟨rfl,rfl⟩⟩
theorem jI.own(hG:IK RO R)(hg:Gd R)(h:jI w lo hi E sz RO A n c xs):lB w lo hi E sz R A n c xs:=
 ⟨h.1,h.2.imp id fun⟨cells,vs,ho,hb,hc⟩=>⟨hb,fun b=>lo≤b∧b<hi∧blk A≠some b,_,ho,hc.enc hG hg,fun k hk hh=>hh.2.2 hk,fun b hb=>⟨hb.1,hb.2.1⟩⟩⟩
theorem jI.keep(hG:IK RO R)(h:jI w lo hi E sz RO A n c xs)(hk:∀b,lo≤b→b<hi→b<w.heap.size→w'.heap[b]? = w.heap[b]?):jI w' lo hi E sz RO A n c xs:=by
 refine⟨h.1,h.2.imp id fun⟨cells,vs,ho,hb,hc⟩=>⟨cells,vs,ho.keep fun k e=>?_,hb,hc.keep hG fun b h1 h2 _ h3=>hk b h1 h2 h3⟩⟩
 obtain⟨_,_,hf⟩:=ho.form
 obtain⟨k1,k2⟩:=hb k e
 rcases hf with⟨hA,_⟩ | ⟨g',hA,_,hlt⟩
 ·subst hA;cases e
 ·subst hA
  simp only[blk,Option.some.injEq]at e
  subst e
  exact hk _ k1 k2 hlt
theorem jI.ex(hG:IK RO R)(h:jI w lo hi E sz RO A n c xs)(e:Ex w w'):jI w' lo hi E sz RO A n c xs:=h.keep hG fun b _ _ hl=>Below.block e b hl
theorem jI.only(hG:IK RO R){b:Nat}(h:jI w lo hi E sz RO A n c xs)(e:sK b w w')(hb:b<lo∨hi≤b):jI w' lo hi E sz RO A n c xs:=h.keep hG fun k h1 h2 _=>e.block k (by omega)
theorem jI.grown(hG:IK RO R){row:Option Nat}(h:jI w lo hi E sz RO A n c xs)(e:w.grownBy w' row)(hb:∀k,row=some k→k<lo∨hi≤k):jI w' lo hi E sz RO A n c xs:=h.keep hG fun k h1 h2 h3=>e.block k h3 (fun hh=>by have:=hb k hh.symm;omega)
theorem jI.chg(hG:IK RO R){p:Nat→Prop}(h:jI w lo hi E sz RO A n c xs)(e:TJ p w w')(hp:∀b,b<w.heap.size→p b→b<lo∨hi≤b):jI w' lo hi E sz RO A n c xs:=h.keep hG fun b h1 h2 hl=>e.block b hl fun hh=>by have:=hp b hl hh;omega
theorem jI.mut(hG:IK RO R){r:List (Nat×Nat)}(h:jI w lo hi E sz RO A n c xs)(e:jG r w w')(hd:∀k,JK r k→k<lo∨hi≤k):jI w' lo hi E sz RO A n c xs:=
 e.carry (F:=fun w=>jI w lo hi E sz RO A n c xs) h (fun _ _ h e=>h.ex hG e) (fun _ _ k h e hk=>h.only hG e (hd k hk))
theorem jI.more{lo' hi':Nat}(h:jI w lo hi E sz RO A n c xs)(hl:lo'≤lo)(hh:hi≤hi'):jI w lo' hi' E sz RO A n c xs:=
 ⟨h.1,h.2.imp id fun⟨cells,vs,ho,hb,hc⟩=>⟨cells,vs,⟨⟨ho.1.1,by
  rcases ho.1.2 with hx | ⟨g,cap,cur,hv,hg,r⟩
  ·exact .inl hx
  ·exact .inr ⟨g,cap,cur,hv,by omega,r⟩⟩,ho.2⟩,fun k hk=>by have:=hb k hk;omega,hc.to fun v hv=>by
   obtain⟨a1,a2,a3,a4⟩:=hc.in v hv
   exact⟨by omega,by omega,a4⟩⟩⟩
def iM{α:Type}(w:World)(lo hi E sz:Nat)(RO:cJ α)(A:Option Addr)(n c:Nat)(xs:List α)(i:Nat)(v:Nat×Nat)(e:List Value):Prop:=
 n=xs.length∧i<n∧e.length=sz∧∃ds us,Own w lo E sz A n c (ds.take i++e::ds.drop i).flatten∧(∀k,blk A=some k→(lo≤k∧k<hi)∧(k<v.1∨v.2≤k))∧CN RO w sz (blk A) lo hi us ds (xs.eraseIdx i)∧∀u∈us,HW v u
theorem iM.cells{g:Nat}{v:Nat×Nat}{e:List Value}(h:iM w lo hi E sz RO (some ⟨g,0,none⟩) n c xs i v e):eG w g (0+i*sz) e:=by
 obtain⟨h0,h1,h2,ds,us,ho,hb,hc,hd⟩:=h
 have her:(xs.eraseIdx i).length=xs.length-1:=List.length_eraseIdx_of_lt (by omega)
 have hlen:=hc.len
 intro j u hu
 have hj:j<e.length:=by
  rcases Nat.lt_or_ge j e.length with h | h
  ·exact h
  ·rw[List.getElem?_eq_none h]at hu;cases hu
 have hpre:(ds.take i).flatten.length=i*sz:=by
  have hs:∀{vs:List (Nat×Nat)}{cs:List (List Value)}{ys:List α},CN RO w sz (some g) lo hi vs cs ys→∀d∈cs,d.length=sz:=by
   intro vs cs ys k
   induction k with
   | nil=>intro d hd;cases hd
   | cons h0 hl hg hr hd hs ih=>
    intro d hd
    rcases List.mem_cons.1 hd with rfl | hd
    ·exact hl
    ·exact ih d hd
  have hall:∀(cs:List (List Value)),(∀d∈cs,d.length=sz)→cs.flatten.length=cs.length*sz:=by
   intro cs
   induction cs with
   | nil=>intro _;simp
   | cons d cs ih=>
    intro h
    rw[List.flatten_cons,List.length_append,h d (List.mem_cons_self ..),ih fun d hd=>h d (List.mem_cons_of_mem _ hd),List.length_cons,Nat.succ_mul];omega
  rw[hall _ fun d hd=>hs hc d (List.mem_of_mem_take hd),List.length_take,Nat.min_eq_left (by omega)]
 have:=ho.cells (i*sz+j) u (by
  rw[List.flatten_append,List.flatten_cons,List.getElem?_append_right (by omega),hpre,Nat.add_sub_cancel_left,List.getElem?_append_left hj]
  exact hu)
 simpa [Nat.add_assoc]using this
theorem iM.keep(hG:IK RO R){v:Nat×Nat}{e:List Value}(h:iM w lo hi E sz RO A n c xs i v e)(hk:∀b,lo≤b→b<hi→(b<v.1∨v.2≤b)→b<w.heap.size→w'.heap[b]? = w.heap[b]?):iM w' lo hi E sz RO A n c xs i v e:=by
 obtain⟨h0,h1,h2,ds,us,ho,hb,hc,hd⟩:=h
 refine⟨h0,h1,h2,ds,us,ho.keep fun k e=>?_,hb,hc.keepV hG fun u hu b b1 b2 b3=>?_,hd⟩
 ·obtain⟨_,_,hf⟩:=ho.form
  obtain⟨⟨k1,k2⟩,k3⟩:=hb k e
  rcases hf with⟨hA,_⟩ | ⟨g',hA,_,hlt⟩
  ·subst hA;cases e
  ·subst hA
   simp only[blk,Option.some.injEq]at e
   subst e
   exact hk _ k1 k2 k3 hlt
 ·obtain⟨a1,a2,a3,_⟩:=hc.in u hu
  have:=hd u hu
  unfold HW at this
  exact hk b (by omega) (by omega) (by omega) b3
theorem iM.ex(hG:IK RO R){v:Nat×Nat}{e:List Value}(h:iM w lo hi E sz RO A n c xs i v e)(x:Ex w w'):iM w' lo hi E sz RO A n c xs i v e:=h.keep hG fun b _ _ _ hl=>Below.block x b hl
theorem iM.chg(hG:IK RO R){p:Nat→Prop}{v:Nat×Nat}{e:List Value}(h:iM w lo hi E sz RO A n c xs i v e)(x:TJ p w w')(hp:∀b,b<w.heap.size→p b→b<lo∨hi≤b∨(v.1≤b∧b<v.2)):iM w' lo hi E sz RO A n c xs i v e:=h.keep hG fun b h1 h2 h3 hl=>x.block b hl fun hh=>by have:=hp b hl hh;omega
theorem iM.grown(hG:IK RO R){row:Option Nat}{v:Nat×Nat}{e:List Value}(h:iM w lo hi E sz RO A n c xs i v e)(x:w.grownBy w' row)(hp:∀b,row=some b→b<lo∨hi≤b∨(v.1≤b∧b<v.2)):iM w' lo hi E sz RO A n c xs i v e:=h.keep hG fun b h1 h2 h3 hl=>x.block b hl fun hh=>by have:=hp b hh.symm;omega
end
section
variable {α:Type}{P:Program}{o:Oper}{L:List (Nat×Value)}{w:World}{Q:Value→World→Prop}{RO:cJ α}{R:qJ α}
end
/-! ### elements as bare cells -/
section
variable {α:Type}{RO:cJ α}{R:qJ α}{w w':World}{lo hi E sz n c i:Nat}{A:Option Addr}{xs:List α}{g:Option Nat}{vs:List (Nat×Nat)}{cells:List (List Value)}
theorem jI.cap(h:jI w lo hi E sz RO A n c xs):c≤maxLen∧n≤c∧n≤281474976710656:=by
 obtain⟨h0,h2⟩:=h
 rcases h2 with⟨h1,h2⟩ | ⟨cells,vs,ho,hb,hc⟩
 ·subst h1;subst h2;exact⟨by decide,by decide,by decide⟩
 ·obtain⟨a,b,_⟩:=ho.form
  exact⟨b,a,ho.2⟩
end
theorem LA:type_of% @Below.only:=@Below.only
theorem mA:type_of% @fF.ex:=@fF.ex
theorem JH:type_of% @fF.grown:=@fF.grown
theorem CH:type_of% @fF.lt:=@fF.lt
theorem mG:type_of% @fF.mut:=@fF.mut
theorem SB:type_of% @fF.only:=@fF.only
theorem wA:type_of% @CW.block:=@CW.block
theorem kA:type_of% @CW.cond_f:=@CW.cond_f
theorem iA:type_of% @CW.cond_t:=@CW.cond_t
theorem KH:type_of% @CW.drawsI:=@CW.drawsI
theorem vB:type_of% @CW.exit:=@CW.exit
theorem EB:type_of% @CW.loop:=@CW.loop
theorem oA:type_of% @CW.region:=@CW.region
theorem jA:type_of% @CW.ret:=@CW.ret
theorem cA:type_of% @CW.seq:=@CW.seq
theorem qA:type_of% @CW.skip:=@CW.skip
theorem RA:type_of% @CW.sub:=@CW.sub
theorem nA:type_of% @yE.mono:=@yE.mono
theorem SA:type_of% @yE.of:=@yE.of
theorem zD:type_of% @eG.ex:=@eG.ex
theorem OD:type_of% @TJ.of_ex:=@TJ.of_ex
theorem DH:type_of% @Ex.mut:=@Ex.mut
theorem pA:type_of% @Ex.refl:=@Ex.refl
theorem bA:type_of% @Ex.size:=@Ex.size
theorem aA:type_of% @Ex.trans:=@Ex.trans
theorem tD:type_of% @Gh.ufh:=@Gh.ufh
theorem uD:type_of% @Gh.ufl:=@Gh.ufl
theorem RB:type_of% @TO.det:=@TO.det
theorem UF:type_of% @jG.size:=@jG.size
theorem KA:type_of% @fK.op':=@fK.op'
theorem nC:type_of% @fK.want:=@fK.want
theorem WC:type_of% @lB.chg:=@lB.chg
theorem uA:type_of% @lB.ex:=@lB.ex
theorem LH:type_of% @lB.keep:=@lB.keep
theorem MG:type_of% @lB.len:=@lB.len
theorem mF:type_of% @lB.more:=@lB.more
theorem pD:type_of% @lB.nil:=@lB.nil
theorem VB:type_of% @lB.only:=@lB.only
theorem YA:type_of% @lB.rd:=@lB.rd
theorem NH:type_of% @lB.rdI:=@lB.rdI
theorem NG:type_of% @lB.rng:=@lB.rng
theorem EH:type_of% @RF.good:=@RF.good
theorem tC:type_of% @IC.aD:=@IC.aD
theorem bE:type_of% @IC.atD:=@IC.atD
theorem hC:type_of% @IC.big:=@IC.big
theorem FA:type_of% @IC.ex:=@IC.ex
theorem OH:type_of% @IC.keep:=@IC.keep
theorem bG:type_of% @IC.src:=@IC.src
theorem GA:type_of% @IC.up:=@IC.up
theorem YD:type_of% @IC.wide:=@IC.wide
theorem sB:type_of% @iF.d1:=@iF.d1
theorem tA:type_of% @iF.done:=@iF.done
theorem xB:type_of% @iF.u:=@iF.u
theorem MB:type_of% @zL.det:=@zL.det
theorem FD:type_of% @Sub.nil:=@Sub.nil
theorem JB:type_of% @Yl.sameG:=@Yl.sameG
theorem kC:type_of% @Yl.sameI:=@Yl.sameI
theorem JA:type_of% @BA.cont:=@BA.cont
theorem mB:type_of% @BA.ret:=@BA.ret
theorem iB:type_of% @BA.stop:=@BA.stop
theorem PH:type_of% @BE.cont:=@BE.cont
theorem VC:type_of% @okE.append:=@okE.append
theorem VF:type_of% @okE.cons:=@okE.cons
theorem RC:type_of% @okE.nil:=@okE.nil
theorem fB:type_of% @WE.getD:=@WE.getD
theorem dC:type_of% @WE.mk:=@WE.mk
theorem cE:type_of% @WE.nil:=@WE.nil
theorem OG:type_of% @WE.take:=@WE.take
theorem pC:type_of% @sE.lit:=@sE.lit
end Go.X
