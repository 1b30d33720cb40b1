/- Shorter words: what stands at a drawing region's temps, a loop's temps as one list, bounds. -/
import Derived.Test.YtjgimhdmpcincaaGreatDoorE30
set_option linter.unusedVariables false
set_option linter.unusedSimpArgs false
namespace Go.X
open Go.RowKit
def Qb(ops:List Oper)(L0:List (Nat×Value))(vs:List Value)(i:Nat)(o:Oper)(d:Nat):Option Value:=
 match (OJ o).find? (fun j=>match (ops[j]?).bind (·.dst)with | some e=>Nat.beq e d | none=>false)with
 | some j=>vs[j]?
 | none=>bif gV i d ops then jK L0 d else none
def wZ:Nat→List Oper→List Value→Nat→Option Value
 | m+1,o::ops,v::vs,d=>match o.dst with
  | some e=>bif Nat.beq e d then some v else wZ m ops vs d
  | none=>wZ m ops vs d
 | _,_,_,_=>none
def Rb(ops:List Oper)(m:Nat)(L0:List (Nat×Value))(vs:List Value)(d:Nat):Option Value:=
 match wZ m ops vs d with
 | some v=>some v
 | none=>bif Qa d (ops.take m)then jK L0 d else none
def CY(f:Nat→Option Value):List Nat→Option (List (Nat×Value))
 | []=>some []
 | d::ds=>match f d,CY f ds with
  | some v,some l=>some ((d,v)::l)
  | _,_=>none
theorem Sub.of{f:Nat→Option Value}{L:List (Nat×Value)}(hf:∀d v,f d=some v→jK L d=some v):∀(ds:List Nat) (L':List (Nat×Value)),CY f ds=some L'→Sub L' L
 | [],L',h=>by cases h;exact Sub.nil L
 | d::ds,L',h=>by
  unfold CY at h
  split at h
  ·rename_i v l h1 h2
   cases h
   exact Sub.cons (hf d v h1) (Sub.of hf ds l h2)
  ·cases h
theorem sR{L' L:List (Nat×Value)}(h:CY (jK L) (L'.map (·.1))=some L'):Sub L' L:=Sub.of (fun _ _ h=>h) _ _ h
section
variable {ops:List Oper}{o:Oper}{L0 L:List (Nat×Value)}{w0 w:World}{vs:List Value}{i:Nat}
theorem XL.g{c:Value}(h:XL ops L0 w0 (yH (vs.map bE)) i o L w)(d:Nat)(hh:Qb ops L0 vs i o d=some c):jK L d=some c:=by
 unfold Qb at hh
 split at hh
 ·rename_i j hj
  have h1:=List.find?_some hj
  have h2:j∈OJ o:=List.mem_of_find?_eq_some hj
  have h3:(OJ o).any (Nat.beq j)=true:=List.any_eq_true.2 ⟨j,h2,Nat.beq_refl j⟩
  have h4:(ops[j]?).bind (·.dst)=some d:=by
   revert h1
   cases he:(ops[j]?).bind (·.dst)with
   | none=>intro h1;cases h1
   | some e=>intro h1;rw[Nat.eq_of_beq_eq_true h1]
  exact h.dt j d h3 h4 (by rw[List.getElem?_map,hh];rfl)
 ·cases hb:gV i d ops with
  | false=>rw[hb]at hh;cases hh
  | true=>rw[hb]at hh;exact h.old d c hh hb
theorem wZ.spec:∀{m:Nat}{ops:List Oper}{vs:List Value}{d:Nat}{c:Value},wZ m ops vs d=some c→∃j,Nat.blt j m=true∧(ops[j]?).bind (·.dst)=some d∧vs[j]? = some c
 | 0,_,_,_,_,h=>by cases h
 | m+1,[],_,_,_,h=>by cases h
 | m+1,_::_,[],_,_,h=>by cases h
 | m+1,o::ops,v::vs,d,c,h=>by
  have up:wZ m ops vs d=some c→∃j,Nat.blt j (m+1)=true∧((o::ops)[j]?).bind (·.dst)=some d∧(v::vs)[j]? = some c:=fun h=>by
   obtain⟨j,h1,h2,h3⟩:=wZ.spec h
   have h1:j+1≤m:=Nat.le_of_ble_eq_true h1
   exact⟨j+1,Nat.ble_eq_true_of_le (by omega),by simpa using h2,by simpa using h3⟩
  unfold wZ at h
  split at h
  ·rename_i e he
   cases hb:Nat.beq e d with
   | false=>rw[hb]at h;exact up h
   | true=>rw[hb]at h;cases h;exact⟨0,by simp[Nat.blt],by rw[List.getElem?_cons_zero,Option.bind_some,he,Nat.eq_of_beq_eq_true hb],rfl⟩
  ·exact up h
theorem dR.ss{m:Nat}{lo hi:Nat→Nat}(h:dR ops m L0 w0 (yH (vs.map bE)) lo hi L w)(ds:List Nat){L':List (Nat×Value)}(hh:CY (Rb ops m L0 vs) ds=some L'):Sub L' L:=
 Sub.of (fun d c hc=>by
  unfold Rb at hc
  split at hc
  ·rename_i v hv
   cases hc
   obtain⟨j,h1,h2,h3⟩:=wZ.spec hv
   exact h.nt j d h1 h2 (by rw[List.getElem?_map,h3];rfl)
  ·cases hb:Qa d (ops.take m)with
   | false=>rw[hb]at hc;cases hc
   | true=>rw[hb]at hc;exact h.old d c hc hb) ds L' hh
end
section
variable {P:Program}{n:Nat}{id:Nat}{Q:Exit→List (Nat×Value)→World→Prop}
theorem gK{ops:List Oper}{L0:List (Nat×Value)}{w0:World}(m:Nat)(vs:List Value)
  (hm:P.follows .mixedOrders=true) (hd:(((((ops.all (QK n)&&WR ops)&&PN 0 ops)&&L0.all (fun p=>Nat.blt p.1 n))&&Nat.ble m ops.length)&&NP ops m (ops.drop m))=true)
  (hops:xQ P ops L0 w0 (yH (vs.map bE)) 0 (ops.take m)) (hK:∀lo hi L w,dR ops m L0 w0 (yH (vs.map bE)) lo hi L w→jH P n ops.toArray (Q .normal) (ops.drop m) L w):CW P n (.region id ops.toArray true) Q L0 w0:=by
 simp only[Bool.and_eq_true]at hd
 obtain⟨⟨⟨⟨⟨h1,h2⟩,h3⟩,h4⟩,h5⟩,h6⟩:=hd
 exact CW.drawsI m (yH (vs.map bE)) hm h1 h2 h3 h4 h5 h6 (HF (Mb _)) hops hK
end
theorem uW{cs vs:List Value}(h:cs.length=vs.length):sE cs 0 vs=vs:=by
 unfold sE
 simp[←h]
theorem RB{P:Program}{o:Oper}{L:List (Nat×Value)}{w:World}{R:Value→World→Prop}{x y:Operand}{T T0:TypeId}{sz by_ b:Nat}{z:Option Value}{ag:Bool}{v:Value}{vs cs:List Value}(hT:VK P T=some (sz,by_,z,ag))(ho:o.op=.store T x y)(hx:YG L x=some (.pointer (some ⟨b,0,none⟩)))
  (hy:YG L y=some v) (hc:v.cells=vs.toArray) (hl:vs.length=sz) (h1:vs.all Value.oneCell'=true) (hB:ZE w b T0 cs) (hz:cs.length=sz)
  (hR:∀w',ZE w' b T0 vs→YM b w w'→R undef w'):Yl P o L w R:=
 aE hT ho hx hy hc hl h1 hB (by omega) (by rw[uW (hz.trans hl.symm)];exact hR)
theorem dI{p q:Prop}[Decidable q](ht:decide q=true→q→p)(hf:decide q=false→¬q→p):p:=bC (decide q) (fun h=>ht h (rP h)) (fun h=>hf h (qP h))
theorem iV{p:Prop}(h:p:=by(simp only[Iv,Ge];omega)):p:=h
theorem hV{A B C:Nat→Prop}(h:∀k,C k→A k)(f:∀k,A k→B k:=by(intro k hk;simp only[Iv,Ge];omega)):∀k,C k→B k:=fun k hk=>f k (h k hk)
theorem hW{A B C:Nat→Prop}(h:∀k,C k→A k)(f:∀k,A k→B k:=by(intro k hk;omega)):∀k,C k→B k:=fun k hk=>f k (h k hk)
theorem kR{p:Prop}(h:p:=by(intro k hk;simp only[ND,or_false]at hk;omega)):p:=h
theorem kJ{p:Prop}(h:p:=by(intro k hk;simp only[ND,or_false,Iv,Ge]at hk ⊢;omega)):p:=h
theorem Bq{p:Prop}(h:p:=by first | omega | assumption | (simp only[IntKind.wrap_i64]at *;omega) | (simp only[List.length_append,List.length_nil,IntKind.wrap_i64]at *;omega)):p:=h
theorem oB{α:Type}{R:nM α}{w:World}{b E sz:Nat}(h:ZE w b E []):XB w b (b+1) E sz R (some ⟨b,0,none⟩) 0 0 ([]:List α):=XB.of_box (S:=fun _=>False) h (Nat.le_refl _) (Nat.lt_succ_self _) ZC.nil (Nat.le_of_ble_eq_true rfl) (fun h=>h) (fun _ h=>False.elim h)
theorem tQ{α:Type}{w:World}{b E:Nat}(sz:Nat)(enc:α→List Value)(x:α)(h:ZE w b E (enc x))(hl:(enc x).length=sz):XB w b (b+1) E sz (RF enc) (some ⟨b,0,none⟩) 1 1 ([x]:List α):=by
 have he:ZC (RF enc w fun _=>False) sz (enc x++[]) [x]:=ZC.cons hl rfl ZC.nil
 rw[List.append_nil]at he
 exact XB.of_boxF h (Nat.le_refl _) (Nat.lt_succ_self _) he (Nat.le_of_ble_eq_true rfl)
theorem Nb{α:Type}{w:World}{b E:Nat}(sz:Nat)(enc:α→List Value)(x y:α)(h:ZE w b E (enc x++enc y))(hl:(enc x).length=sz)(hk:(enc y).length=sz):XB w b (b+1) E sz (RF enc) (some ⟨b,0,none⟩) 2 2 ([x,y]:List α):=by
 have he:ZC (RF enc w fun _=>False) sz (enc x++(enc y++[])) [x,y]:=ZC.cons hl rfl (ZC.cons hk rfl ZC.nil)
 rw[List.append_nil]at he
 exact XB.of_boxF h (Nat.le_refl _) (Nat.lt_succ_self _) he (Nat.le_of_ble_eq_true rfl)
theorem gE{ops:List Oper}{L0 L:List (Nat×Value)}{w0 w:World}{V:Nat→Gh→Value→World→Prop}{i:Nat}{G:Gh}(h:CM ops L0 w0 (fun _ _=>False) V i L w G):Ex w0 w:=h.st.ex.ex (fun _ h=>h.elim (fun h=>h.elim) (fun h=>h))
theorem gF{ops:List Oper}{L0 L:List (Nat×Value)}{w0 w:World}{V:Nat→Gh→Value→World→Prop}{i:Nat}{G:Gh}(h:LZ ops i L0 w0 (fun _ _=>False) V L w G):Ex w0 w:=h.st.ex.ex (fun _ h=>h.elim (fun h=>h.elim) (fun h=>h))
theorem rq{P:Program}{L:List (Nat×Value)}{w:World}{fn:Func}{R:Value→World→Prop}{r:ResultVar}{v:Value}(hr:fn.results=#[r])(hv:TZ P L w r v)(h:R (Bb [v]) w):NY P fn R .ret L w:=rr hr (.cons hv .nil) h
theorem R{α:Sort _}{a:α}:a=a:=rfl
theorem TA:type_of% @Below.only:=@Below.only
theorem UA:type_of% @ZE.chg:=@ZE.chg
theorem dA:type_of% @ZE.ex:=@ZE.ex
theorem nD:type_of% @ZE.grown:=@ZE.grown
theorem IA:type_of% @ZE.lt:=@ZE.lt
theorem MA:type_of% @ZE.only:=@ZE.only
theorem WA:type_of% @CW.block:=@CW.block
theorem tA:type_of% @CW.cond_f:=@CW.cond_f
theorem nA:type_of% @CW.cond_t:=@CW.cond_t
theorem bF:type_of% @CW.drawsG:=@CW.drawsG
theorem vG:type_of% @CW.drawsI:=@CW.drawsI
theorem kC:type_of% @CW.exit:=@CW.exit
theorem AC:type_of% @CW.loop:=@CW.loop
theorem BA:type_of% @CW.region:=@CW.region
theorem pA:type_of% @CW.ret:=@CW.ret
theorem kA:type_of% @CW.seq:=@CW.seq
theorem FA:type_of% @CW.skip:=@CW.skip
theorem cB:type_of% @CW.sub:=@CW.sub
theorem RG:type_of% @TF.args:=@TF.args
theorem lA:type_of% @TF.mono:=@TF.mono
theorem tB:type_of% @TF.of:=@TF.of
theorem ME:type_of% @EI.ex:=@EI.ex
theorem oD:type_of% @eD.of_ex:=@eD.of_ex
theorem rG:type_of% @eD.of_only:=@eD.of_only
theorem OF:type_of% @eD.refl:=@eD.refl
theorem lD:type_of% @eD.tchg:=@eD.tchg
theorem VD:type_of% @eD.tex:=@eD.tex
theorem LJ:type_of% @eD.tgrown:=@eD.tgrown
theorem oE:type_of% @eD.tonly:=@eD.tonly
theorem SG:type_of% @Ex.chg:=@Ex.chg
theorem DA:type_of% @Ex.refl:=@Ex.refl
theorem gA:type_of% @Ex.size:=@Ex.size
theorem cA:type_of% @Ex.trans:=@Ex.trans
theorem OI:type_of% @Gh.off:=@Gh.off
theorem iG:type_of% @Gh.sdn:=@Gh.sdn
theorem jG:type_of% @Gh.udn:=@Gh.udn
theorem JD:type_of% @Gh.ufh:=@Gh.ufh
theorem KD:type_of% @Gh.ufl:=@Gh.ufl
theorem EA:type_of% @GS.det:=@GS.det
theorem vA:type_of% @kM.op':=@kM.op'
theorem gC:type_of% @kM.want:=@kM.want
theorem CD:type_of% @gG.ex:=@gG.ex
theorem mG:type_of% @gG.only:=@gG.only
theorem KG:type_of% @gG.own:=@gG.own
theorem rB:type_of% @XB.chg:=@XB.chg
theorem MJ:type_of% @XB.empty:=@XB.empty
theorem oA:type_of% @XB.ex:=@XB.ex
theorem PH:type_of% @XB.grown:=@XB.grown
theorem TG:type_of% @XB.len:=@XB.len
theorem jE:type_of% @XB.more:=@XB.more
theorem zD:type_of% @XB.nil:=@XB.nil
theorem tE:type_of% @XB.of_box:=@XB.of_box
theorem GA:type_of% @XB.only:=@XB.only
theorem ZA:type_of% @XB.rd:=@XB.rd
theorem NE:type_of% @XB.rdI:=@XB.rdI
theorem UJ:type_of% @RF.good:=@RF.good
theorem qE:type_of% @kD.aD:=@kD.aD
theorem HD:type_of% @kD.atD:=@kD.atD
theorem tD:type_of% @kD.big:=@kD.big
theorem lC:type_of% @kD.chg:=@kD.chg
theorem QH:type_of% @kD.drop:=@kD.drop
theorem rA:type_of% @kD.ex:=@kD.ex
theorem HH:type_of% @kD.fix:=@kD.fix
theorem RC:type_of% @kD.only:=@kD.only
theorem qJ:type_of% @kD.sl:=@kD.sl
theorem bG:type_of% @kD.src:=@kD.src
theorem zA:type_of% @kD.up:=@kD.up
theorem AH:type_of% @kD.wide:=@kD.wide
theorem wG:type_of% @kD.wideI:=@kD.wideI
theorem tC:type_of% @jH.d1:=@jH.d1
theorem JA:type_of% @jH.done:=@jH.done
theorem FB:type_of% @jH.u:=@jH.u
theorem RA:type_of% @gO.det:=@gO.det
theorem LI:type_of% @Sub.cons:=@Sub.cons
theorem JC:type_of% @Sub.nil:=@Sub.nil
theorem NA:type_of% @Yl.sameG:=@Yl.sameG
theorem XC:type_of% @Yl.sameI:=@Yl.sameI
theorem kB:type_of% @iB.cont:=@iB.cont
theorem xC:type_of% @iB.ret:=@iB.ret
theorem cC:type_of% @iB.stop:=@iB.stop
theorem yI:type_of% @VF.brk:=@VF.brk
theorem sI:type_of% @VF.cont:=@VF.cont
theorem IC:type_of% @okE.append:=@okE.append
theorem pB:type_of% @okE.cons:=@okE.cons
theorem aC:type_of% @okE.nil:=@okE.nil
theorem uJ:type_of% @xF.drop:=@xF.drop
theorem sB:type_of% @xF.getD:=@xF.getD
theorem DB:type_of% @xF.mk:=@xF.mk
theorem kE:type_of% @xF.nil:=@xF.nil
theorem kH:type_of% @xF.take:=@xF.take
theorem vJ:type_of% @HE.drop:=@HE.drop
theorem jB:type_of% @HE.lit:=@HE.lit
end Go.X
