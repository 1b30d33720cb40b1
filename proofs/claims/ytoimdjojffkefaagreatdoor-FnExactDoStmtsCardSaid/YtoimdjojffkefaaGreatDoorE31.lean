/- Shorter words: what stands at a drawing region's temps, a loop's temps as one list, bounds. -/
import Derived.Test.YtoimdjojffkefaaGreatDoorE30
set_option linter.unusedVariables false
set_option linter.unusedSimpArgs false
namespace Go.X
open Go.RowKit
def Gg(ops:List Oper)(L0:List (Nat×Value))(vs:List Value)(i:Nat)(o:Oper)(d:Nat):Option Value:=
 match (YJ o).find? (fun j=>match (ops[j]?).bind (·.dst)with | some e=>Nat.beq e d | none=>false)with
 | some j=>vs[j]?
 | none=>bif XV i d ops then KK L0 d else none
def Sc:Nat→List Oper→List Value→Nat→Option Value
 | m+1,o::ops,v::vs,d=>match o.dst with
  | some e=>bif Nat.beq e d then some v else Sc m ops vs d
  | none=>Sc m ops vs d
 | _,_,_,_=>none
def Hg(ops:List Oper)(m:Nat)(L0:List (Nat×Value))(vs:List Value)(d:Nat):Option Value:=
 match Sc m ops vs d with
 | some v=>some v
 | none=>bif Cf d (ops.take m)then KK L0 d else none
def Ra(f:Nat→Option Value):List Nat→Option (List (Nat×Value))
 | []=>some []
 | d::ds=>match f d,Ra f ds with
  | some v,some l=>some ((d,v)::l)
  | _,_=>none
theorem Sub.of{f:Nat→Option Value}{L:List (Nat×Value)}(hf:∀d v,f d=some v→KK L d=some v):∀(ds:List Nat) (L':List (Nat×Value)),Ra f ds=some L'→Sub L' L
 | [],L',h=>by cases h;exact Sub.nil L
 | d::ds,L',h=>by
  unfold Ra at h
  split at h
  ·rename_i v l h1 h2
   cases h
   exact Sub.cons (hf d v h1) (Sub.of hf ds l h2)
  ·cases h
theorem sR{L' L:List (Nat×Value)}(h:Ra (KK L) (L'.map (·.1))=some L'):Sub L' L:=Sub.of (fun _ _ h=>h) _ _ h
section
variable {ops:List Oper}{o:Oper}{L0 L:List (Nat×Value)}{w0 w:World}{vs:List Value}{i:Nat}
theorem tM.g{c:Value}(h:tM ops L0 w0 (IH (vs.map RD)) i o L w)(d:Nat)(hh:Gg ops L0 vs i o d=some c):KK L d=some c:=by
 unfold Gg at hh
 split at hh
 ·rename_i j hj
  have h1:=List.find?_some hj
  have h2:j∈YJ o:=List.mem_of_find?_eq_some hj
  have h3:(YJ o).any (Nat.beq j)=true:=List.any_eq_true.2 ⟨j,h2,Nat.beq_refl j⟩
  have h4:(ops[j]?).bind (·.dst)=some d:=by
   revert h1
   cases he:(ops[j]?).bind (·.dst)with
   | none=>intro h1;cases h1
   | some e=>intro h1;rw[Nat.eq_of_beq_eq_true h1]
  exact h.dt j d h3 h4 (by rw[List.getElem?_map,hh];rfl)
 ·cases hb:XV i d ops with
  | false=>rw[hb]at hh;cases hh
  | true=>rw[hb]at hh;exact h.old d c hh hb
theorem Sc.spec:∀{m:Nat}{ops:List Oper}{vs:List Value}{d:Nat}{c:Value},Sc m ops vs d=some c→∃j,Nat.blt j m=true∧(ops[j]?).bind (·.dst)=some d∧vs[j]? = some c
 | 0,_,_,_,_,h=>by cases h
 | m+1,[],_,_,_,h=>by cases h
 | m+1,_::_,[],_,_,h=>by cases h
 | m+1,o::ops,v::vs,d,c,h=>by
  have up:Sc m ops vs d=some c→∃j,Nat.blt j (m+1)=true∧((o::ops)[j]?).bind (·.dst)=some d∧(v::vs)[j]? = some c:=fun h=>by
   obtain⟨j,h1,h2,h3⟩:=Sc.spec h
   have h1:j+1≤m:=Nat.le_of_ble_eq_true h1
   exact⟨j+1,Nat.ble_eq_true_of_le (by omega),by simpa using h2,by simpa using h3⟩
  unfold Sc at h
  split at h
  ·rename_i e he
   cases hb:Nat.beq e d with
   | false=>rw[hb]at h;exact up h
   | true=>rw[hb]at h;cases h;exact⟨0,by simp[Nat.blt],by rw[List.getElem?_cons_zero,Option.bind_some,he,Nat.eq_of_beq_eq_true hb],rfl⟩
  ·exact up h
theorem wR.ss{m:Nat}{lo hi:Nat→Nat}(h:wR ops m L0 w0 (IH (vs.map RD)) lo hi L w)(ds:List Nat){L':List (Nat×Value)}(hh:Ra (Hg ops m L0 vs) ds=some L'):Sub L' L:=
 Sub.of (fun d c hc=>by
  unfold Hg at hc
  split at hc
  ·rename_i v hv
   cases hc
   obtain⟨j,h1,h2,h3⟩:=Sc.spec hv
   exact h.nt j d h1 h2 (by rw[List.getElem?_map,h3];rfl)
  ·cases hb:Cf d (ops.take m)with
   | false=>rw[hb]at hc;cases hc
   | true=>rw[hb]at hc;exact h.old d c hc hb) ds L' hh
end
section
variable {P:Program}{n:Nat}{id:Nat}{Q:Exit→List (Nat×Value)→World→Prop}
theorem fK{ops:List Oper}{L0:List (Nat×Value)}{w0:World}(m:Nat)(vs:List Value)
  (hm:P.follows .mixedOrders=true) (hd:(((((ops.all (aL n)&&tS ops)&&nO 0 ops)&&L0.all (fun p=>Nat.blt p.1 n))&&Nat.ble m ops.length)&&WP ops m (ops.drop m))=true)
  (hops:FQ P ops L0 w0 (IH (vs.map RD)) 0 (ops.take m)) (hK:∀lo hi L w,wR ops m L0 w0 (IH (vs.map RD)) lo hi L w→NG P n ops.toArray (Q .normal) (ops.drop m) L w):CW P n (.region id ops.toArray true) Q L0 w0:=by
 simp only[Bool.and_eq_true]at hd
 obtain⟨⟨⟨⟨⟨h1,h2⟩,h3⟩,h4⟩,h5⟩,h6⟩:=hd
 exact CW.drawsI m (IH (vs.map RD)) hm h1 h2 h3 h4 h5 h6 (OF (Zf _)) hops hK
end
theorem MX{cs vs:List Value}(h:cs.length=vs.length):jE cs 0 vs=vs:=by
 unfold jE
 simp[←h]
theorem mB{P:Program}{o:Oper}{L:List (Nat×Value)}{w:World}{R:Value→World→Prop}{x y:Operand}{T T0:TypeId}{sz by_ b:Nat}{z:Option Value}{ag:Bool}{v:Value}{vs cs:List Value}(hT:sK P T=some (sz,by_,z,ag))(ho:o.op=.store T x y)(hx:rG L x=some (.pointer (some ⟨b,0,none⟩)))
  (hy:rG L y=some v) (hc:v.cells=vs.toArray) (hl:vs.length=sz) (h1:vs.all Value.oneCell'=true) (hB:ZF w b T0 cs) (hz:cs.length=sz)
  (hR:∀w',ZF w' b T0 vs→kN b w w'→R undef w'):Yl P o L w R:=
 iH hT ho hx hy hc hl h1 hB (by omega) (by rw[MX (hz.trans hl.symm)];exact hR)
theorem PF{p q:Prop}[Decidable q](ht:decide q=true→q→p)(hf:decide q=false→¬q→p):p:=EB (decide q) (fun h=>ht h (MV h)) (fun h=>hf h (yG h))
theorem iV{p:Prop}(h:p:=by(simp only[Iv,Ge];omega)):p:=h
theorem hV{A B C:Nat→Prop}(h:∀k,C k→A k)(f:∀k,A k→B k:=by(intro k hk;simp only[Iv,Ge];omega)):∀k,C k→B k:=fun k hk=>f k (h k hk)
theorem hW{A B C:Nat→Prop}(h:∀k,C k→A k)(f:∀k,A k→B k:=by(intro k hk;omega)):∀k,C k→B k:=fun k hk=>f k (h k hk)
theorem kR{p:Prop}(h:p:=by(intro k hk;simp only[eL,or_false]at hk;omega)):p:=h
theorem Bq{p:Prop}(h:p:=by first | omega | assumption | (simp only[IntKind.wrap_i64]at *;omega) | (simp only[List.length_append,List.length_nil,IntKind.wrap_i64]at *;omega)):p:=h
theorem oB{α:Type}{R:JM α}{w:World}{b E sz:Nat}(h:ZF w b E []):KB w b (b+1) E sz R (some ⟨b,0,none⟩) 0 0 ([]:List α):=KB.of_box (S:=fun _=>False) h (Nat.le_refl _) (Nat.lt_succ_self _) WC.nil (Nat.le_of_ble_eq_true rfl) (fun h=>h) (fun _ h=>False.elim h)
theorem vS{α:Type}{w:World}{b E:Nat}(sz:Nat)(enc:α→List Value)(x:α)(h:ZF w b E (enc x))(hl:(enc x).length=sz):KB w b (b+1) E sz (RF enc) (some ⟨b,0,none⟩) 1 1 ([x]:List α):=by
 have he:WC (RF enc w fun _=>False) sz (enc x++[]) [x]:=WC.cons hl rfl WC.nil
 rw[List.append_nil]at he
 exact KB.of_boxF h (Nat.le_refl _) (Nat.lt_succ_self _) he (Nat.le_of_ble_eq_true rfl)
theorem Sf{α:Type}{w:World}{b E:Nat}(sz:Nat)(enc:α→List Value)(x y:α)(h:ZF w b E (enc x++enc y))(hl:(enc x).length=sz)(hk:(enc y).length=sz):KB w b (b+1) E sz (RF enc) (some ⟨b,0,none⟩) 2 2 ([x,y]:List α):=by
 have he:WC (RF enc w fun _=>False) sz (enc x++(enc y++[])) [x,y]:=WC.cons hl rfl (WC.cons hk rfl WC.nil)
 rw[List.append_nil]at he
 exact KB.of_boxF h (Nat.le_refl _) (Nat.lt_succ_self _) he (Nat.le_of_ble_eq_true rfl)
theorem gE{ops:List Oper}{L0 L:List (Nat×Value)}{w0 w:World}{V:Nat→Gh→Value→World→Prop}{i:Nat}{G:Gh}(h:ZM ops L0 w0 (fun _ _=>False) V i L w G):Ex w0 w:=h.st.ex.ex (fun _ h=>h.elim (fun h=>h.elim) (fun h=>h))
theorem gF{ops:List Oper}{L0 L:List (Nat×Value)}{w0 w:World}{V:Nat→Gh→Value→World→Prop}{i:Nat}{G:Gh}(h:Od ops i L0 w0 (fun _ _=>False) V L w G):Ex w0 w:=h.st.ex.ex (fun _ h=>h.elim (fun h=>h.elim) (fun h=>h))
theorem rq{P:Program}{L:List (Nat×Value)}{w:World}{fn:Func}{R:Value→World→Prop}{r:ResultVar}{v:Value}(hr:fn.results=#[r])(hv:Xd P L w r v)(h:R (Gf [v]) w):FX P fn R .ret L w:=rr hr (.cons hv .nil) h
theorem R{α:Sort _}{a:α}:a=a:=rfl
theorem CA:type_of% @Below.only:=@Below.only
theorem bA:type_of% @ZF.ex:=@ZF.ex
theorem RB:type_of% @ZF.grown:=@ZF.grown
theorem SE:type_of% @ZF.lt:=@ZF.lt
theorem QA:type_of% @ZF.only:=@ZF.only
theorem JA:type_of% @CW.block:=@CW.block
theorem iA:type_of% @CW.cond_f:=@CW.cond_f
theorem jA:type_of% @CW.cond_t:=@CW.cond_t
theorem TG:type_of% @CW.drawsI:=@CW.drawsI
theorem WB:type_of% @CW.exit:=@CW.exit
theorem YB:type_of% @CW.loop:=@CW.loop
theorem oA:type_of% @CW.region:=@CW.region
theorem lA:type_of% @CW.ret:=@CW.ret
theorem gA:type_of% @CW.seq:=@CW.seq
theorem uA:type_of% @CW.skip:=@CW.skip
theorem bB:type_of% @CW.sub:=@CW.sub
theorem nA:type_of% @dF.mono:=@dF.mono
theorem dB:type_of% @dF.of:=@dF.of
theorem dC:type_of% @VH.ex:=@VH.ex
theorem UG:type_of% @CJ.of_ex:=@CJ.of_ex
theorem vJ:type_of% @CJ.refl:=@CJ.refl
theorem sH:type_of% @Ex.mut:=@Ex.mut
theorem AA:type_of% @Ex.refl:=@Ex.refl
theorem dA:type_of% @Ex.size:=@Ex.size
theorem aA:type_of% @Ex.trans:=@Ex.trans
theorem IJ:type_of% @Gh.ufh:=@Gh.ufh
theorem JJ:type_of% @Gh.ufl:=@Gh.ufl
theorem cC:type_of% @XS.det:=@XS.det
theorem OG:type_of% @HI.size:=@HI.size
theorem kB:type_of% @aN.op':=@aN.op'
theorem wJ:type_of% @aN.skip:=@aN.skip
theorem oC:type_of% @aN.want:=@aN.want
theorem TE:type_of% @VF.ex:=@VF.ex
theorem vG:type_of% @VF.only:=@VF.only
theorem iG:type_of% @KB.chg:=@KB.chg
theorem MI:type_of% @KB.empty:=@KB.empty
theorem kA:type_of% @KB.ex:=@KB.ex
theorem SJ:type_of% @KB.fix:=@KB.fix
theorem WF:type_of% @KB.grown:=@KB.grown
theorem NJ:type_of% @KB.keep:=@KB.keep
theorem wG:type_of% @KB.len:=@KB.len
theorem pJ:type_of% @KB.more:=@KB.more
theorem mF:type_of% @KB.mut:=@KB.mut
theorem eB:type_of% @KB.nil:=@KB.nil
theorem WD:type_of% @KB.of_box:=@KB.of_box
theorem ZA:type_of% @KB.only:=@KB.only
theorem WA:type_of% @KB.rd:=@KB.rd
theorem XI:type_of% @KB.rdI:=@KB.rdI
theorem oH:type_of% @KB.rng:=@KB.rng
theorem eK:type_of% @RF.good:=@RF.good
theorem JB:type_of% @oD.aD:=@oD.aD
theorem ME:type_of% @oD.atD:=@oD.atD
theorem JC:type_of% @oD.big:=@oD.big
theorem AI:type_of% @oD.drop:=@oD.drop
theorem tA:type_of% @oD.ex:=@oD.ex
theorem KJ:type_of% @oD.fix:=@oD.fix
theorem TJ:type_of% @oD.keep:=@oD.keep
theorem oG:type_of% @oD.nil:=@oD.nil
theorem cK:type_of% @oD.sl:=@oD.sl
theorem WG:type_of% @oD.src:=@oD.src
theorem qA:type_of% @oD.up:=@oD.up
theorem rF:type_of% @oD.wide:=@oD.wide
theorem GC:type_of% @NG.d1:=@NG.d1
theorem BA:type_of% @NG.done:=@NG.done
theorem iB:type_of% @NG.u:=@NG.u
theorem OA:type_of% @KO.det:=@KO.det
theorem SD:type_of% @Sub.nil:=@Sub.nil
theorem ZC:type_of% @Yl.sameG:=@Yl.sameG
theorem eD:type_of% @Yl.sameI:=@Yl.sameI
theorem TA:type_of% @UA.cont:=@UA.cont
theorem ZB:type_of% @UA.ret:=@UA.ret
theorem wB:type_of% @UA.stop:=@UA.stop
theorem UJ:type_of% @cG.cont:=@cG.cont
theorem fC:type_of% @okE.append:=@okE.append
theorem NC:type_of% @okE.cons:=@okE.cons
theorem OB:type_of% @okE.nil:=@okE.nil
theorem xJ:type_of% @jG.drop:=@jG.drop
theorem XA:type_of% @jG.getD:=@jG.getD
theorem CB:type_of% @jG.mk:=@jG.mk
theorem fB:type_of% @jG.nil:=@jG.nil
theorem BI:type_of% @jG.take:=@jG.take
theorem CI:type_of% @QE.drop:=@QE.drop
theorem KA:type_of% @QE.lit:=@QE.lit
end Go.X
