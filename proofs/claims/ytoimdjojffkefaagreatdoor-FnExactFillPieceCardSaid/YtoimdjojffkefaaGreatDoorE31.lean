/- Shorter words: what stands at a drawing region's temps, a loop's temps as one list, bounds. -/
import Derived.Test.YtoimdjojffkefaaGreatDoorE30
set_option linter.unusedVariables false
set_option linter.unusedSimpArgs false
namespace Go.X
open Go.RowKit
def CZ(ops:List Oper)(L0:List (Nat×Value))(vs:List Value)(i:Nat)(o:Oper)(d:Nat):Option Value:=
  match (EI o).find? (fun j=>match (ops[j]?).bind (·.dst)with | some e=>Nat.beq e d | none=>false)with
  | some j=>vs[j]?
  | none=>bif XS i d ops then jJ L0 d else none
def VX:Nat→List Oper→List Value→Nat→Option Value
  | m+1,o::ops,v::vs,d=>match o.dst with
    | some e=>bif Nat.beq e d then some v else VX m ops vs d
    | none=>VX m ops vs d
  | _,_,_,_=>none
def DZ(ops:List Oper)(m:Nat)(L0:List (Nat×Value))(vs:List Value)(d:Nat):Option Value:=
  match VX m ops vs d with
  | some v=>some v
  | none=>bif eZ d (ops.take m)then jJ L0 d else none
def YW(f:Nat→Option Value):List Nat→Option (List (Nat×Value))
  | []=>some []
  | d::ds=>match f d,YW f ds with
    | some v,some l=>some ((d,v)::l)
    | _,_=>none
theorem Sub.of{f:Nat→Option Value}{L:List (Nat×Value)}(hf:∀d v,f d=some v→jJ L d=some v):∀(ds:List Nat) (L':List (Nat×Value)),YW f ds=some L'→Sub L' L
  | [],L',h=>by cases h;exact Sub.nil L
  | d::ds,L',h=>by
    unfold YW at h
    split at h
    · rename_i v l h1 h2
      cases h
      exact Sub.cons (hf d v h1) (Sub.of hf ds l h2)
    · cases h
theorem sR{L' L:List (Nat×Value)}(h:YW (jJ L) (L'.map (·.1))=some L'):Sub L' L:=Sub.of (fun _ _ h=>h) _ _ h
section
variable {ops:List Oper}{o:Oper}{L0 L:List (Nat×Value)}{w0 w:World}{vs:List Value}{i:Nat}
theorem AK.g{c:Value}(h:AK ops L0 w0 (LG (vs.map CD)) i o L w)(d:Nat)(hh:CZ ops L0 vs i o d=some c):jJ L d=some c:=by
  unfold CZ at hh
  split at hh
  · rename_i j hj
    have h1:=List.find?_some hj
    have h2:j∈EI o:=List.mem_of_find?_eq_some hj
    have h3:(EI o).any (Nat.beq j)=true:=List.any_eq_true.2 ⟨j,h2,Nat.beq_refl j⟩
    have h4:(ops[j]?).bind (·.dst)=some d:=by
      revert h1
      cases he:(ops[j]?).bind (·.dst)with
      | none=>intro h1;cases h1
      | some e=>intro h1;rw[Nat.eq_of_beq_eq_true h1]
    exact h.dt j d h3 h4 (by rw[List.getElem?_map,hh];rfl)
  · cases hb:XS i d ops with
    | false=>rw[hb]at hh;cases hh
    | true=>rw[hb]at hh;exact h.old d c hh hb
theorem VX.spec:∀{m:Nat}{ops:List Oper}{vs:List Value}{d:Nat}{c:Value},VX m ops vs d=some c→∃j,Nat.blt j m=true∧(ops[j]?).bind (·.dst)=some d∧vs[j]? = some c
  | 0,_,_,_,_,h=>by cases h
  | m+1,[],_,_,_,h=>by cases h
  | m+1,_::_,[],_,_,h=>by cases h
  | m+1,o::ops,v::vs,d,c,h=>by
    have up:VX m ops vs d=some c→∃j,Nat.blt j (m+1)=true∧((o::ops)[j]?).bind (·.dst)=some d∧(v::vs)[j]? = some c:=fun h=>by
      obtain⟨j,h1,h2,h3⟩:=VX.spec h
      have h1:j+1≤m:=Nat.le_of_ble_eq_true h1
      exact⟨j+1,Nat.ble_eq_true_of_le (by omega),by simpa using h2,by simpa using h3⟩
    unfold VX at h
    split at h
    · rename_i e he
      cases hb:Nat.beq e d with
      | false=>rw[hb]at h;exact up h
      | true=>rw[hb]at h;cases h;exact⟨0,by simp[Nat.blt],by rw[List.getElem?_cons_zero,Option.bind_some,he,Nat.eq_of_beq_eq_true hb],rfl⟩
    · exact up h
theorem iP.ss{m:Nat}{lo hi:Nat→Nat}(h:iP ops m L0 w0 (LG (vs.map CD)) lo hi L w)(ds:List Nat){L':List (Nat×Value)}(hh:YW (DZ ops m L0 vs) ds=some L'):Sub L' L:=
  Sub.of (fun d c hc=>by
    unfold DZ at hc
    split at hc
    · rename_i v hv
      cases hc
      obtain⟨j,h1,h2,h3⟩:=VX.spec hv
      exact h.nt j d h1 h2 (by rw[List.getElem?_map,h3];rfl)
    · cases hb:eZ d (ops.take m)with
      | false=>rw[hb]at hc;cases hc
      | true=>rw[hb]at hc;exact h.old d c hc hb) ds L' hh
end
section
variable {P:Program}{n:Nat}{id:Nat}{Q:Exit→List (Nat×Value)→World→Prop}
theorem PJ{ops:List Oper}{L0:List (Nat×Value)}{w0:World}(m:Nat)(vs:List Value)
    (hm:P.follows .mixedOrders=true) (hd:(((((ops.all (DJ n)&&QP ops)&&lM 0 ops)&&L0.all (fun p=>Nat.blt p.1 n))&&Nat.ble m ops.length)&&WN ops m (ops.drop m))=true)
    (hops:yO P ops L0 w0 (LG (vs.map CD)) 0 (ops.take m)) (hK:∀lo hi L w,iP ops m L0 w0 (LG (vs.map CD)) lo hi L w→PF P n ops.toArray (Q .normal) (ops.drop m) L w):CW P n (.region id ops.toArray true) Q L0 w0:=by
  simp only[Bool.and_eq_true]at hd
  obtain⟨⟨⟨⟨⟨h1,h2⟩,h3⟩,h4⟩,h5⟩,h6⟩:=hd
  exact CW.drawsI m (LG (vs.map CD)) hm h1 h2 h3 h4 h5 h6 (VE (zZ _)) hops hK
end
theorem yU{cs vs:List Value}(h:cs.length=vs.length):nD cs 0 vs=vs:=by
  unfold nD
  simp[←h]
theorem ZB{P:Program}{o:Oper}{L:List (Nat×Value)}{w:World}{R:Value→World→Prop}{x y:Operand}{T T0:TypeId}{sz by_ b:Nat}{z:Option Value}{ag:Bool}{v:Value}{vs cs:List Value}(hT:nJ P T=some (sz,by_,z,ag))(ho:o.op=.store T x y)(hx:EF L x=some (.pointer (some ⟨b,0,none⟩)))
    (hy:EF L y=some v) (hc:v.cells=vs.toArray) (hl:vs.length=sz) (h1:vs.all Value.oneCell'=true) (hB:wF w b T0 cs) (hz:cs.length=sz)
    (hR:∀w',wF w' b T0 vs→SL b w w'→R undef w'):Yl P o L w R:=
  eE hT ho hx hy hc hl h1 hB (by omega) (by rw[yU (hz.trans hl.symm)];exact hR)
theorem mH{p q:Prop}[Decidable q](ht:decide q=true→q→p)(hf:decide q=false→¬q→p):p:=NB (decide q) (fun h=>ht h (tP h)) (fun h=>hf h (GF h))
theorem iV{p:Prop}(h:p:=by(simp only[Iv,Ge];omega)):p:=h
theorem hV{A B C:Nat→Prop}(h:∀k,C k→A k)(f:∀k,A k→B k:=by(intro k hk;simp only[Iv,Ge];omega)):∀k,C k→B k:=fun k hk=>f k (h k hk)
theorem hW{A B C:Nat→Prop}(h:∀k,C k→A k)(f:∀k,A k→B k:=by(intro k hk;omega)):∀k,C k→B k:=fun k hk=>f k (h k hk)
theorem kR{p:Prop}(h:p:=by(intro k hk;simp only[kK,or_false]at hk;omega)):p:=h
theorem Bq{p:Prop}(h:p:=by first | omega | assumption | (simp only[IntKind.wrap_i64]at *;omega) | (simp only[List.length_append,List.length_nil,IntKind.wrap_i64]at *;omega)):p:=h
theorem oB{α:Type}{R:RK α}{w:World}{b E sz:Nat}(h:wF w b E []):sB w b (b+1) E sz R (some ⟨b,0,none⟩) 0 0 ([]:List α):=sB.of_box (S:=fun _=>False) h (Nat.le_refl _) (Nat.lt_succ_self _) WD.nil (Nat.le_of_ble_eq_true rfl) (fun h=>h) (fun _ h=>False.elim h)
theorem AT{α:Type}{w:World}{b E:Nat}(sz:Nat)(enc:α→List Value)(x:α)(h:wF w b E (enc x))(hl:(enc x).length=sz):sB w b (b+1) E sz (RF enc) (some ⟨b,0,none⟩) 1 1 ([x]:List α):=by
  have he:WD (RF enc w fun _=>False) sz (enc x++[]) [x]:=WD.cons hl rfl WD.nil
  rw[List.append_nil]at he
  exact sB.of_boxF h (Nat.le_refl _) (Nat.lt_succ_self _) he (Nat.le_of_ble_eq_true rfl)
theorem GZ{α:Type}{w:World}{b E:Nat}(sz:Nat)(enc:α→List Value)(x y:α)(h:wF w b E (enc x++enc y))(hl:(enc x).length=sz)(hk:(enc y).length=sz):sB w b (b+1) E sz (RF enc) (some ⟨b,0,none⟩) 2 2 ([x,y]:List α):=by
  have he:WD (RF enc w fun _=>False) sz (enc x++(enc y++[])) [x,y]:=WD.cons hl rfl (WD.cons hk rfl WD.nil)
  rw[List.append_nil]at he
  exact sB.of_boxF h (Nat.le_refl _) (Nat.lt_succ_self _) he (Nat.le_of_ble_eq_true rfl)
theorem R{α:Sort _}{a:α}:a=a:=rfl
theorem CA:type_of% @Below.only:=@Below.only
theorem YH:type_of% @wF.chg:=@wF.chg
theorem cA:type_of% @wF.ex:=@wF.ex
theorem UF:type_of% @wF.grown:=@wF.grown
theorem EG:type_of% @wF.lt:=@wF.lt
theorem WG:type_of% @wF.mut:=@wF.mut
theorem jB:type_of% @wF.only:=@wF.only
theorem zA:type_of% @CW.block:=@CW.block
theorem lA:type_of% @CW.cond_f:=@CW.cond_f
theorem jA:type_of% @CW.cond_t:=@CW.cond_t
theorem iH:type_of% @CW.drawsG:=@CW.drawsG
theorem VF:type_of% @CW.drawsI:=@CW.drawsI
theorem AB:type_of% @CW.exit:=@CW.exit
theorem HB:type_of% @CW.loop:=@CW.loop
theorem oA:type_of% @CW.region:=@CW.region
theorem kA:type_of% @CW.ret:=@CW.ret
theorem dA:type_of% @CW.seq:=@CW.seq
theorem rA:type_of% @CW.skip:=@CW.skip
theorem PA:type_of% @CW.sub:=@CW.sub
theorem mA:type_of% @QE.mono:=@QE.mono
theorem VA:type_of% @QE.of:=@QE.of
theorem KD:type_of% @RG.ex:=@RG.ex
theorem OC:type_of% @fJ.of_ex:=@fJ.of_ex
theorem tI:type_of% @Ex.mut:=@Ex.mut
theorem pA:type_of% @Ex.refl:=@Ex.refl
theorem bA:type_of% @Ex.size:=@Ex.size
theorem aA:type_of% @Ex.trans:=@Ex.trans
theorem UC:type_of% @Gh.ufh:=@Gh.ufh
theorem VC:type_of% @Gh.ufl:=@Gh.ufl
theorem XA:type_of% @xQ.det:=@xQ.det
theorem FG:type_of% @VG.size:=@VG.size
theorem xA:type_of% @QK.op':=@QK.op'
theorem gC:type_of% @QK.want:=@QK.want
theorem XD:type_of% @qF.ex:=@qF.ex
theorem yF:type_of% @qF.only:=@qF.only
theorem CC:type_of% @sB.chg:=@sB.chg
theorem uA:type_of% @sB.ex:=@sB.ex
theorem yI:type_of% @sB.keep:=@sB.keep
theorem MH:type_of% @sB.len:=@sB.len
theorem bF:type_of% @sB.more:=@sB.more
theorem mD:type_of% @sB.nil:=@sB.nil
theorem SB:type_of% @sB.only:=@sB.only
theorem aB:type_of% @sB.rd:=@sB.rd
theorem AI:type_of% @sB.rdI:=@sB.rdI
theorem tH:type_of% @sB.rng:=@sB.rng
theorem uI:type_of% @RF.good:=@RF.good
theorem zC:type_of% @PC.aD:=@PC.aD
theorem LD:type_of% @PC.atD:=@PC.atD
theorem nC:type_of% @PC.big:=@PC.big
theorem uH:type_of% @PC.drop:=@PC.drop
theorem vA:type_of% @PC.ex:=@PC.ex
theorem BI:type_of% @PC.keep:=@PC.keep
theorem MI:type_of% @PC.sl:=@PC.sl
theorem mG:type_of% @PC.src:=@PC.src
theorem wA:type_of% @PC.up:=@PC.up
theorem HE:type_of% @PC.wide:=@PC.wide
theorem BB:type_of% @PF.d1:=@PF.d1
theorem tA:type_of% @PF.done:=@PF.done
theorem qB:type_of% @PF.u:=@PF.u
theorem DA:type_of% @IM.det:=@IM.det
theorem XC:type_of% @Sub.nil:=@Sub.nil
theorem bB:type_of% @Yl.sameG:=@Yl.sameG
theorem DC:type_of% @Yl.sameI:=@Yl.sameI
theorem NA:type_of% @FA.cont:=@FA.cont
theorem uB:type_of% @FA.ret:=@FA.ret
theorem pB:type_of% @FA.stop:=@FA.stop
theorem CI:type_of% @lF.cont:=@lF.cont
theorem qC:type_of% @okE.append:=@okE.append
theorem qE:type_of% @okE.cons:=@okE.cons
theorem HC:type_of% @okE.nil:=@okE.nil
theorem fI:type_of% @uF.drop:=@uF.drop
theorem YA:type_of% @uF.getD:=@uF.getD
theorem MB:type_of% @uF.mk:=@uF.mk
theorem fE:type_of% @uF.nil:=@uF.nil
theorem vH:type_of% @uF.take:=@uF.take
theorem DI:type_of% @WE.drop:=@WE.drop
theorem lE:type_of% @WE.lit:=@WE.lit
end Go.X
