/- Lists whose elements own memory, told as lists of numbers, and back: when only whole elements are moved. -/
import Derived.Test.YtikkoidgamlgnaaE34
set_option linter.unusedVariables false
set_option linter.unusedSimpArgs false
namespace Go.X
open Go.RowKit
def yN{α:Type}(RO:rF α)(w:World)(lo hi l2 h2 n:Nat)(vs:Nat→Nat×Nat)(cl:Nat→Value)(xf:Nat→α):Prop:=
 ∀i,i<n→(lo≤(vs i).1∧(vs i).1≤(vs i).2∧(vs i).2≤hi)∧((vs i).2≤l2∨h2≤(vs i).1)∧RO w (vs i).1 (vs i).2 [cl i] (xf i)∧∀j,j<n→i≠j→VL (vs i) (vs j)
section
variable {α:Type}{RO:rF α}{R:KF α}{w w':World}{lo hi l2 h2 E sz n m c:Nat}{g:Option Nat}{A:Option Addr}{xs:List α}{vs:List (Nat×Nat)}{cs:List (List Value)}{vf:Nat→Nat×Nat}{cl:Nat→Value}{xf:Nat→α}{idx:List Nat}
theorem yN.keep(hG:oG RO R)(h:yN RO w lo hi l2 h2 n vf cl xf)(hk:∀b,b<l2∨h2≤b→b<w.heap.size→w'.heap[b]? = w.heap[b]?):yN RO w' lo hi l2 h2 n vf cl xf:=fun i hi'=>by
 obtain⟨h1,h2',h3,h4⟩:=h i hi'
 exact⟨h1,h2',hG.keep h3 fun b b1 b2 b3=>hk b (by omega) b3,h4⟩
end
theorem QA:type_of% @Below.only:=@Below.only
theorem nA:type_of% @OD.ex:=@OD.ex
theorem rB:type_of% @OD.lt:=@OD.lt
theorem uC:type_of% @OD.only:=@OD.only
theorem MA:type_of% @CW.block:=@CW.block
theorem uA:type_of% @CW.cond_f:=@CW.cond_f
theorem qA:type_of% @CW.cond_t:=@CW.cond_t
theorem OB:type_of% @CW.exit:=@CW.exit
theorem XB:type_of% @CW.loop:=@CW.loop
theorem vA:type_of% @CW.region:=@CW.region
theorem mA:type_of% @CW.ret:=@CW.ret
theorem jA:type_of% @CW.seq:=@CW.seq
theorem EA:type_of% @CW.skip:=@CW.skip
theorem PA:type_of% @CW.sub:=@CW.sub
theorem kA:type_of% @wE.mono:=@wE.mono
theorem SA:type_of% @wE.of:=@wE.of
theorem KD:type_of% @dE.ex:=@dE.ex
theorem ED:type_of% @rD.of_ex:=@rD.of_ex
theorem jE:type_of% @rD.of_grown:=@rD.of_grown
theorem UC:type_of% @rD.refl:=@rD.refl
theorem eC:type_of% @rD.tchg:=@rD.tchg
theorem kE:type_of% @rD.tex:=@rD.tex
theorem UD:type_of% @rD.tonly:=@rD.tonly
theorem AA:type_of% @Ex.refl:=@Ex.refl
theorem eA:type_of% @Ex.size:=@Ex.size
theorem aA:type_of% @Ex.trans:=@Ex.trans
theorem FC:type_of% @Gh.ufh:=@Gh.ufh
theorem GC:type_of% @Gh.ufl:=@Gh.ufl
theorem ZA:type_of% @NI.det:=@NI.det
theorem HA:type_of% @gG.op':=@gG.op'
theorem WB:type_of% @gG.want:=@gG.want
theorem CB:type_of% @WA.chg:=@WA.chg
theorem nB:type_of% @WA.ex:=@WA.ex
theorem FD:type_of% @WA.more:=@WA.more
theorem WC:type_of% @WA.only:=@WA.only
theorem DB:type_of% @WA.rd:=@WA.rd
theorem aE:type_of% @DC.chg:=@DC.chg
theorem PD:type_of% @DC.ex:=@DC.ex
theorem pE:type_of% @DC.own:=@DC.own
theorem LD:type_of% @kC.aD:=@kC.aD
theorem HD:type_of% @kC.atD:=@kC.atD
theorem sD:type_of% @kC.big:=@kC.big
theorem QC:type_of% @kC.chg:=@kC.chg
theorem KA:type_of% @kC.ex:=@kC.ex
theorem qE:type_of% @kC.only:=@kC.only
theorem AE:type_of% @kC.src:=@kC.src
theorem iB:type_of% @kC.up:=@kC.up
theorem GD:type_of% @kC.wideI:=@kC.wideI
theorem zA:type_of% @RC.done:=@RC.done
theorem HB:type_of% @RC.u:=@RC.u
theorem XA:type_of% @Yl.sameG:=@Yl.sameG
theorem NC:type_of% @Yl.sameI:=@Yl.sameI
theorem JA:type_of% @IA.cont:=@IA.cont
theorem MB:type_of% @IA.ret:=@IA.ret
theorem vB:type_of% @IA.stop:=@IA.stop
theorem JC:type_of% @okE.append:=@okE.append
theorem zB:type_of% @okE.cons:=@okE.cons
theorem fC:type_of% @okE.nil:=@okE.nil
theorem RA:type_of% @ME.getD:=@ME.getD
theorem sB:type_of% @ME.mk:=@ME.mk
theorem ID:type_of% @ME.nil:=@ME.nil
theorem oC:type_of% @MF.lit:=@MF.lit
end Go.X
