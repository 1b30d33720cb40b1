/- '[]byte(s)' of a string, and a store into it: the row of a conversion is marked beyond its last cell. -/
import Derived.Test.YtdknedcbonflgaaDoorE32
import Derived.Lib.ConvBytes
import Derived.Lib.FrozenHead
import Derived.Laws.AppendOwn
set_option linter.unusedVariables false
set_option linter.unusedSimpArgs false
namespace Go.X
open Go.RowKit
def Cv(w:World)(b:Nat)(E:TypeId)(xs:List Int):Prop:=
 ∃(rest:List Value) (z:Nat),w.heap[b]? = some (.cells (xs.map (Value.int .u8)++rest).toArray E (z,z+1))∧xs.length≤z
section
variable {P:Program}{o:Oper}{L:List (Nat×Value)}{w w':World}{R:Value→World→Prop}{b c:Nat}{E:TypeId}{xs:List Int}
theorem Cv.lt(h:Cv w b E xs):b<w.heap.size:=by
 obtain⟨r,z,h,_⟩:=h
 rcases Nat.lt_or_ge b w.heap.size with hlt | hge
 ·exact hlt
 ·rw[Array.getElem?_eq_none hge]at h;cases h
theorem Cv.ex(h:Cv w b E xs)(e:Ex w w'):Cv w' b E xs:=by
 have hb:=h.lt
 obtain⟨r,z,h,k⟩:=h
 exact⟨r,z,(Below.block e b hb).trans h,k⟩
theorem Cv.rd(h:Cv w b E xs)(h1:xs.length≤c)(h2:c≤maxLen)(h3:xs.length≤281474976710656):nC w (Iv b w.heap.size) (RF GJ) 1 (some ⟨b,0,none⟩) xs.length c xs:=by
 have hb:=h.lt
 obtain⟨r,z,h,k⟩:=h
 refine⟨rfl,h1,⟨h2,h3⟩,xs.map (Value.int .u8),?_,.inr ⟨b,0,rfl,?_,hb,?_⟩⟩
 ·clear h1 h3 h k
  induction xs with
  | nil=>exact pC.nil
  | cons x xs ih=>exact pC.cons (c:=[Value.int .u8 x]) rfl rfl ih
 ·exact⟨Nat.le_refl _,hb⟩
 ·intro j u hu
  rw[Nat.zero_add]
  have hj:j<(xs.map (Value.int .u8)).length:=by
   rcases Nat.lt_or_ge j (xs.map (Value.int .u8)).length with hlt | hge
   ·exact hlt
   ·rw[List.getElem?_eq_none hge]at hu;cases hu
  simp only[World.cell?,h,List.getElem?_toArray]
  rw[List.getElem?_append_left hj]
  exact hu
end
theorem JA:type_of% @Below.only:=@Below.only
theorem jA:type_of% @eD.ex:=@eD.ex
theorem NB:type_of% @eD.only:=@eD.only
theorem MA:type_of% @CW.block:=@CW.block
theorem uA:type_of% @CW.cond_f:=@CW.cond_f
theorem mA:type_of% @CW.cond_t:=@CW.cond_t
theorem UB:type_of% @CW.exit:=@CW.exit
theorem ZB:type_of% @CW.loop:=@CW.loop
theorem EA:type_of% @CW.region:=@CW.region
theorem vA:type_of% @CW.ret:=@CW.ret
theorem kA:type_of% @CW.seq:=@CW.seq
theorem AA:type_of% @CW.skip:=@CW.skip
theorem ZA:type_of% @CW.sub:=@CW.sub
theorem tA:type_of% @OD.mono:=@OD.mono
theorem mB:type_of% @OD.of:=@OD.of
theorem dC:type_of% @YC.ex:=@YC.ex
theorem HA:type_of% @Ex.refl:=@Ex.refl
theorem fA:type_of% @Ex.size:=@Ex.size
theorem cA:type_of% @Ex.trans:=@Ex.trans
theorem kB:type_of% @EE.op':=@EE.op'
theorem SB:type_of% @EE.want:=@EE.want
theorem wA:type_of% @dB.ex:=@dB.ex
theorem zB:type_of% @dB.nil:=@dB.nil
theorem aB:type_of% @dB.only:=@dB.only
theorem OA:type_of% @dB.rd:=@dB.rd
theorem EB:type_of% @nC.aD:=@nC.aD
theorem qC:type_of% @nC.big:=@nC.big
theorem tB:type_of% @nC.ex:=@nC.ex
theorem nB:type_of% @nC.up:=@nC.up
theorem bB:type_of% @vC.done:=@vC.done
theorem AB:type_of% @vC.u:=@vC.u
theorem oA:type_of% @tF.det:=@tF.det
theorem cB:type_of% @FA.cont:=@FA.cont
theorem gB:type_of% @FA.ret:=@FA.ret
theorem uB:type_of% @FA.stop:=@FA.stop
theorem xA:type_of% @BF.getD:=@BF.getD
theorem jD:type_of% @BF.mk:=@BF.mk
theorem PB:type_of% @BF.nil:=@BF.nil
theorem aC:type_of% @bD.lit:=@bD.lit
end Go.X
