/- Bits, remainders; bytes out of a text. -/
import Derived.Test.YtikkoidgamlgnaaE20
import Derived.Lib.ConvBytes
set_option linter.unusedVariables false
set_option linter.unusedSimpArgs false
namespace Go.X
open Go.RowKit
def TH(k:IntKind)(a b:Int):Int:=k.wrap ((BitVec.ofInt k.bits a &&& BitVec.ofInt k.bits b).toNat:Int)
section
variable {P:Program}{o:Oper}{L:List (Nat×Value)}{w:World}{R:Value→World→Prop}
theorem ML{x y:Operand}{t t':TypeId}{k:IntKind}{a b:Int}(ho:o.op=.binOp .and t x y t')(hx:tD L x=some (.int k a))(hy:tD L y=some (.int k b))(hR:R (.int k (TH k a b)) w):Yl P o L w R:=
 Yl.val (fun ρ hρ=>by
  simp[execOp,ho,hρ x _ hx,hρ y _ hy,JD,binOp,Op.intArith,Op.intBits];rfl) hR
end
theorem FJ{a b:Int}(h0:0≤a)(h:0<b):0≤Int.tmod a b∧Int.tmod a b<b∧Int.tmod a b≤a:=by
 refine⟨Int.tmod_nonneg _ h0,Int.tmod_lt_of_pos _ h,?_⟩
 rcases Int.lt_or_le a b with hl | hl
 ·rw[Int.tmod_eq_emod_of_nonneg h0,Int.emod_eq_of_lt h0 hl];exact Int.le_refl _
 ·have:=Int.tmod_lt_of_pos a h;omega
theorem qL(a:Int):0≤TH .u64 a 255∧TH .u64 a 255≤255:=by
 have h:(BitVec.ofInt IntKind.u64.bits a &&& BitVec.ofInt IntKind.u64.bits 255).toNat≤255:=by
  rw[BitVec.toNat_and]
  exact Nat.le_trans Nat.and_le_right (by decide)
 unfold TH
 generalize (BitVec.ofInt IntKind.u64.bits a &&& BitVec.ofInt IntKind.u64.bits 255).toNat=n at h
 have:IntKind.wrap .u64 (n:Int)=(n:Int):=by
  simp[IntKind.wrap,IntKind.bits,IntKind.signed];omega
 rw[this];omega
def rE(l:List Int):Prop:=∀x∈l,0≤x∧x≤255
theorem LK{l:List Int}(h:rE l)(k:Nat):0≤l.getD k GG∧l.getD k GG≤255:=by
 rcases Nat.lt_or_ge k l.length with hk | hk
 ·exact h _ (jG hk)
 ·rw[List.getD,List.getElem?_eq_none hk];decide
theorem rE.drop{l:List Int}(h:rE l)(k:Nat):rE (l.drop k):=fun x hx=>h x (List.mem_of_mem_drop hx)
end Go.X
