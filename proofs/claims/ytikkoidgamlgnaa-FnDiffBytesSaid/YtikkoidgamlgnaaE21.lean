/- Bits, remainders; bytes out of a text. -/
import Derived.Test.YtikkoidgamlgnaaE20
import Derived.Lib.ConvBytes
set_option linter.unusedVariables false
set_option linter.unusedSimpArgs false
namespace Go.X
open Go.RowKit
def SJ(k:IntKind)(a b:Int):Int:=k.wrap ((BitVec.ofInt k.bits a &&& BitVec.ofInt k.bits b).toNat:Int)
def oK(k:IntKind)(a b:Int):Int:=k.wrap ((BitVec.ofInt k.bits a ^^^ BitVec.ofInt k.bits b).toNat:Int)
section
variable {P:Program}{o:Oper}{L:List (Nat×Value)}{w:World}{R:Value→World→Prop}
theorem xO{x y:Operand}{t t':TypeId}{k:IntKind}{a b:Int}(ho:o.op=.binOp .and t x y t')(hx:aE L x=some (.int k a))(hy:aE L y=some (.int k b))(hR:R (.int k (SJ k a b)) w):Yl P o L w R:=
 Yl.val (fun ρ hρ=>by
  simp[execOp,ho,hρ x _ hx,hρ y _ hy,OE,binOp,Op.intArith,Op.intBits];rfl) hR
theorem OP{x y:Operand}{t t':TypeId}{k:IntKind}{a b:Int}(ho:o.op=.binOp .xor t x y t')(hx:aE L x=some (.int k a))(hy:aE L y=some (.int k b))(hR:R (.int k (oK k a b)) w):Yl P o L w R:=
 Yl.val (fun ρ hρ=>by
  simp[execOp,ho,hρ x _ hx,hρ y _ hy,OE,binOp,Op.intArith,Op.intBits];rfl) hR
end
theorem OH{a b:Int}(h0:0≤a)(h:0<b):0≤Int.tmod a b∧Int.tmod a b<b∧Int.tmod a b≤a:=by
 refine⟨Int.tmod_nonneg _ h0,Int.tmod_lt_of_pos _ h,?_⟩
 rcases Int.lt_or_le a b with hl | hl
 ·rw[Int.tmod_eq_emod_of_nonneg h0,Int.emod_eq_of_lt h0 hl];exact Int.le_refl _
 ·have:=Int.tmod_lt_of_pos a h;omega
theorem WN(a:Int):0≤SJ .u64 a 255∧SJ .u64 a 255≤255:=by
 have h:(BitVec.ofInt IntKind.u64.bits a &&& BitVec.ofInt IntKind.u64.bits 255).toNat≤255:=by
  rw[BitVec.toNat_and]
  exact Nat.le_trans Nat.and_le_right (by decide)
 unfold SJ
 generalize (BitVec.ofInt IntKind.u64.bits a &&& BitVec.ofInt IntKind.u64.bits 255).toNat=n at h
 have:IntKind.wrap .u64 (n:Int)=(n:Int):=by
  simp[IntKind.wrap,IntKind.bits,IntKind.signed];omega
 rw[this];omega
def RE(l:List Int):Prop:=∀x∈l,0≤x∧x≤255
theorem RK{l:List Int}(h:RE l)(k:Nat):0≤l.getD k AG∧l.getD k AG≤255:=by
 rcases Nat.lt_or_ge k l.length with hk | hk
 ·exact h _ (vH hk)
 ·rw[List.getD,List.getElem?_eq_none hk];decide
theorem RE.drop{l:List Int}(h:RE l)(k:Nat):RE (l.drop k):=fun x hx=>h x (List.mem_of_mem_drop hx)
end Go.X
