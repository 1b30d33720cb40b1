/- Texts that are cut at a byte. -/
import Derived.Test.YtoimdjojffkefaaGreatDoorE15
set_option linter.unusedVariables false
set_option linter.unusedSimpArgs false
namespace Go.X
open Go.RowKit
theorem WH(c:UInt8):∀l:List UInt8,(c∉l∧Lib.indexByte l c=-1)∨∃a r,l=a++c::r∧c∉a∧Lib.indexByte l c=(a.length:Int)
 | []=>.inl ⟨by simp,rfl⟩
 | b::l=>by
  unfold Lib.indexByte
  by_cases h:b=c
  ·subst h
   exact .inr ⟨[],l,rfl,by simp,by simp⟩
  ·have hb:(b==c)=false:=by simp[h]
   rcases WH c l with⟨h1,h2⟩ | ⟨a,r,h1,h2,h3⟩
   ·refine .inl ⟨by simp[h1,Ne.symm h],?_⟩
    rw[hb,h2];rfl
   ·refine .inr ⟨b::a,r,by rw[h1];rfl,by simp[h2,Ne.symm h],?_⟩
    have h4:(Lib.indexByte l c==-1)=false:=by rw[h3];simp only[beq_eq_false_iff_ne,ne_eq];omega
    rw[hb,h4,h3]
    simp only[Bool.false_eq_true,if_false,List.length_cons];omega
def sp(c:UInt8):QA→List QA
 | []=>[[]]
 | b::s=>if b=c then[]::sp c s else((b::(sp c s).headD [])::(sp c s).tail)
theorem aX(c:UInt8):∀s,0<(sp c s).length
 | []=>by unfold sp;simp
 | b::s=>by unfold sp;split<;>simp
theorem AM{c:UInt8}:∀{a:QA},c∉a→sp c a=[a]
 | [],_=>rfl
 | b::s,h=>by
  have h1:b≠c:=fun e=>h (by simp[e])
  have h2:c∉s:=fun e=>h (by simp[e])
  unfold sp;rw[if_neg h1,AM h2];rfl
theorem AJ{c:UInt8}{r:QA}:∀{a:QA},c∉a→sp c (a++c::r)=a::sp c r
 | [],_=>by
  show sp c (c::r)=_;conv=>lhs;unfold sp
  rw[if_pos rfl]
 | b::s,h=>by
  have h1:b≠c:=fun e=>h (by simp[e])
  have h2:c∉s:=fun e=>h (by simp[e])
  show sp c (b::(s++c::r))=_
  conv=>lhs;unfold sp
  rw[if_neg h1,AJ h2];rfl
theorem PP(c:UInt8)(s:QA):c∉s∨∃a r,s=a++c::r∧c∉a:=by
 rcases WH c s with⟨h,_⟩ | ⟨a,r,h,h2,_⟩
 ·exact .inl h
 ·exact .inr ⟨a,r,h,h2⟩
end Go.X
