/- Elements that nobody looks into: a list of them is a list of numbers, cl tells each number's cell; a change of one block as a step of Mut. -/
import Derived.Test.YtikkoidgamlgnaaE33
set_option linter.unusedVariables false
set_option linter.unusedSimpArgs false
namespace Go.X
open Go.RowKit
section
variable {cl:Nat→Value}
end
theorem vB:type_of% @Below.only:=@Below.only
theorem eB:type_of% @lE.chg:=@lE.chg
theorem lA:type_of% @lE.ex:=@lE.ex
theorem PD:type_of% @lE.grown:=@lE.grown
theorem FA:type_of% @lE.lt:=@lE.lt
theorem wB:type_of% @lE.only:=@lE.only
theorem VA:type_of% @CW.block:=@CW.block
theorem zA:type_of% @CW.cond_f:=@CW.cond_f
theorem AA:type_of% @CW.cond_t:=@CW.cond_t
theorem ZE:type_of% @CW.drawsG:=@CW.drawsG
theorem aC:type_of% @CW.exit:=@CW.exit
theorem tC:type_of% @CW.loop:=@CW.loop
theorem MA:type_of% @CW.region:=@CW.region
theorem qA:type_of% @CW.ret:=@CW.ret
theorem pA:type_of% @CW.seq:=@CW.seq
theorem IA:type_of% @CW.skip:=@CW.skip
theorem SA:type_of% @CW.sub:=@CW.sub
theorem mA:type_of% @FE.mono:=@FE.mono
theorem ZA:type_of% @FE.of:=@FE.of
theorem rC:type_of% @jF.ex:=@jF.ex
theorem xD:type_of% @UC.of_ex:=@UC.of_ex
theorem TD:type_of% @UC.of_grown:=@UC.of_grown
theorem LC:type_of% @UC.refl:=@UC.refl
theorem xB:type_of% @UC.tchg:=@UC.tchg
theorem BC:type_of% @UC.tex:=@UC.tex
theorem wC:type_of% @UC.tonly:=@UC.tonly
theorem DA:type_of% @Ex.refl:=@Ex.refl
theorem gA:type_of% @Ex.size:=@Ex.size
theorem bA:type_of% @Ex.trans:=@Ex.trans
theorem mE:type_of% @Gh.off:=@Gh.off
theorem IC:type_of% @Gh.ufh:=@Gh.ufh
theorem JC:type_of% @Gh.ufl:=@Gh.ufl
theorem UA:type_of% @LK.det:=@LK.det
theorem BA:type_of% @IH.op':=@IH.op'
theorem jC:type_of% @IH.want:=@IH.want
theorem zB:type_of% @AB.chg:=@AB.chg
theorem kF:type_of% @AB.empty:=@AB.empty
theorem tB:type_of% @AB.ex:=@AB.ex
theorem hC:type_of% @AB.more:=@AB.more
theorem rF:type_of% @AB.nil:=@AB.nil
theorem mD:type_of% @AB.of_box:=@AB.of_box
theorem iC:type_of% @AB.only:=@AB.only
theorem xC:type_of% @AB.rd:=@AB.rd
theorem yD:type_of% @AB.rdI:=@AB.rdI
theorem zE:type_of% @AD.ex:=@AD.ex
theorem nE:type_of% @cD.aD:=@cD.aD
theorem dE:type_of% @cD.atD:=@cD.atD
theorem ME:type_of% @cD.big:=@cD.big
theorem KC:type_of% @cD.chg:=@cD.chg
theorem QE:type_of% @cD.drop:=@cD.drop
theorem fB:type_of% @cD.ex:=@cD.ex
theorem QF:type_of% @cD.sl:=@cD.sl
theorem HD:type_of% @cD.src:=@cD.src
theorem mC:type_of% @cD.up:=@cD.up
theorem HA:type_of% @SD.done:=@SD.done
theorem JB:type_of% @SD.u:=@SD.u
theorem TA:type_of% @JI.det:=@JI.det
theorem ID:type_of% @Sub.nil:=@Sub.nil
theorem RA:type_of% @Yl.sameG:=@Yl.sameG
theorem WC:type_of% @Yl.sameI:=@Yl.sameI
theorem pB:type_of% @kB.cont:=@kB.cont
theorem MC:type_of% @kB.ret:=@kB.ret
theorem nC:type_of% @kB.stop:=@kB.stop
theorem ED:type_of% @GC.brk:=@GC.brk
theorem tD:type_of% @GC.cont:=@GC.cont
theorem oE:type_of% @okE.append:=@okE.append
theorem VB:type_of% @okE.cons:=@okE.cons
theorem JD:type_of% @okE.nil:=@okE.nil
theorem HB:type_of% @PF.getD:=@PF.getD
theorem XB:type_of% @PF.mk:=@PF.mk
theorem dF:type_of% @PF.nil:=@PF.nil
theorem bC:type_of% @aF.lit:=@aF.lit
end Go.X
