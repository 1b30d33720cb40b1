/- '[]byte(s)' of a string, and a store into it: the row of a conversion is marked beyond its last cell. -/
import Derived.Test.YtikkoidgamlgnaaE32
import Derived.Lib.ConvBytes
import Derived.Lib.FrozenHead
import Derived.Laws.AppendOwn
set_option linter.unusedVariables false
set_option linter.unusedSimpArgs false
namespace Go.X
open Go.RowKit
def Cv(w:World)(b:Nat)(E:TypeId)(xs:List Int):Prop:=
 ∃(rest:List Value) (z:Nat),w.heap[b]? = some (.cells (xs.map (Value.int .u8)++rest).toArray E (z,z+1))∧xs.length≤z
def MG(s:uB):List Int:=s.map fun u=>(u.toNat:Int)
theorem eG(s:uB):(MG s).length=s.length:=List.length_map ..
theorem eP(s:uB):NI (MG s)=s:=by
 unfold NI MG
 rw[List.map_map]
 conv=>rhs;rw[←List.map_id s]
 refine List.map_congr_left fun u _=>?_
 simp
theorem SG.only{α:Type}{R:xH α}{RO:TG α}{w w':World}{lo hi E sz n c i:Nat}{A:Option Addr}{xs:List α}{b:Nat}{v:Nat×Nat}{e:List Value}(hG:dI RO R)(h:SG w lo hi E sz RO A n c xs i v e)(x:HH b w w')(hb:b<lo∨hi≤b∨(v.1≤b∧b<v.2)):SG w' lo hi E sz RO A n c xs i v e:=
 h.keep hG fun k h1 h2 h3 _=>x.block k (by omega)
section
variable {P:Program}{o:Oper}{L:List (Nat×Value)}{w w':World}{R:Value→World→Prop}{b c:Nat}{E:TypeId}{xs:List Int}
theorem Cv.lt(h:Cv w b E xs):b<w.heap.size:=by
 obtain⟨r,z,h,_⟩:=h
 rcases Nat.lt_or_ge b w.heap.size with hlt | hge
 ·exact hlt
 ·rw[Array.getElem?_eq_none hge]at h;cases h
theorem Cv.ex(h:Cv w b E xs)(e:Ex w w'):Cv w' b E xs:=by
 have hb:=h.lt
 obtain⟨r,z,h,k⟩:=h
 exact⟨r,z,(Below.block e b hb).trans h,k⟩
theorem Cv.rd(h:Cv w b E xs)(h1:xs.length≤c)(h2:c≤maxLen)(h3:xs.length≤281474976710656):cD w (Iv b w.heap.size) (RF sF) 1 (some ⟨b,0,none⟩) xs.length c xs:=by
 have hb:=h.lt
 obtain⟨r,z,h,k⟩:=h
 refine⟨rfl,h1,⟨h2,h3⟩,xs.map (Value.int .u8),?_,.inr ⟨b,0,rfl,?_,hb,?_⟩⟩
 ·clear h1 h3 h k
  induction xs with
  | nil=>exact TB.nil
  | cons x xs ih=>exact TB.cons (c:=[Value.int .u8 x]) rfl rfl ih
 ·exact⟨Nat.le_refl _,hb⟩
 ·intro j u hu
  rw[Nat.zero_add]
  have hj:j<(xs.map (Value.int .u8)).length:=by
   rcases Nat.lt_or_ge j (xs.map (Value.int .u8)).length with hlt | hge
   ·exact hlt
   ·rw[List.getElem?_eq_none hge]at hu;cases hu
  simp only[World.cell?,h,List.getElem?_toArray]
  rw[List.getElem?_append_left hj]
  exact hu
theorem NP{x:Operand}{src dst e:TypeId}{s:uB}(hs:P.underlying src=some .string)(hd:P.underlying dst=some (.slice e))(he:P.underlying e=some (.int .u8))
  (ho:o.op=.convert src dst x) (hx:aE L x=some (.string (bs s))) (hl:s.length≤1073741824)
  (hR:∀b c w',w.heap.size=b→w'.heap.size=b+1→Cv w' b e (MG s)→cD w' (Iv b w'.heap.size) (RF sF) 1 (some ⟨b,0,none⟩) (MG s).length c (MG s)→Ex w w'→R (.slice (some ⟨b,0,none⟩) (MG s).length c) w'):Yl P o L w R:=fun ρ hρ=>by
 have hc:=Lib.run_convert_string_bytes (P:=P) w src dst e (bs s) hs hd he
 have hge:s.length≤grownCap w (bs s).size 0 e:=grownCap_ge w (bs s).size 0 e
 have hle:=grownCap_le_maxLen w (bs s).size 0 e (by rw[zH];simp only[maxLen];omega)
 have hrow:=Lib.bytesWorld_at_new w e (bs s)
 have hsz:=Lib.bytesWorld_size w e (bs s)
 have hex:Ex w (Lib.bytesWorld w e (bs s)):=⟨rfl,rfl,rfl,by rw[hsz];omega,fun k hk=>Lib.bytesWorld_at_old w e (bs s) k hk⟩
 generalize Lib.bytesWorld w e (bs s)=w1 at hc hrow hsz hex
 have hbc:Lib.bytesCells w e (bs s)=((MG s).map (Value.int .u8)++List.replicate (grownCap w (bs s).size 0 e-(bs s).size) (Value.int .u8 0)).toArray:=by
  unfold Lib.bytesCells MG bs
  apply Array.ext'
  simp[List.map_map,Function.comp_def]
 rw[hbc]at hrow
 generalize grownCap w (bs s).size 0 e=c at hc hge hle hrow
 have hcv:Cv w1 w.heap.size e (MG s):=⟨_,_,hrow,by rw[List.size_toArray,List.length_append,List.length_map];omega⟩
 have e2:(execOp ρ o).run P w=.ok (.value (.slice (some ⟨w.heap.size,0,none⟩) (MG s).length c)) w1:=by
  simp only[execOp,ho,hρ x _ hx]
  rw[Sem.run_bind,hc,eG]
  rfl
 unfold eK
 rw[e2]
 exact hR _ c _ rfl hsz hcv (hcv.rd (by rw[eG];exact hge) hle (by rw[eG];omega)) hex
theorem Cv.rdn{w0:World}{S:Nat→Prop}{n:Nat}{ys:List Int}(h:Cv w b E ys)(k:cD w0 S (RF sF) 1 (some ⟨b,0,none⟩) n c xs)(hl:ys.length=xs.length):cD w (Iv b w.heap.size) (RF sF) 1 (some ⟨b,0,none⟩) n c ys:=by
 have h1:=k.1
 have h2:=k.2.1
 have h3:=k.2.2.1
 have q:=h.rd (c:=c) (by omega) h3.1 (by omega)
 rw[hl,←h1]at q
 exact q
theorem DN{x y:Operand}{T:TypeId}{by_ i b' off:Nat}{z:Option Value}{ag:Bool}{n:Int}(hT:gH P T=some (1,by_,z,ag))(ho:o.op=.store T x y)(hB:Cv w b E xs)
  (hA:some ⟨b,0,none⟩=some (⟨b',off,none⟩:Addr)) (hx:aE L x=some (.pointer (some ⟨b',off+i*1,none⟩))) (hy:aE L y=some (.int .u8 n)) (hi:i<xs.length)
  (hR:∀w',Cv w' b E (xs.set i n)→HH b w w'→R undef w'):Yl P o L w R:=fun ρ hρ=>by
 simp only[Option.some.injEq,Addr.mk.injEq]at hA
 obtain⟨rfl,rfl,-⟩:=hA
 rw[Nat.zero_add,Nat.mul_one]at hx
 obtain⟨rest,k,hrow,hk⟩:=hB
 have hadd:(⟨b,i,none⟩:Addr).add 0=⟨b,i,none⟩:=by unfold Addr.add;split<;>simp_all
 have hlt:i<(xs.map (Value.int .u8)++rest).length:=by rw[List.length_append,List.length_map];omega
 have hcell:w.cell? ⟨b,i,none⟩=some ((xs.map (Value.int .u8)++rest)[i]):=by
  simp[World.cell?,hrow,List.getElem?_eq_getElem hlt]
 have hfro:w.frozen? ⟨b,i,none⟩=false:=by
  have:¬k≤i:=by omega
  simp[World.frozen?,hrow,this]
 have hst:(store ((⟨b,i,none⟩:Addr).add 0) (.int .u8 n)).run P w=.ok () (w.setRow b ((xs.map (Value.int .u8)++rest).toArray.setIfInBounds i (Value.int .u8 n))):=by
  rw[hadd,run_store P w _ _ _ rfl,hcell]
  simp[hfro,setCell_eq_setRow w b i _ _ _ _ hrow]
 have e:(execOp ρ o).run P w=.ok .skip (w.setRow b ((xs.set i n).map (Value.int .u8)++rest).toArray):=by
  simp only[execOp,ho,hρ x _ hx,hρ y _ hy,Instr.storeAt,Instr.sureAddr,pure_bind,storeVar,Sem.run_bind,HG hT,Result.andThen_ok]
  have h1:¬((Value.int .u8 n).cells.size≠1):=by simp[Value.cells]
  rw[if_neg h1]
  have h2:(Value.int .u8 n).cells.toList=[.int .u8 n]:=rfl
  simp only[h2,storeCells,Sem.run_bind,hst,Result.andThen_ok,Sem.run_pure]
  congr 2
  simp[List.map_set,List.set_append,List.length_map,show i<xs.length from hi]
 unfold eK
 rw[e]
 refine hR _ ⟨rest,k,setRow_heap w b _ _ _ _ hrow,by rw[List.length_set];exact hk⟩ (MJ _ _ _)
end
end Go.X
