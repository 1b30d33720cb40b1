/- Lists of flat elements: cells by a plain function; copy, cap, an append of zero values, slices.overlaps; what an insertion leaves. -/
import Derived.Test.YtoimdjojffkefaaGreatDoorE28
import Derived.Lib.AppendZerosOnto
import Derived.Lib.Overlaps
set_option linter.unusedVariables false
set_option linter.unusedSimpArgs false
namespace Go.X
open Go.RowKit
section
variable {α:Type}{enc:α→List Value}{k:Nat}
theorem ZO(hk:∀x,(enc x).length=k){w:World}{S:Nat→Prop}:∀xs:List α,AD (RF enc w S) k (xs.flatMap enc) xs
 | []=>.nil
 | x::xs=>by rw[List.flatMap_cons];exact .cons (hk x) rfl (ZO hk xs)
theorem AD.flat{w:World}{S:Nat→Prop}{cs:List Value}{xs:List α}(h:AD (RF enc w S) k cs xs):cs=xs.flatMap enc:=by
 induction h with
 | nil=>rfl
 | cons _ h _ ih=>rw[List.flatMap_cons,ih,h]
theorem tE(hk:∀x,(enc x).length=k):∀xs:List α,(xs.flatMap enc).length=xs.length*k
 | []=>(Nat.zero_mul k).symm
 | x::xs=>by rw[List.flatMap_cons,List.length_append,hk,tE hk xs,List.length_cons,Nat.succ_mul,Nat.add_comm]
theorem XQ(h1:∀x,∀v∈enc x,v.oneCell'=true)(xs:List α):∀u∈xs.flatMap enc,u.oneCell'=true:=fun u hu=>by
 obtain⟨x,_,hx⟩:=List.mem_flatMap.1 hu
 exact h1 x u hx
theorem lB.flatBox{w:World}{lo hi E n c:Nat}{A:Option Addr}{xs:List α}(h:lB w lo hi E k (RF enc) A n c xs)(hn:0<n) :
  ∃g rest,A=some ⟨g,0,none⟩∧g<w.heap.size∧lo≤g∧g<hi∧fF w g E (xs.flatMap enc++rest)∧rest.length=(c-n)*k∧n≤c∧c≤maxLen∧n=xs.length∧n≤281474976710656:=by
 obtain⟨a,S,cells,ho',he,h3,h4⟩:=h.full hn
 obtain⟨f1,f2,hf⟩:=ho'.form
 rcases hf with⟨_,h0⟩ | ⟨g,hA,hlo,hlt'⟩
 ·omega
 subst hA
 obtain⟨rest,hB,hr,hnc,hcm,hlo2⟩:=ho'.box
 have hg:=a g rfl
 exact⟨g,rest,rfl,hB.lt,hg.1,hg.2,by rw[←he.flat];exact hB,hr,hnc,hcm,h.1,ho'.2⟩
theorem lB.of_flatBox{w:World}{lo hi E n c g:Nat}{xs:List α}{rest:List Value}(hk:∀x,(enc x).length=k)(hB:fF w g E (xs.flatMap enc++rest))(hr:rest.length=(c-n)*k)(hnc:n≤c)(hc:c≤maxLen)(hn:n=xs.length)(hb:n≤281474976710656)(hg:lo≤g∧g<hi):lB w lo hi E k (RF enc) (some ⟨g,0,none⟩) n c xs:=
 ⟨hn,.inr ⟨fun k hk=>by simp only[blk,Option.some.injEq]at hk;omega,fun _=>False,_,Own.of_box' hB (by rw[tE hk,hn]) hr hnc hc hg.1 hb,ZO hk xs,fun _ _ h=>h,fun _ h=>h.elim⟩⟩
end
section
variable {P:Program}{o:Oper}{L:List (Nat×Value)}{w:World}{R:Value→World→Prop}
theorem EW{x:Operand}{t e:TypeId}{A:Option Addr}{n c:Nat}(hu:P.underlying t=some (.slice e))(ho:o.op=.call { callee:=.builtin .cap,args:=#[x],argTypes:=#[t]})(hx:nF L x=some (.slice A n c))(hR:R (.int .i64 (c:Int)) w):Yl P o L w R:=
 .val (fun ρ hρ=>by simp[execOp,ho,hρ x _ hx,resolve,invoke,builtin,Builtin.cap_,run_underlying hu,goInt]) hR
theorem DM{d s:Operand}{t E sz by_ g off dl dc b so sl sc m T0:Nat}{z:Option Value}{ag:Bool}{cur cs:List Value}(ht:P.underlying t=some (.slice E))(hE:QI P E=some (sz,by_,z,ag))
  (ho:o.op=.call { callee:=.builtin .copy,args:=#[d,s],argTypes:=#[t,t]}) (hd:nF L d=some (.slice (some ⟨g,off,none⟩) dl dc)) (hs:nF L s=some (.slice (some ⟨b,so,none⟩) sl sc))
  (hB:fF w g T0 cur) (hc:eG w b so cs) (hl:cs.length=m*sz) (hm:Nat.min sl dl=m) (hfit:off+cs.length≤cur.length) (h1:∀u∈cs,u.oneCell'=true)
  (hR:∀w',fF w' g T0 (PC cur off cs)→sK g w w'→R (.int .i64 (m:Int)) w'):Yl P o L w R:=fun ρ hρ=>by
 have hl2:=run_loadCells_list (P:=P) w ⟨b,so,none⟩ cs (fun j u hu=>by rw[VH];exact hc j u hu)
 have hst:=run_storeCells_at (P:=P) g off T0 cs 0 cur.toArray w hB (by simpa using hfit) h1
 have e:(execOp ρ o).run P w=.ok (.value (.int .i64 (m:Int))) (w.setRow g (PC cur off cs).toArray):=by
  simp only[Nat.add_zero]at hst
  have hst':(storeCells ⟨g,off,none⟩ cs).run P w=.ok () (w.setRow g (PC cur off cs).toArray):=hst
  simp[execOp,ho,hρ d _ hd,hρ s _ hs,resolve,invoke,builtin,Builtin.copy_,run_underlying ht,Builtin.lenOf,Builtin.firstCells,EI hE,hm,←hl,hl2,hst',goInt]
 unfold bN
 rw[e]
 refine hR _ ?_ (tL _ _ _)
 unfold fF
 exact setRow_heap w g cur.toArray _ T0 _ hB
theorem GS{s x:Operand}{t tn E sz by_ n c q nq:Nat}{z:Value}{ag:Bool}{A:Option Addr}{olds:List Value}(ht:P.underlying t=some (.slice E))(htn:P.underlying tn=some (.int .i64))(hE:QI P E=some (sz,by_,some z,ag))(hzs:z.cells.size=sz)(hsz:0<sz)(hz1:z.cells.toList.all Value.oneCell'=true)
  (ho:o.op=.call { callee:=.builtin .append,args:=#[s,x],argTypes:=#[t,tn]}) (hs:nF L s=some (.slice A n c)) (hx:nF L x=some (.int .i64 (q:Int))) (hsrc:Src w sz A n olds) (hnq:n+q=nq) (h0:0<q) (hg:c<n+q) (h63:n+q≤281474976710656) (hb:(n+q)*by_≤140737488355328)
  (hR:∀c' zs w',nq≤c'→c'≤maxLen→zs.length=(c'-n)*sz→fF w' w.heap.size E (olds++zs)→Ex w w'→w'.heap.size=w.heap.size+1→R (.slice (some ⟨w.heap.size,0,none⟩) nq c') w'):Yl P o L w R:=fun ρ hρ=>by
 subst hnq
 obtain⟨ie,de,hi,hd,hs1,hb1,hzz,ha1⟩:=QI.spec hE
 have hold:(Builtin.firstCells ie.size n (.slice A n c)).run P w.drew=.ok olds.toArray w.drew:=by
  rcases hsrc with⟨hn,ho⟩ | ⟨b,off,hA,hl,hc⟩
  ·subst hn;subst ho
   rcases A with _ | a<;>simp[Builtin.firstCells,loadCells,loadCellsFrom]
  ·subst hA
   have:=run_loadCells_list (P:=P) w.drew ⟨b,off,none⟩ olds (fun j u hu=>by rw[VH];exact hc j u hu)
   simp only[Builtin.firstCells,hs1,←hl]
   exact this
 have hfit:Builtin.nextslicecap (n+q) c*ie.bytes≤281474976710656:=by rw[hb1];exact growslice_fits hg hb
 have hqb:q*ie.bytes≤281474976710656:=by
  rw[hb1]
  have:=Nat.mul_le_mul_right by_ (show q≤n+q by omega)
  omega
 have hrun:=Lib.run_append_grow_zeros (P:=P) w t tn o.type E ie z .i64 .i64 ht htn hi hzz A n c olds hold q h0 (by omega) hg (by omega) hqb hfit
 have hge:=grownCap_ge w (n+q) c E
 have hle:=grownCap_le_maxLen w (n+q) c E (by unfold maxLen;omega)
 generalize grownCap w (n+q) c E=G at hrun hge hle
 have e:(execOp ρ o).run P w=.ok (.value (.slice (some ⟨w.heap.size,0,none⟩) (n+q) G)) (w.drew.alloc (.cells (olds.toArray++Builtin.zeroCells z.cells q++Builtin.zeroCells z.cells (G-(n+q))) E)):=by
  simp[execOp,ho,hρ s _ hs,hρ x _ hx,resolve,invoke,builtin,hrun]
 unfold bN
 rw[e]
 have hrow:(olds.toArray++Builtin.zeroCells z.cells q++Builtin.zeroCells z.cells (G-(n+q)))=(olds++((Builtin.zeroCells z.cells q).toList++(Builtin.zeroCells z.cells (G-(n+q))).toList)).toArray:=by
  apply Array.toList_inj.1;simp
 rw[hrow]
 have hzl:((Builtin.zeroCells z.cells q).toList++(Builtin.zeroCells z.cells (G-(n+q))).toList).length=(G-n)*sz:=by
  rw[List.length_append,Array.length_toList,Array.length_toList,size_zeroCells,size_zeroCells,hzs,←Nat.add_mul]
  congr 1;omega
 obtain⟨f1,f2,f3⟩:=dJ w.drew (olds++((Builtin.zeroCells z.cells q).toList++(Builtin.zeroCells z.cells (G-(n+q))).toList)) E
 refine hR G _ _ hge hle hzl f2 ⟨rfl,rfl,rfl,?_,fun j hj=>f3.block j hj⟩ f1
 exact f3.size
theorem AR{f:FuncId}{args:List Operand}{ts:Array TypeId}{t e r by_ sz b1 o1 l1 c1 b2 o2 l2 c2 T1 T2:Nat}{z:Option Value}{ag:Bool}{k1 k2:List Value}(hx:PW P f (Extern.SlicesOverlaps.overlaps #[t,t] #[r]))(ht:P.underlying t=some (.slice e))(hE:QI P e=some (sz,by_,z,ag))
  (ho:o.op=.call { callee:=.value (.func f),args:=args.toArray,argTypes:=ts}) (ha:IL L args=some [.slice (some ⟨b1,o1,none⟩) l1 c1,.slice (some ⟨b2,o2,none⟩) l2 c2]) (hne:b1≠b2) (h1:fF w b1 T1 k1) (h2:fF w b2 T2 k2) (hk:0<k2.length) (hR:R (.bool false) w):Yl P o L w R:=
 eV hx ho ha (Lib.run_overlaps_apart w t r e ht sz (EI hE) ⟨b1,o1,none⟩ ⟨b2,o2,none⟩ l1 c1 l2 c2 hne T1 T2 k1.length k2.length
  (by unfold fF at h1;simp[World.shape?,h1]) (by unfold fF at h2;simp[World.shape?,h2]) (by omega) (by unfold fF at h1;simp[World.frozen?,h1]) (by unfold fF at h1;simp[World.frozen?,h1])) hR
end
theorem yS{p x q r:List Value}(hr:x.length+q.length≤r.length):PC (PC (p++r) p.length x) (p.length+x.length) q=p++(x++(q++r.drop (x.length+q.length))):=by
 have e1:PC (p++r) p.length x=(p++x)++r.drop x.length:=by
  simp only[PC]
  rw[List.take_left' rfl,List.drop_append,List.drop_eq_nil_of_le (by omega),List.nil_append]
  congr 2;omega
 rw[e1]
 have e2:p.length+x.length=(p++x).length:=by rw[List.length_append]
 rw[e2]
 simp only[PC]
 rw[List.take_left' rfl,List.drop_append,List.drop_eq_nil_of_le (by omega),List.nil_append,List.drop_drop]
 simp only[List.append_assoc]
 congr 4;omega
theorem iQ{p x q r:List Value}(hr:x.length≤r.length):PC (PC (p++(q++r)) (p.length+x.length) q) p.length x=p++(x++(q++r.drop x.length)):=by
 have hl:(PC (p++(q++r)) (p.length+x.length) q).length=(p++(q++r)).length:=dI (by simp only[List.length_append];omega)
 have e1:(PC (p++(q++r)) (p.length+x.length) q).take p.length=p:=by
  simp only[PC]
  rw[List.append_assoc,List.take_append_of_le_length (by rw[List.length_take,List.length_append];omega),List.take_take,Nat.min_eq_left (by omega),List.take_left' rfl]
 have e2:(PC (p++(q++r)) (p.length+x.length) q).drop (p.length+x.length)=q++r.drop x.length:=by
  simp only[PC]
  rw[List.append_assoc,List.drop_append,List.drop_eq_nil_of_le (by rw[List.length_take];omega),List.nil_append,List.length_take,Nat.min_eq_left (by simp only[List.length_append];omega),Nat.sub_self,List.drop_zero]
  congr 1
  rw[List.drop_append,List.drop_eq_nil_of_le (by omega),List.nil_append,List.drop_append,List.drop_eq_nil_of_le (by omega),List.nil_append]
  congr 1;omega
 rw[show PC (PC (p++(q++r)) (p.length+x.length) q) p.length x=(PC (p++(q++r)) (p.length+x.length) q).take p.length++x++(PC (p++(q++r)) (p.length+x.length) q).drop (p.length+x.length)from rfl,e1,e2,List.append_assoc]
section
variable {α:Type}{enc:α→List Value}{k:Nat}
theorem bP(hk:∀x,(enc x).length=k):∀(xs:List α) (i:Nat),(xs.take i).flatMap enc=(xs.flatMap enc).take (i*k)
 | [],i=>by simp
 | x::xs,0=>by simp
 | x::xs,i+1=>by
  have h1:(enc x).take (i*k+k)=enc x:=List.take_of_length_le (by rw[hk];omega)
  rw[List.take_succ_cons,List.flatMap_cons,List.flatMap_cons,bP hk xs i,List.take_append,hk,Nat.succ_mul,h1,Nat.add_sub_cancel]
theorem aP(hk:∀x,(enc x).length=k):∀(xs:List α) (i:Nat),(xs.drop i).flatMap enc=(xs.flatMap enc).drop (i*k)
 | [],i=>by simp
 | x::xs,0=>by simp
 | x::xs,i+1=>by
  have h1:(enc x).drop (i*k+k)=[]:=List.drop_eq_nil_of_le (by rw[hk];omega)
  rw[List.drop_succ_cons,List.flatMap_cons,aP hk xs i,List.drop_append,hk,Nat.succ_mul,h1,List.nil_append,Nat.add_sub_cancel]
theorem fF.flatTake{w:World}{g E:Nat}{xs:List α}{r:List Value}(hk:∀x,(enc x).length=k)(hB:fF w g E (xs.flatMap enc++r)){i:Nat}(hi:i≤xs.length):eG w g 0 ((xs.take i).flatMap enc):=by
 have hm:=Nat.mul_le_mul_right k hi
 refine hB.cells (o:=0) (n:=i*k) ?_
 rw[List.drop_zero,List.take_append_of_le_length (by rw[tE hk];exact hm),bP hk]
theorem fF.flatDrop{w:World}{g E:Nat}{xs:List α}{r:List Value}(hk:∀x,(enc x).length=k)(hB:fF w g E (xs.flatMap enc++r)){i:Nat}(hi:i≤xs.length):eG w g (i*k) ((xs.drop i).flatMap enc):=by
 have hm:=Nat.mul_le_mul_right k hi
 refine hB.cells (o:=i*k) (n:=(xs.length-i)*k) ?_
 have hl:=tE hk xs
 rw[List.drop_append_of_le_length (by omega),aP hk,List.take_append_of_le_length (by rw[List.length_drop,hl,Nat.sub_mul];exact Nat.le_refl _)]
 exact List.take_of_length_le (by rw[List.length_drop,hl,Nat.sub_mul];exact Nat.le_refl _)
theorem dR(xs:List α)(x:α)(i:Nat):(xs.take i++x::xs.drop i).flatMap enc=(xs.take i).flatMap enc++(enc x++(xs.drop i).flatMap enc):=by
 rw[List.flatMap_append,List.flatMap_cons]
theorem WP(xs:List α)(x:α){i:Nat}(hi:i≤xs.length):(xs.take i++x::xs.drop i).length=xs.length+1:=by
 rw[List.length_append,List.length_cons,List.length_take,List.length_drop];omega
theorem DU{w:World}{N E c2 i:Nat}{xs:List α}{x:α}{zs:List Value}(hk:∀x,(enc x).length=k)(hB:fF w N E (PC (PC ((xs.take i).flatMap enc++zs) (i*k) (enc x)) ((i+1)*k) ((xs.drop i).flatMap enc)))(hz:zs.length=(c2-i)*k)(hi:i≤xs.length)(hc:xs.length+1≤c2)(hm:c2≤maxLen)(hb:xs.length≤1000000) :
  lB w N (N+1) E k (RF enc) (some ⟨N,0,none⟩) (xs.length+1) c2 (xs.take i++x::xs.drop i):=by
 have l1:((xs.take i).flatMap enc).length=i*k:=by rw[tE hk,List.length_take,Nat.min_eq_left hi]
 have l3:((xs.drop i).flatMap enc).length=(xs.length-i)*k:=by rw[tE hk,List.length_drop]
 have e:i*k=((xs.take i).flatMap enc).length:=l1.symm
 have e2:(i+1)*k=((xs.take i).flatMap enc).length+(enc x).length:=by rw[l1,hk,Nat.succ_mul]
 have h0:(enc x).length+((xs.drop i).flatMap enc).length=(xs.length+1-i)*k:=by
  rw[l3,hk,show xs.length+1-i=(xs.length-i)+1 by omega,Nat.succ_mul];omega
 have hle:(xs.length+1-i)*k≤(c2-i)*k:=Nat.mul_le_mul_right k (by omega)
 rw[e,e2,yS (by omega)]at hB
 refine lB.of_flatBox hk (rest:=zs.drop ((enc x).length+((xs.drop i).flatMap enc).length)) ?_ ?_ hc hm (WP xs x hi).symm (by omega) ⟨Nat.le_refl _,Nat.lt_succ_self _⟩
 ·rw[dR,List.append_assoc,List.append_assoc];exact hB
 ·rw[List.length_drop,h0,hz,←Nat.sub_mul]
  congr 1;omega
theorem zT{w:World}{lo hi g E c i:Nat}{xs:List α}{x:α}{r:List Value}(hk:∀x,(enc x).length=k)(hB:fF w g E (PC (PC (xs.flatMap enc++r) ((i+1)*k) ((xs.drop i).flatMap enc)) (i*k) (enc x)))(hr:r.length=(c-xs.length)*k)(hi':i≤xs.length)(hc:xs.length+1≤c)(hm:c≤maxLen)(hb:xs.length≤1000000)(hg:lo≤g∧g<hi) :
  lB w lo hi E k (RF enc) (some ⟨g,0,none⟩) (xs.length+1) c (xs.take i++x::xs.drop i):=by
 have l1:((xs.take i).flatMap enc).length=i*k:=by rw[tE hk,List.length_take,Nat.min_eq_left hi']
 have e:i*k=((xs.take i).flatMap enc).length:=l1.symm
 have e2:(i+1)*k=((xs.take i).flatMap enc).length+(enc x).length:=by rw[l1,hk,Nat.succ_mul]
 have hk1:1*k≤(c-xs.length)*k:=Nat.mul_le_mul_right k (by omega)
 have e3:xs.flatMap enc++r=(xs.take i).flatMap enc++((xs.drop i).flatMap enc++r):=by
  rw[←List.append_assoc,←List.flatMap_append,List.take_append_drop]
 rw[e3,e,e2,iQ (by rw[hk,hr];omega)]at hB
 refine lB.of_flatBox hk (rest:=r.drop (enc x).length) ?_ ?_ hc hm (WP xs x hi').symm (by omega) hg
 ·rw[dR,List.append_assoc,List.append_assoc];exact hB
 ·rw[List.length_drop,hk,hr,show c-(xs.length+1)=c-xs.length-1 by omega,Nat.sub_mul (c-xs.length) 1 k,Nat.one_mul]
theorem AV(xs:List α)(x:α){i:Nat}(hi:xs.length≤i):xs++[x]=xs.take i++x::xs.drop i:=by
 rw[List.take_of_length_le hi,List.drop_eq_nil_of_le hi]
end
theorem US(c g o sz:Nat):(if c=0 then some (⟨g,o,none⟩:Addr)else(some (⟨g,o,none⟩:Addr)).map (·.add (0*sz)))=some ⟨g,o,none⟩:=by
 split
 ·rfl
 ·rw[Nat.zero_mul,Option.map_some,VH,Nat.add_zero]
theorem lO{c g l sz:Nat}(h:c≠l):(if c=l then some (⟨g,0,none⟩:Addr)else(some (⟨g,0,none⟩:Addr)).map (·.add (l*sz)))=some ⟨g,l*sz,none⟩:=by
 rw[if_neg h,Option.map_some,VH,Nat.zero_add]
theorem SV{P:Program}{o:Oper}{L:List (Nat×Value)}{w:World}{R:Value→World→Prop}{x y:Operand}{t t':TypeId}{a b:Nat}(ho:o.op=.binOp .sub t x y t')(hx:nF L x=some (.int .i64 (a:Int)))(hy:nF L y=some (.int .i64 (b:Int)))(hab:b≤a)(ha:a≤9223372036854775807)(hR:R (.int .i64 ((a-b:Nat):Int)) w):Yl P o L w R:=
 aG ho hx hy (by
  have e:IntKind.wrap .i64 ((a:Int)-(b:Int))=((a-b:Nat):Int):=by rw[pN _ (by omega) (by omega)];omega
  rw[e];exact hR)
theorem jG.grown{l:List (Nat×Nat)}{w w1 w2:World}{row:Option Nat}(h:jG l w w1)(hg:w1.grownBy w2 row)(hr:∀k,row=some k→JK l k):jG l w w2:=by
 rcases row with _ | g
 ·exact .ex h ⟨hg.os,hg.tape,hg.output,hg.size,fun j hj=>hg.block j hj (fun e=>by cases e)⟩
 ·rcases Nat.lt_or_ge g w1.heap.size with hlt | hge
  ·have hlt2:g<w2.heap.size:=Nat.lt_of_lt_of_le hlt hg.size
   refine .ex (.only (w2:={ w1 with heap:=w1.heap.set g w2.heap[g] hlt}) h ⟨rfl,rfl,rfl,by simp,fun j hj=>?_⟩ (hr g rfl)) ⟨hg.os,hg.tape,hg.output,by simpa using hg.size,fun j hj=>?_⟩
   ·show(w1.heap.set g w2.heap[g] hlt)[j]? = _
    rw[Array.getElem?_set,if_neg (Ne.symm hj)]
   ·show _=(w1.heap.set g w2.heap[g] hlt)[j]?
    have hj':j<w1.heap.size:=by simpa using hj
    rw[Array.getElem?_set]
    split
    ·rename_i e;subst e;rw[Array.getElem?_eq_getElem hlt2]
    ·rename_i e;exact hg.block j hj' (fun h=>e (Option.some.inj h).symm)
  ·exact .ex h ⟨hg.os,hg.tape,hg.output,hg.size,fun j hj=>hg.block j hj (fun e=>by cases e;omega)⟩
theorem jG.frame{l:List (Nat×Nat)}{w w':World}(h:jG l w w'):w'.os=w.os∧w'.tape=w.tape∧w'.output=w.output∧w.heap.size≤w'.heap.size∧∀k,k<w.heap.size→¬JK l k→w'.heap[k]? = w.heap[k]? := by
 induction h with
 | refl=>exact⟨rfl,rfl,rfl,Nat.le_refl _,fun _ _ _=>rfl⟩
 | ex _ e ih=>
  obtain⟨a,b,c,d,f⟩:=ih
  exact⟨e.os.trans a,e.tape.trans b,e.output.trans c,Nat.le_trans d e.size,fun k hk hn=>(e.block k (Nat.lt_of_lt_of_le hk d)).trans (f k hk hn)⟩
 | only _ e hr ih=>
  obtain⟨a,b,c,d,f⟩:=ih
  exact⟨e.os.trans a,e.tape.trans b,e.output.trans c,by rw[e.size];exact d,fun k hk hn=>(e.block k (fun h=>hn (h▸hr))).trans (f k hk hn)⟩
theorem jG.of_frame{l:List (Nat×Nat)}{w w':World}(h1:w'.os=w.os)(h2:w'.tape=w.tape)(h3:w'.output=w.output)(h4:w.heap.size≤w'.heap.size)(h5:∀k,k<w.heap.size→¬JK l k→w'.heap[k]? = w.heap[k]?):jG l w w':=by
 suffices h:∀n,n≤w.heap.size→∃m:World,jG l w m∧m.os=w.os∧m.tape=w.tape∧m.output=w.output∧m.heap.size=w.heap.size∧(∀k,k<n→m.heap[k]? = w'.heap[k]?)∧∀k,n≤k→m.heap[k]? = w.heap[k]? by
  obtain⟨m,hm,a,b,c,d,e,_⟩:=h w.heap.size (Nat.le_refl _)
  exact .ex hm ⟨h1.trans a.symm,h2.trans b.symm,h3.trans c.symm,by rw[d];exact h4,fun k hk=>(e k (by rw[←d];exact hk)).symm⟩
 intro n
 induction n with
 | zero=>intro _;exact⟨w,.refl w,rfl,rfl,rfl,rfl,fun k hk=>absurd hk (Nat.not_lt_zero _),fun _ _=>rfl⟩
 | succ n ih=>
  intro hn
  obtain⟨m,hm,a,b,c,d,e,f⟩:=ih (by omega)
  rcases Classical.em (JK l n)with hr | hr
  ·have hlt:n<m.heap.size:=by omega
   have hlt':n<w'.heap.size:=by omega
   refine⟨{ m with heap:=m.heap.set n w'.heap[n] hlt},.only (b:=n) hm ⟨rfl,rfl,rfl,by simp,fun j hj=>?_⟩ hr,a,b,c,by simp[d],fun k hk=>?_,fun k hk=>?_⟩
   ·show(m.heap.set n w'.heap[n] hlt)[j]? = _
    rw[Array.getElem?_set,if_neg (Ne.symm hj)]
   ·show(m.heap.set n w'.heap[n] hlt)[k]? = _
    rw[Array.getElem?_set]
    split
    ·rename_i h;subst h;rw[Array.getElem?_eq_getElem hlt']
    ·rename_i h;exact e k (by omega)
   ·show(m.heap.set n w'.heap[n] hlt)[k]? = _
    rw[Array.getElem?_set,if_neg (by omega)];exact f k (by omega)
  ·refine⟨m,hm,a,b,c,d,fun k hk=>?_,fun k hk=>f k (by omega)⟩
   rcases Nat.lt_or_ge k n with hlt | hge
   ·exact e k hlt
   ·obtain rfl:k=n:=by omega
    rw[f k (Nat.le_refl _),h5 k (by omega) hr]
theorem jG.new{l:List (Nat×Nat)}{w w1 w2:World}{b:Nat}(h:jG l w w1)(e:sK b w1 w2)(hb:JK l b∨w.heap.size≤b):jG l w w2:=by
 rcases hb with hb | hb
 ·exact .only h e hb
 ·obtain⟨a1,a2,a3,a4,a5⟩:=h.frame
  exact .of_frame (e.os.trans a1) (e.tape.trans a2) (e.output.trans a3) (by rw[e.size];exact a4) fun k hk hn=>(e.block k (by omega)).trans (a5 k hk hn)
end Go.X
