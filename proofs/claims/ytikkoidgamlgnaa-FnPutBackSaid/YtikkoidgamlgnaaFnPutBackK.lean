/- Fn Put Back: what impl.Cell.at returns, which ranges over slices.Backward. -/
import Derived.RangeFuncNested
import Derived.RangeFuncLeaves
import Derived.Shelf.Abstract
import Derived.Shelf.RegionOpen
import Derived.WalkKit
import Derived.OwnWalkIn
import Derived.TacticsInMore
import Derived.LoopNIn
import Derived.LoopIn
import Derived.Test.YtikkoidgamlgnaaProg
import Derived.Test.YtikkoidgamlgnaaFnPutBackT
import Derived.Test.YtikkoidgamlgnaaFnPutBackF
set_option linter.unusedVariables false
set_option linter.unusedSimpArgs false
namespace Go.Proofs.Ytikkoidgamlgnaa
open Go.RowKit Go.X
open Go.Shelf
attribute [local go_sem] Oper.semAt_some
theorem nL(n k:Nat):fI n (k+1)=fI n k++[n-1-k]:=by simp[fI,List.range_succ]
theorem eM{n k:Nat}(hk:k≤n):fI n n=fI n k++(fI n n).drop k:=by
 have h:(fI n n).take k=fI n k:=by simp[fI,←List.map_take,List.take_range,Nat.min_eq_left hk]
 rw[←h,List.take_append_drop]
theorem YJ(n k:Nat):(fI n k).length=k:=by simp[fI]
def IL(x:VA):Value:=.agg (oD x).toArray

set_option maxRecDepth 100000 in
set_option maxHeartbeats 2000000 in
theorem hL(F:Fence)(n:Nat)(h8:F.fn 113)(hro:F.round=none)(hn:1≤n)(l Bs n₀ len cap:Nat)(A:Option Addr)(vs:List VA)(J Jx:List Nat→World→Prop)
  (hY:∀pre (x:Nat) W,J pre W→pre.length<len→YieldAt F (n-1) Try.prog l #[.int .i64 (x:Int),IL (vs.getD x rA)] W fun e W'=>
   (e=.returned (.bool true)∧J (pre++[x]) W'∧Below n₀ W W')∨(e=.returned (.bool false)∧Jx (pre++[x]) W'))
  (W:World) (hBs:W.cell? ⟨Bs,0,none⟩=some (.slice A len cap)) (hBl:Bs<n₀) (hc:kC W (Iv 0 n₀) (RF oD) 3 A len cap vs) (hnW:n₀≤W.heap.size) (h0:J [] W) :
  CallsIn F n Try.prog 113 #[.func (.yield l) #[] #[],.pointer (some ⟨Bs,0,none⟩)] W fun e W'=>(∃v,e=.returned v) ∧
   ((∃ys,ys=fI len len∧J ys W')∨(∃pre,(∃k,k≤len∧pre=fI len k)∧Jx pre W')):=by
 have hbig:=hc.big
 refine callsIn_of_wp Try.func113 rfl h8 ?_ hro
 simp only[Try.ntmps113,List.size_toArray,List.length_cons,List.length_nil,Nat.reduceAdd,Nat.reduceSub,Array.replicate_succ,Array.replicate_zero,List.push_toArray,List.append_toArray,List.nil_append,List.cons_append]
 gi_wp2
 gi_loopw [3] (fun i wr=>∃m:Nat,m≤len∧i=.int .i64 ((m:Int)-1)∧J (fI len (len-m)) wr∧Below n₀ W wr)
  (fun i _=>(intOf i+1).toNat)
 case atStart=>exact⟨len,Nat.le_refl _,by simp,by rw[Nat.sub_self];exact h0,Below.refl _ _⟩
 case round=>
  obtain⟨m,hk,rfl,hJs,hnx⟩:=hrel
  have hBs':wr.cell? ⟨Bs,0,none⟩=some (.slice A len cap):=(hnx.cell (p:=⟨Bs,0,none⟩) hBl).trans hBs
  cases m with
  | succ m=>
   rw[show(((m+1:Nat):Int)-1)=(m:Int)by omega]
   have hc':kC wr (Iv 0 n₀) (RF oD) 3 A len cap vs:=hc.keep NA fun b hb _=>hnx.block b hb.2
   obtain⟨b,off,cs,rfl,_,_,_,hR,hC⟩:=hc'.atD rA (i:=m) oM
   obtain rfl:cs=oD (vs.getD m rA):=hR
   have c0:wr.cell? ⟨b,off+m*3,none⟩=some (.int .i64 (vs.getD m rA).Time):=hC 0 _ rfl
   have c1:wr.cell? ⟨b,off+m*3+1,none⟩=some (.string (bs (vs.getD m rA).Val)):=hC 1 _ rfl
   have c2:wr.cell? ⟨b,off+m*3+2,none⟩=some (.bool (vs.getD m rA).Gone):=hC 2 _ rfl
   clear hC
   obtain⟨fn,tmps,assign,body,hy,hR⟩:=hY _ m wr hJs (by rw[YJ];omega)
   rw[show IL (vs.getD m rA)=.agg #[.int .i64 (vs.getD m rA).Time,.string (bs (vs.getD m rA).Val),.bool (vs.getD m rA).Gone]from rfl]at hy
   generalize vs.getD m rA=y at *
   have hd:fI len (len-m)=fI len (len-(m+1))++[m]:=by
    rw[show len-m=len-(m+1)+1 by omega,nL,show len-1-(len-(m+1))=m by omega]
   gi_wp2
   refine hR.mono ?_
   rintro e W3 (⟨rfl,hJ3,hk3⟩ | ⟨rfl,hJx3⟩)
   ·gi_wp2
    go_roundw
    case rel=>exact⟨m,oM,by simp,by rw[hd];exact hJ3,hnx.trans hk3⟩
    case measure=>simp[intOf]
   ·gi_wp2
    refine bodyPost_ret (results_none rfl _ _ _) rfl ?_
    exact⟨⟨_,rfl⟩,.inr ⟨_,⟨len-m,oM,hd.symm⟩,hJx3⟩⟩
  | zero => 
   gi_wp2
   go_end0
   exact⟨⟨_,rfl⟩,.inl ⟨_,rfl,hJs⟩⟩
set_option maxHeartbeats 1000000 in
theorem ZL(F:Fence)(n:Nat)(h5:F.fn 95)(hro:F.round=none)(a:Option Addr)(len cap:Nat)(w:World) :
  CallsIn F n Try.prog 95 #[.slice a len cap] w fun e w'=>e=.returned (.func (.func 113) #[] #[.pointer (some ⟨w.heap.size,0,none⟩)])∧w'=w.alloc (.cells #[.slice a len cap] 74):=by
 refine callsIn_of_wp Try.func95 rfl h5 ?_ hro
 simp only[Try.ntmps95,List.size_toArray,List.length_cons,List.length_nil,Nat.reduceAdd,Nat.reduceSub,Array.replicate_succ,Array.replicate_zero,List.push_toArray,List.append_toArray,List.nil_append,List.cons_append]
 gi_wp2
 go_ret
 exact⟨rfl,rfl⟩
theorem NJ(F:Fence)(n:Nat)(h8:F.fn 113)(hro:F.round=none)(hn:1≤n)(Bs n₀ len cap:Nat)(A:Option Addr)(vs:List VA)(f:Nat→VA)(hf:∀x,vs.getD x rA=f x)(w:World)(hBs:Bs<n₀)(hn₀:n₀≤w.heap.size)
  (hc:w.cell? ⟨Bs,0,none⟩=some (.slice A len cap)) (hI:kC w (Iv 0 n₀) (RF oD) 3 A len cap vs) :
  SeqStopsK F n Try.prog 113 #[.pointer (some ⟨Bs,0,none⟩)] (fun x:Nat=>#[Value.int .i64 (x:Int),IL (f x)]) (Below n₀) (fun ys=>ys=fI len len) (fun pre=>∃k,k≤len∧pre=fI len k) len w:=fun l J Jx W hW _ _ hY h0=>
 hL F n h8 hro hn l Bs n₀ len cap A vs J Jx (fun pre x W h1 h2=>by rw[hf];exact hY pre x W h1 h2) W ((hW.cell (p:=⟨Bs,0,none⟩) (Nat.lt_of_lt_of_le hBs hn₀)).trans hc) hBs (hI.keep NA fun b _ h=>hW.block b h) (Nat.le_trans hn₀ hW.size) h0
set_option maxRecDepth 100000 in
set_option maxHeartbeats 2000000 in
theorem nN(F:Fence)(n:Nat)(h4:F.fn 70)(h6:F.fn 95)(h8:F.fn 113)(hro:F.round=none)(hn:3≤n){A1:Option Addr}{c1:Nat}{w:World}(cA:tA)(pA:Int)(h1:kC w (Iv 0 w.heap.size) (RF oD) 3 A1 cA.Vers.length c1 cA.Vers)(o2:CC cA) :
  CallsIn F n Try.prog 70 #[.agg #[.string (bs (cA.Key)),.slice A1 cA.Vers.length c1],.int .i64 (pA)] w fun e w'=>∃v,e=.returned v∧v=.tuple #[.string (bs (qC cA pA).1),.bool (qC cA pA).2]∧MF (qC cA pA).1∧Ex w w':=by
 have h1':1≤n:=by omega
 refine callsIn_of_wp_marks Try.func70 rfl h4 ?_ hro
 simp only[Try.ntmps70,List.size_toArray,List.length_cons,List.length_nil,Nat.reduceAdd,Nat.reduceSub,Array.replicate_succ,Array.replicate_zero,List.push_toArray,List.append_toArray,List.nil_append,List.cons_append]
 gi_wp2_with (gi_at_call 95;refine(ZL F (n-1) h6 hro _ _ _ _).mono ?_;rintro e w' ⟨rfl,rfl⟩)
 have bT:=(((Boxed.new (w.alloc (.cells #[.string (bs cA.Key),.slice A1 cA.Vers.length c1] 76)) 3 (.int .i64 pA)).alloc (.cells #[.string { data:=#[]}] 9)).alloc (.cells #[.bool false] 4)).alloc (.cells #[.slice A1 cA.Vers.length c1] 74)
 have bV:=((Boxed.new ((w.alloc (.cells #[.string (bs cA.Key),.slice A1 cA.Vers.length c1] 76)).alloc (.cells #[.int .i64 pA] 3)) 9 (.string { data:=#[]})).alloc (.cells #[.bool false] 4)).alloc (.cells #[.slice A1 cA.Vers.length c1] 74)
 have bB:=(Boxed.new (((w.alloc (.cells #[.string (bs cA.Key),.slice A1 cA.Vers.length c1] 76)).alloc (.cells #[.int .i64 pA] 3)).alloc (.cells #[.string { data:=#[]}] 9)) 4 (.bool false)).alloc (.cells #[.slice A1 cA.Vers.length c1] 74)
 have bS:=Boxed.new ((((w.alloc (.cells #[.string (bs cA.Key),.slice A1 cA.Vers.length c1] 76)).alloc (.cells #[.int .i64 pA] 3)).alloc (.cells #[.string { data:=#[]}] 9)).alloc (.cells #[.bool false] 4)) 74 (.slice A1 cA.Vers.length c1)
 simp only[World.size_alloc]at bT bV bB bS
 have hB0:Below w.heap.size w (((((w.alloc (.cells #[.string (bs cA.Key),.slice A1 cA.Vers.length c1] 76)).alloc (.cells #[.int .i64 pA] 3)).alloc (.cells #[.string { data:=#[]}] 9)).alloc (.cells #[.bool false] 4)).alloc (.cells #[.slice A1 cA.Vers.length c1] 74)):=
  (((((Below.refl _ w).alloc (Nat.le_refl _) _).alloc (by simp) _).alloc (by simp;omega) _).alloc (by simp;omega) _).alloc (by simp;omega) _
 have hsz:(((((w.alloc (.cells #[.string (bs cA.Key),.slice A1 cA.Vers.length c1] 76)).alloc (.cells #[.int .i64 pA] 3)).alloc (.cells #[.string { data:=#[]}] 9)).alloc (.cells #[.bool false] 4)).alloc (.cells #[.slice A1 cA.Vers.length c1] 74)).heap.size=w.heap.size+5:=by simp
 obtain⟨W0,hW0⟩:∃W0,(((((w.alloc (.cells #[.string (bs cA.Key),.slice A1 cA.Vers.length c1] 76)).alloc (.cells #[.int .i64 pA] 3)).alloc (.cells #[.string { data:=#[]}] 9)).alloc (.cells #[.bool false] 4)).alloc (.cells #[.slice A1 cA.Vers.length c1] 74))=W0:=⟨_,rfl⟩
 rw[hW0]at bT bV bB bS hB0 hsz ⊢
 clear hW0
 have hI:kC W0 (Iv 0 W0.heap.size) (RF oD) 3 A1 cA.Vers.length c1 cA.Vers:=(KA NA h1 hB0).wide NA fun b hb _=>⟨hb.1,by have:=hb.2;omega⟩
 obtain⟨f,hf⟩:∃f:Nat→VA,∀x,cA.Vers.getD x rA=f x:=⟨fun x=>cA.Vers.getD x rA,fun _=>rfl⟩
 refine wpIn_rangeFunc_ownH hro h1' (gf:=113) (lb:=#[.pointer (some ⟨w.heap.size+1+1+1+1,0,none⟩)]) rfl h8 (enters_of Try.func113 (by kernel_rfl) rfl)
  (NJ F (n-1) h8 hro oM (w.heap.size+1+1+1+1) W0.heap.size cA.Vers.length c1 A1 cA.Vers f hf W0 oM (Nat.le_refl _) bS.cell hI) belowK_t (belowK_b (Nat.le_refl _)) (Below.refl _ _) (fun _=>rfl)
  (fun pre W=>(∀x∈pre,¬(f x).Time≤pA)∧Below W0.heap.size W0 W)
  (fun c pre W=>(c=.ret∧∃ini last,pre=ini++[last]∧(∀x∈ini,¬(f x).Time≤pA)∧(f last).Time≤pA)∧((Boxed W (w.heap.size+1+1) 9 (.string (bs (f (pre.getLastD 0)).Val))∧Boxed W (w.heap.size+1+1+1) 4 (.bool (!(f (pre.getLastD 0)).Gone)))∧Below w.heap.size W0 W))
  (OwnFrom.and (ownFrom_pure _ (fun pre=>∀x∈pre,¬(f x).Time≤pA)) (ownFrom_below (Nat.le_refl _) (Nat.le_refl _)))
  (fun c=>OwnFrom.and (ownFrom_pure _ (fun pre=>c=.ret∧∃ini last,pre=ini++[last]∧(∀x∈ini,¬(f x).Time≤pA)∧(f last).Time≤pA)) (OwnFrom.and (OwnFrom.and (Own.from (boxed_own _ _ _) _) (Own.from (boxed_own _ _ _) _)) (ownFrom_below oM oM)))
  ⟨by simp,Below.refl _ _⟩
  (fun x a' W=>∃Bx,W0.heap.size≤Bx∧(W.cell? ⟨Bx,0,none⟩=some (.int .i64 (f x).Time)∧W.cell? ⟨Bx,1,none⟩=some (.string (bs (f x).Val))∧W.cell? ⟨Bx,2,none⟩=some (.bool (f x).Gone))∧a'={ tmps:=#[.agg #[.string (bs cA.Key),.slice A1 cA.Vers.length c1],.int .i64 pA,.pointer (some ⟨w.heap.size,0,none⟩),.pointer (some ⟨w.heap.size+1,0,none⟩),.pointer (some ⟨w.heap.size+1+1,0,none⟩),.pointer (some ⟨w.heap.size+1+1+1,0,none⟩),undef,.pointer (some ⟨Bx,0,none⟩),.pointer (some ⟨w.heap.size,1,none⟩),.slice A1 cA.Vers.length c1,.func (.func 113) #[] #[.pointer (some ⟨w.heap.size+1+1+1+1,0,none⟩)],.int .i64 (x:Int),IL (f x),undef,undef,undef,undef,undef,undef,undef,undef,undef],defers:=[]})
  (fun x a' _ X Y row hs hg hr=>by
   obtain⟨Bx,g1,⟨g2,g3,g4⟩,g5⟩:=hs
   exact⟨Bx,g1,⟨cell_kept g2 hg (fun r e=>(hr r e).2),cell_kept g3 hg (fun r e=>(hr r e).2),cell_kept g4 hg (fun r e=>(hr r e).2)⟩,g5⟩)
  ?assign ?body ?done ?stop
 case assign=>
  rintro l pre x W K ⟨hp,hB⟩ hK
  unfold IL oD
  gi_wp2
  have hb:=(YF W (oD (f x)) 73).2.1
  exact hK _ _ ((KeepsOthers.alloc _ _).from _) ((Below.refl _ W).alloc hB.size _) ⟨hp,hB.alloc hB.size _⟩ ⟨W.heap.size,hB.size,⟨hb.cell 0,hb.cell 1,hb.cell 2⟩,rfl⟩
 case body=>
  rintro l pre x a' W hl ⟨r,hr⟩ ⟨hp,hB⟩ ⟨Bx,hBx,⟨k0,k1,k2⟩,rfl⟩ hlt
  have h1'':1≤n-1-1:=by omega
  have hmx:Try.prog.follows .mixedOrders=true:=by kernel_rfl
  have cT:=(show Boxed W _ _ _ from(hB.block _ oM).trans bT).cell
  have bV':Boxed W _ _ _:=(hB.block _ oM).trans bV
  have bB':Boxed W _ _ _:=(hB.block _ oM).trans bB
  have cV:=bV'.cell
  have fV:=bV'.frozen
  have cB:=bB'.cell
  have fB:=bB'.frozen
  have hB':Below (w.heap.size+5) W0 W:=hsz▸hB
  gi_wp2
  ·have hx:(f x).Time≤pA:=by assumption
   gi_region_o
   all_goals gi_wp2
   all_goals exact⟨((KeepsOthers.setCell _ _ _).trans ((KeepsOthers.setCell _ _ _).trans (KeepsOthers.drew _))).from _,⟨rfl,pre,x,rfl,hp,hx⟩,
    ⟨by have h:=(bV'.set (.string (bs (f x).Val))).other (B':=w.heap.size+1+1+1) oM (.bool !(f x).Gone);simp;exact h,by have h:=(bB'.other (B':=w.heap.size+1+1) oM (.string (bs (f x).Val))).set (.bool !(f x).Gone);simp;exact h⟩,
    (((show Below w.heap.size W0 W from hB'.mono oM).setCell (p:=⟨w.heap.size+1+1,0,none⟩) (show w.heap.size≤w.heap.size+1+1 by omega) _).setCell (p:=⟨w.heap.size+1+1+1,0,none⟩) (show w.heap.size≤w.heap.size+1+1+1 by omega) _).drew⟩
  ·have hx:¬(f x).Time≤pA:=by omega
   exact⟨KeepsFrom.refl _ _,Below.refl _ _,⟨fun z hz=>(List.mem_append.1 hz).elim (hp z) (fun e=>by simp at e;subst e;omega),hB'⟩⟩
 case done=>
  rintro D ys W hD rfl ⟨hne,hB⟩ hK
  have bV':Boxed W _ _ _:=(hB.block _ oM).trans bV
  have bB':Boxed W _ _ _:=(hB.block _ oM).trans bB
  have cV:=bV'.cell
  have fV:=bV'.frozen
  have cB:=bB'.cell
  have fB:=bB'.frozen
  have hB1:Below w.heap.size W0 W:=hB.mono oM
  gi_wp2
  have hK':=((KeepsOthers.setCell W ⟨w.heap.size+1+1,0,none⟩ (.string { data:=#[]})).trans (KeepsOthers.setCell _ ⟨w.heap.size+1+1+1,0,none⟩ (.bool false))).same D _ hK rfl
  refine⟨by simp,.inl ⟨_,_,rfl,run_takeDeferred hK',?_⟩⟩
  have hc5:=cell_kept ((bV'.set (.string { data:=#[]})).other (B':=w.heap.size+1+1+1) oM (.bool false)).cell (grownBy_putObj' _ D (.deferred none)) (fun r e=>by cases e;exact⟨_,hK',rfl⟩)
  have hc6:=cell_kept ((bB'.other (B':=w.heap.size+1+1) oM (.string { data:=#[]})).set (.bool false)).cell (grownBy_putObj' _ D (.deferred none)) (fun r e=>by cases e;exact⟨_,hK',rfl⟩)
  have hm:qC cA pA=([],false):=by
   unfold qC
   simp only[hf]
   rw[List.find?_eq_none.2 (fun x hx=>by simpa using hne x hx)]
  refine⟨.tuple #[.string (bs []),.bool false],?_,⟨_,rfl,by rw[hm],by rw[hm];exact yE,?_⟩⟩
  ·simp[results,Try.f70,go_sem,hc5,hc6]
   rfl
  ·exact hB0.trans (((hB1.setCell (p:=⟨w.heap.size+1+1,0,none⟩) (show w.heap.size≤w.heap.size+1+1 by omega) _).setCell (p:=⟨w.heap.size+1+1+1,0,none⟩) (show w.heap.size≤w.heap.size+1+1+1 by omega) _).trans (belowK_b (w:=w) (Nat.le_refl _) _ D _ _ oM hK' rfl rfl))
 case stop=>
  rintro D c pre W hD ⟨k,hk,rfl⟩ ⟨⟨rfl,ini,last,e1,e2,e3⟩,⟨hV,hG⟩,hB⟩ hK
  gi_wp2
  refine⟨by simp,.inl ⟨_,_,rfl,run_takeDeferred hK,?_⟩⟩
  rw[e1,show(ini++[last]).getLastD 0=last by simp]at hV hG
  have hc5:=cell_kept hV.cell (grownBy_putObj' _ D (.deferred none)) (fun r e=>by cases e;exact⟨_,hK,rfl⟩)
  have hc6:=cell_kept hG.cell (grownBy_putObj' _ D (.deferred none)) (fun r e=>by cases e;exact⟨_,hK,rfl⟩)
  have hm:qC cA pA=((f last).Val,!(f last).Gone):=by
   unfold qC
   simp only[hf]
   rw[eM hk,e1,List.append_assoc,List.find?_append,List.find?_eq_none.2 (fun x hx=>by simpa using e2 x hx),List.find?_append,List.find?_cons_of_pos (by simpa using e3)]
   rfl
  refine⟨.tuple #[.string (bs (f last).Val),.bool !(f last).Gone],?_,⟨_,rfl,by rw[hm],by rw[hm,←hf];exact RA o2.2 oF _,?_⟩⟩
  ·simp[results,Try.f70,go_sem,hc5,hc6]
  ·exact hB0.trans (hB.trans (belowK_b (w:=w) (Nat.le_refl _) _ D _ _ oM hK rfl rfl))
theorem rJ{A1:Option Addr}{c1:Nat}{w:World}(cA:tA)(pA:Int)(h1:kC w (Iv 0 w.heap.size) (RF oD) 3 A1 cA.Vers.length c1 cA.Vers)(o2:CC cA):wE Try.prog 70 #[.agg #[.string (bs (cA.Key)),.slice A1 cA.Vers.length c1],.int .i64 (pA)] w fun v w'=>v=.tuple #[.string (bs (qC cA pA).1),.bool (qC cA pA).2]∧MF (qC cA pA).1∧Ex w w':=
 callsIn_wide.1 (nN Fence.wide 3 trivial trivial trivial rfl (Nat.le_refl _) cA pA h1 o2)
end Go.Proofs.Ytikkoidgamlgnaa
