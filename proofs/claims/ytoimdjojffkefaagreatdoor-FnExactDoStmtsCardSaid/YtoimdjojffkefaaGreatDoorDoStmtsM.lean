/- Do Stmts: what slices.SortFunc leaves: the library's contract, laid at this program by its tool; its closure is walked. -/
import Derived.Shelf.SlSortCmp.NoneTotal
import Derived.Shelf.Abstract
import Derived.Shelf.RegionOpen
import Derived.WalkKit
import Derived.OwnWalkIn
import Derived.TacticsInMore
import Derived.LoopNIn
import Derived.LoopIn
import Derived.Sort.Grow
import Derived.Test.YtoimdjojffkefaaGreatDoorEO
import Derived.Test.YtoimdjojffkefaaGreatDoorProg
import Derived.Test.YtoimdjojffkefaaGreatDoorDoStmtsL
import Derived.Test.YtoimdjojffkefaaGreatDoorDoStmtsF
import Derived.Test.YtoimdjojffkefaaGreatDoorDoStmtsQ
import Derived.Test.YtoimdjojffkefaaGreatDoorDoStmtsY
import Derived.Test.YtoimdjojffkefaaGreatDoorDoStmtsS
import Derived.Test.YtoimdjojffkefaaGreatDoorDoStmtsU
set_option linter.unusedVariables false
set_option linter.unusedSimpArgs false
namespace Go.Proofs.YtoimdjojffkefaaGreatDoor
open Go.RowKit Go.X
open Go.Shelf Go.Lib Go.Sort
attribute [local go_sem] Oper.semAt_some
def sZ:Go.Shelf.Ren:=⟨fun | 6=>160 | 15=>195 | 14=>194 | 28=>227 | 29=>228 | 20=>219 | 21=>220 | 22=>221 | 23=>222 | 24=>223 | 25=>224 | 26=>225 | 27=>226 | 46=>242 | 47=>243 | 48=>244 | 49=>245 | 50=>246 | 57=>259 | n=>n,fun | 22=>197 | 24=>199 | 25=>203 | 3=>3 | 39=>229 | 0=>0 | 53=>252 | 55=>254 | 4=>4 | 46=>246 | 45=>245 | 50=>217 | 5=>5 | 9=>9 | 66=>261 | 70=>265 | 76=>274 | 77=>275 | n=>n,fun | n=>n⟩
theorem Vd:Go.Proofs.SlLaysF0.n6 Tryz.prog sZ:={
 mixed:=by kernel_rfl
 f6:=⟨Tryz.f160.name,by decide,Tryz.func160.trans (congrArg some (by kernel_rfl))⟩
 f14:=⟨Tryz.f194.name,by decide,Tryz.func194.trans (congrArg some (by kernel_rfl))⟩
 f15:=Tryz.func195.trans (congrArg some (by kernel_rfl))
 f20:=⟨Tryz.f219.name,by decide,Tryz.func219.trans (congrArg some (by kernel_rfl))⟩
 f21:=⟨Tryz.f220.name,by decide,Tryz.func220.trans (congrArg some (by kernel_rfl))⟩
 f22:=⟨Tryz.f221.name,by decide,Tryz.func221.trans (congrArg some (by kernel_rfl))⟩
 f23:=⟨Tryz.f222.name,by decide,Tryz.func222.trans (congrArg some (by kernel_rfl))⟩
 f24:=⟨Tryz.f223.name,by decide,Tryz.func223.trans (congrArg some (by kernel_rfl))⟩
 f25:=⟨Tryz.f224.name,by decide,Tryz.func224.trans (congrArg some (by kernel_rfl))⟩
 f26:=⟨Tryz.f225.name,by decide,Tryz.func225.trans (congrArg some (by kernel_rfl))⟩
 f27:=⟨Tryz.f226.name,by decide,Tryz.func226.trans (congrArg some (by kernel_rfl))⟩
 f28:=Tryz.func227.trans (congrArg some (by kernel_rfl))
 f29:=Tryz.func228.trans (congrArg some (by kernel_rfl))
 f46:=⟨Tryz.f242.name,by decide,Tryz.func242.trans (congrArg some (by kernel_rfl))⟩
 f47:=Tryz.func243.trans (congrArg some (by kernel_rfl))
 f48:=Tryz.func244.trans (congrArg some (by kernel_rfl))
 f49:=⟨Tryz.f245.name,by decide,Tryz.func245.trans (congrArg some (by kernel_rfl))⟩
 f50:=⟨Tryz.f246.name,by decide,Tryz.func246.trans (congrArg some (by kernel_rfl))⟩
 f57:=⟨Tryz.f259.name,by decide,Tryz.func259.trans (congrArg some (by kernel_rfl))⟩
 t0:=Tryz.underlying0
 a0:=Tryz.isAgg0
 z0:=Tryz.sizeOf0
 v0:=Tryz.zeroValue0
 t3:=Tryz.underlying3
 a3:=Tryz.isAgg3
 z3:=Tryz.sizeOf3
 v3:=Tryz.zeroValue3
 t4:=Tryz.underlying4
 a4:=Tryz.isAgg4
 z4:=Tryz.sizeOf4
 v4:=Tryz.zeroValue4
 t5:=Tryz.underlying5
 a5:=Tryz.isAgg5
 z5:=Tryz.sizeOf5
 v5:=Tryz.zeroValue5
 t9:=Tryz.underlying9
 a9:=Tryz.isAgg9
 z9:=Tryz.sizeOf9
 v9:=Tryz.zeroValue9
 t22:=Tryz.underlying197
 a22:=Tryz.isAgg197
 z22:=Tryz.sizeOf197
 v22:=Tryz.zeroValue197
 t25:=Tryz.underlying203
 a25:=Tryz.isAgg203
 z25:=Tryz.sizeOf203
 v25:=Tryz.zeroValue203
 t39:=Tryz.underlying229
 a39:=Tryz.isAgg229
 z39:=Tryz.sizeOf229
 v39:=Tryz.zeroValue229
 t45:=Tryz.underlying245
 a45:=Tryz.isAgg245
 z45:=Tryz.sizeOf245
 v45:=Tryz.zeroValue245
 t46:=Tryz.underlying246
 a46:=Tryz.isAgg246
 z46:=Tryz.sizeOf246
 v46:=Tryz.zeroValue246
 t50:=Tryz.underlying217
 a50:=Tryz.isAgg217
 z50:=Tryz.sizeOf217
 v50:=Tryz.zeroValue217
 t53:=Tryz.underlying252
 a53:=Tryz.isAgg252
 z53:=Tryz.sizeOf252
 v53:=Tryz.zeroValue252
 t55:=Tryz.underlying254
 a55:=Tryz.isAgg254
 z55:=Tryz.sizeOf254
 v55:=Tryz.zeroValue254
 t66:=Tryz.underlying261
 a66:=Tryz.isAgg261
 z66:=Tryz.sizeOf261
 v66:=Tryz.zeroValue261
 t70:=Tryz.underlying265
 a70:=Tryz.isAgg265
 z70:=Tryz.sizeOf265
 v70:=Tryz.zeroValue265
 t76:=Tryz.underlying274
 a76:=Tryz.isAgg274
 z76:=Tryz.sizeOf274
 v76:=Tryz.zeroValue274
 t77:=Tryz.underlying275
 a77:=Tryz.isAgg275
 z77:=Tryz.sizeOf275
 v77:=Tryz.zeroValue275}
theorem Eb(P:Program)(a b:vA)(w:World)(t:TypeId):(binOp .gtr t (.string (bs a)) (.string (bs b))).run P w=.ok (.bool (!(iN a b))) w:=by
 simp only[binOp,Op.stringOp,gJ,Sem.run_pure,eJ,iN]
attribute [local go_sem] Eb
set_option maxRecDepth 100000 in
set_option maxHeartbeats 2000000 in
theorem Pc(s:vA)(W:World):Calls Tryz.prog 196 #[.string (bs s)] W fun e w'=>e=.returned (.bool false)∧w'=W:=by
 refine(callsIn_wide (n:=9)).1 (callsIn_of_wp Tryz.func196 rfl trivial ?_ rfl)
 simp only[Tryz.ntmps196,List.size_toArray,List.length_cons,List.length_nil,Nat.reduceAdd,Nat.reduceSub,Array.replicate_succ,Array.replicate_zero,List.push_toArray,List.append_toArray,List.nil_append,List.cons_append]
 have hcmp:((bs s).toList==(bs s).toList)=true:=beq_self_eq_true _
 gi_wp2
 go_ret
 exact⟨rfl,rfl⟩
set_option maxRecDepth 100000 in
set_option maxHeartbeats 2000000 in
theorem FY(x y:vA)(W:World):Calls Tryz.prog 163 #[.string (bs x),.string (bs y)] W fun e w'=>e=.returned (.int .i64 (cS x y))∧w'=W:=by
 refine(callsIn_wide (n:=9)).1 (callsIn_of_wp Tryz.func163 rfl trivial ?_ rfl)
 simp only[Tryz.ntmps163,List.size_toArray,List.length_cons,List.length_nil,Nat.reduceAdd,Nat.reduceSub,Array.replicate_succ,Array.replicate_zero,List.push_toArray,List.append_toArray,List.nil_append,List.cons_append]
 have h1:cS x y=bif Op.bytesLess (bs x).toList (bs y).toList then -1 else bif !(iN x y)then 1 else 0:=by
  unfold cS
  rw[gJ,gJ]
  cases h:iN x y<;>simp[eJ]
 rw[h1]
 gi_wp2_with (refine⟨trivial,?_⟩;gi_at_call 196;refine(callsIn_wide.2 (Pc _ _)).mono ?_;rintro e w' ⟨rfl,rfl⟩)
 all_goals
  go_ret
  refine⟨?_,rfl⟩
  simp_all
set_option maxRecDepth 100000 in
set_option maxHeartbeats 2000000 in
theorem Wf(a b:Int)(bk:Nat)(W:World)(ca:W.cell? ⟨bk,0,none⟩=some (.int .i64 a))(cb:W.cell? ⟨bk,1,none⟩=some (.int .i64 b)):Calls Tryz.prog 162 #[.slice (some ⟨bk,0,none⟩) 2 2] W fun e w'=>e=.returned (.int .i64 (bif decide (a=0)then b else a))∧w'=W:=by
 refine(callsIn_wide (n:=9)).1 (callsIn_of_wp Tryz.func162 rfl trivial ?_ rfl)
 simp only[Tryz.ntmps162,List.size_toArray,List.length_cons,List.length_nil,Nat.reduceAdd,Nat.reduceSub,Array.replicate_succ,Array.replicate_zero,List.push_toArray,List.append_toArray,List.nil_append,List.cons_append]
 gi_wp2
 gi_loopw [8] (fun i wr=>wr=W∧(i=.int .i64 0∨(i=.int .i64 1∧a=0)∨(i=.int .i64 2∧a=0∧b=0))) (fun i _=>(2-intOf i).toNat)
 case atStart=>exact⟨rfl,.inl rfl⟩
 case round=>
  obtain⟨rfl,rfl | ⟨rfl,rfl⟩ | ⟨rfl,rfl,rfl⟩⟩:=hrel
  ·gi_wp2
   ·refine bodyPost_ret (results_tmp rfl _ _ _) rfl ?_
    refine⟨?_,rfl⟩
    simp_all
   ·simp_all [intOf]
  ·gi_wp2
   ·refine bodyPost_ret (results_tmp rfl _ _ _) rfl ?_
    refine⟨?_,rfl⟩
    simp_all
   ·simp_all [intOf]
  ·gi_wp2
   refine bodyPost_ret (results_tmp rfl _ _ _) rfl ?_
   exact⟨rfl,rfl⟩
set_option maxRecDepth 100000 in
set_option maxHeartbeats 2000000 in
theorem If(x1 x2 y1 y2:vA)(W:World):Calls Tryz.prog 161 #[.agg #[.string (bs x1),.string (bs x2)],.agg #[.string (bs y1),.string (bs y2)]] W fun e w'=>e=.returned (.int .i64 (cE ⟨x1,x2⟩ ⟨y1,y2⟩))∧∃q os',w'=grow (W.drewN q) os':=by
 refine(callsIn_wide (n:=9)).1 (callsIn_of_wp Tryz.func161 rfl trivial ?_ rfl)
 simp only[Tryz.ntmps161,List.size_toArray,List.length_cons,List.length_nil,Nat.reduceAdd,Nat.reduceSub,Array.replicate_succ,Array.replicate_zero,List.push_toArray,List.append_toArray,List.nil_append,List.cons_append]
 have hmx:Tryz.prog.follows .mixedOrders=true:=by kernel_rfl
 have hsz:((W.alloc (.cells #[.string (bs x1),.string (bs x2)] 199)).alloc (.cells #[.string (bs y1),.string (bs y2)] 199)).heap.size=W.heap.size+1+1:=by simp
 have hOr:=Wf (cS x1 y1) (cS x2 y2) (W.heap.size+1+1) (((W.alloc (.cells #[.string (bs x1),.string (bs x2)] 199)).alloc (.cells #[.string (bs y1),.string (bs y2)] 199)).alloc (.cells #[.int .i64 (cS x1 y1),.int .i64 (cS x2 y2)] 3)).drew
  (by rw[←hsz];exact(OJ _ [.int .i64 (cS x1 y1),.int .i64 (cS x2 y2)] 3).2.1.cell 0) (by rw[←hsz];exact(OJ _ [.int .i64 (cS x1 y1),.int .i64 (cS x2 y2)] 3).2.1.cell 1)
 clear hsz
 have hce:(bif decide (cS x1 y1=0)then cS x2 y2 else cS x1 y1)=cE ⟨x1,x2⟩ ⟨y1,y2⟩:=rfl
 rw[hce]at hOr
 clear hce
 generalize cE ⟨x1,x2⟩ ⟨y1,y2⟩=r at hOr ⊢
 gi_wp2
 gi_region_with_o (first | (refine⟨trivial,?_⟩;gi_at_call 163;refine(callsIn_wide.2 (FY _ _ _)).mono ?_;rintro e w' ⟨rfl,rfl⟩) | (refine⟨trivial,?_⟩;gi_at_call 162;refine(callsIn_wide.2 hOr).mono ?_;rintro e w' ⟨rfl,rfl⟩))
 all_goals
  gi_wp2
  go_ret
  exact⟨rfl,1,#[.cells #[.string (bs x1),.string (bs x2)] 199,.cells #[.string (bs y1),.string (bs y2)] 199,.cells #[.int .i64 (cS x1 y1),.int .i64 (cS x2 y2)] 3],by
   rw[alloc_eq_grow,alloc_eq_grow,alloc_eq_grow,grow_grow,grow_grow,drew_grow];rfl⟩
instance inhE:Inhabited RE:=⟨EJ⟩
theorem Bg:Go.Sort.SWO (ltOf cE) where
 irrefl x:=(qL x x).trans (pY x)
 trans x y z h1 h2:=(qL x z).trans (tX ((qL x y).symm.trans h1) ((qL y z).symm.trans h2))
 ntrans x y z h1 h2:=(qL x z).trans (vU ((qL x y).symm.trans h1) ((qL y z).symm.trans h2))
set_option maxRecDepth 100000 in
set_option maxHeartbeats 2000000 in
theorem KM{A1:Option Addr}{c1 lo1 hi1:Nat}{w:World}(YA:List RE)(h1:KB w lo1 hi1 199 2 (RF jL) A1 YA.length c1 YA)(hrn2:(0≤lo1∧lo1≤hi1∧hi1≤w.heap.size)):dF Tryz.prog 160 #[.slice A1 YA.length c1,.func (.func 161) #[] #[]] w fun v w'=>v=.tuple #[]∧KB w' lo1 hi1 199 2 (RF jL) A1 YA.length c1 (TB YA)∧HI [(lo1,hi1)] w w':=by
 rcases Nat.eq_zero_or_pos YA.length with h0 | hpos
 ·obtain rfl:=List.eq_nil_of_length_eq_zero h0
  have hc:Calls Tryz.prog 160 #[.slice A1 0 c1,.func (.func 161) #[] #[]] w fun e w'=>e=.returned (.tuple #[])∧w'=w:=AnyF.slices_SortFunc_none Vd A1 c1 _ w
  refine Calls.mono hc ?_
  rintro e w' ⟨he,rfl⟩
  have e0:TB ([]:List RE)=[]:=by unfold TB;exact List.mergeSort_nil
  exact⟨_,he,rfl,by rw[e0];exact h1,HI.refl _⟩
 ·obtain⟨g,rfl,hg,hH,hS⟩:=KB.sorted (enc:=jL) (k:=2) (fun _=>rfl) h1 hpos
  have hn:YA.toArray.size=YA.length:=List.size_toArray ..
  have hb:=JC (WA pH h1)
  have hc:=AnyQ.slices_SortFunc_total Vd 2 Tryz.isAgg199 Tryz.sizeOf199 jL (fun _=>rfl) (fun x v hv=>by simp[jL]at hv;rcases hv with rfl | rfl<;>rfl) cE Bg 161 #[] g 0 c1 YA.toArray w
   (enters_of Tryz.func161 (by kernel_rfl) rfl) (fun _ _ _ _ x y=>If x.val x.primary y.val y.primary _) hH hg oM
   (fun x y a b=>wU ((qL x y).symm.trans a) ((qL y x).symm.trans b))
  rw[hn]at hc
  refine Calls.mono (show Calls Tryz.prog 160 _ _ _ from hc) ?_
  rintro e w' ⟨he,m,os,hw⟩
  obtain⟨s1,s2⟩:=hS ((YA.toArray.toList.mergeSort fun x y=>!(ltOf cE) y x)) os m w' (by rw[List.length_mergeSort]) hw
  exact⟨_,he,rfl,s1,s2⟩
end Go.Proofs.YtoimdjojffkefaaGreatDoor
