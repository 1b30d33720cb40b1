/- The library's sort at a list that the call owns. -/
import Derived.Test.YtoimdjojffkefaaGreatDoorE31
import Derived.Shelf.SlSortCmp.NoneTotal
set_option linter.unusedVariables false
set_option linter.unusedSimpArgs false
namespace Go.X
open Go.RowKit Go.Sort
open Go.Proofs (sortWorldK)
section
variable {α:Type}[Inhabited α] {enc:α→List Value}{k:Nat}
theorem VV(hk:∀x,(enc x).length=k):∀(xs:List α) (t:Nat),t<xs.length*k→(xs.flatMap enc)[t]! = (enc xs[t / k]!)[t % k]!
 | [],t,h=>by simp at h
 | x::xs,t,h=>by
  have hk0:0<k:=by
   rcases Nat.eq_zero_or_pos k with h0 | h0
   ·subst h0;simp at h
   ·exact h0
  rw[List.length_cons,Nat.succ_mul]at h
  rw[List.flatMap_cons]
  rcases Nat.lt_or_ge t k with hlt | hge
  ·rw[Nat.div_eq_of_lt hlt,Nat.mod_eq_of_lt hlt]
   simp only[List.getElem!_eq_getElem?_getD]
   rw[List.getElem?_append_left (by rw[hk];exact hlt)];rfl
  ·obtain⟨u,rfl⟩:∃u,t=u+k:=⟨t-k,by omega⟩
   rw[Nat.add_div_right _ hk0,Nat.add_mod_right]
   have:=VV hk xs u (by omega)
   simp only[List.getElem!_eq_getElem?_getD]at this ⊢
   rw[List.getElem?_append_right (by rw[hk];omega),hk,Nat.add_sub_cancel,this];rfl
theorem vP(hk:∀x,(enc x).length=k)(xs:List α):flatK enc k xs.toArray=(xs.flatMap enc).toArray:=by
 refine ext_get! (by rw[size_flatK,List.size_toArray,List.size_toArray,pF hk]) fun t ht=>?_
 rw[size_flatK,List.size_toArray]at ht
 rw[get_flatK _ _ _ _ (by rw[List.size_toArray];exact ht)]
 have:=VV hk xs t ht
 simp only[List.getElem!_toArray]at this ⊢
 exact this.symm
theorem PS{w:World}{g E:Nat}{rest:List Value}(hk:∀x,(enc x).length=k){xs:List α}(h:ZF w g E (xs.flatMap enc++rest)):HoldsK enc k w g 0 xs.toArray:=by
 intro j hj
 rw[vP hk,List.size_toArray]at hj
 refine⟨?_,h.frozen _⟩
 rw[h.cell,vP hk,Nat.zero_add,List.getElem?_append_left hj,List.getElem!_toArray,List.getElem!_eq_getElem?_getD,List.getElem?_eq_getElem hj]
 rfl
theorem SS{F C rest:List Value}(hl:F.length=C.length):putCells id 0 F.toArray (C++rest).toArray=(F++rest).toArray:=by
 apply Array.ext_getElem?
 intro t
 simp only[putCells,Array.getElem?_mapIdx,List.getElem?_toArray,Nat.zero_le,true_and,Nat.zero_add,List.size_toArray,Nat.sub_zero,id]
 rcases Nat.lt_or_ge t F.length with hlt | hge
 ·rw[List.getElem?_append_left (by omega),List.getElem?_append_left hlt,List.getElem?_eq_getElem (by omega:t<C.length),List.getElem?_eq_getElem hlt,Option.map_some,if_pos hlt,List.getElem!_toArray,List.getElem!_eq_getElem?_getD,List.getElem?_eq_getElem hlt];rfl
 ·rw[List.getElem?_append_right (by omega),List.getElem?_append_right hge,hl]
  cases rest[t-C.length]? with
  | none=>rfl
  | some v=>rw[Option.map_some,if_neg (by omega)]
theorem Fb{w w':World}{g E n lo hi:Nat}{rest C:List Value}{os:Array Obj}{ys:List α}(hk:∀x,(enc x).length=k)(h:ZF w g E (C++rest))(hl:C.length=ys.length*k)(hw:w'=sortWorldK enc k w g 0 n ys.toArray os)(hg:lo≤g∧g<hi):ZF w' g E (ys.flatMap enc++rest)∧HI [(lo,hi)] w w':=by
 have h1:kN g w (putRowK enc k (Sort.ahead w n) g 0 ys.toArray):=by
  refine⟨rfl,rfl,rfl,by simp[putRowK,putRow,mapBlock,Sort.ahead],fun j hj=>?_⟩
  show(Array.modify w.heap g _)[j]? = _
  rw[Array.getElem?_modify,if_neg (Ne.symm hj)]
 have h2:ZF (putRowK enc k (Sort.ahead w n) g 0 ys.toArray) g E (ys.flatMap enc++rest):=by
  unfold ZF
  show(Array.modify w.heap g _)[g]? = _
  rw[Array.getElem?_modify,if_pos rfl,(show w.heap[g]? = _ from h),Option.map_some,vP hk]
  simp only[onCells]
  rw[SS (by rw[pF hk,hl])]
 have h3:Ex (putRowK enc k (Sort.ahead w n) g 0 ys.toArray) w':=by
  rw[hw]
  exact⟨rfl,rfl,rfl,by simp[sortWorldK],fun j hj=>heap_grow_old _ _ hj⟩
 exact⟨h2.ex h3,.ex (.only (.refl w) h1 (.inl hg)) h3⟩
theorem KB.sorted{w:World}{lo hi E n c:Nat}{A:Option Addr}{xs:List α}(hk:∀x,(enc x).length=k)(h:KB w lo hi E k (RF enc) A n c xs)(hn:0<n) :
  ∃g,A=some ⟨g,0,none⟩∧g<w.heap.size∧HoldsK enc k w g 0 xs.toArray∧∀(ys:List α) (os:Array Obj) (m:Nat) (w':World),ys.length=xs.length→w'=sortWorldK enc k w g 0 m ys.toArray os→KB w' lo hi E k (RF enc) A n c ys∧HI [(lo,hi)] w w':=by
 obtain⟨a,S,cells,ho',he,h3,h4⟩:=h.full hn
 have hlx:=h.1
 obtain⟨f1,f2,hf⟩:=ho'.form
 rcases hf with⟨_,h0⟩ | ⟨g,hA,hlo,hlt'⟩
 ·omega
 subst hA
 obtain⟨rest,hB,hr,hnc,hcm,hlo2⟩:=ho'.box
 have hl:=ho'.len
 have hfl:=he.flat
 have hg:=a g rfl
 refine⟨g,rfl,hB.lt,PS hk (by rw[←hfl];exact hB),fun ys os m w' hys hw=>?_⟩
 obtain⟨s1,s2⟩:=Fb (lo:=lo) (hi:=hi) hk hB (by rw[hl,hys,hlx]) hw hg
 refine⟨⟨by rw[hys];exact hlx,.inr ⟨a,fun _=>False,ys.flatMap enc,?_,qQ hk ys,fun _ _ h=>h,fun _ h=>h.elim⟩⟩,s2⟩
 exact Own.of_box' s1 (by rw[pF hk,hys,hlx]) hr hnc hcm hlo2 ho'.2
end
end Go.X
