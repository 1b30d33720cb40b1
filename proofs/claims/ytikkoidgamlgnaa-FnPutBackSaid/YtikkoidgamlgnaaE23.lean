/- Shorter words still, for claims that are too long. -/
import Derived.Test.YtikkoidgamlgnaaE22
set_option linter.unusedVariables false
set_option linter.unusedSimpArgs false
namespace Go.X
open Go.RowKit
theorem lN{α:Type}:(∀a b:List α,(a++b).length=a.length+b.length)∧(∀(x:α) (l:List α),(x::l).length=l.length+1)∧(([]:List α).length=0)∧(∀(i:Nat) (l:List α),(l.take i).length=min i l.length)∧(∀(i:Nat) (l:List α),(l.drop i).length=l.length-i)∧(∀(n:Nat) (x:α),(List.replicate n x).length=n)∧(∀(l:List α) (i:Nat) (x:α),(l.set i x).length=l.length):=
 ⟨fun _ _=>List.length_append,fun _ _=>rfl,rfl,fun _ _=>List.length_take,fun _ _=>List.length_drop,fun _ _=>List.length_replicate,fun _ _ _=>List.length_set⟩
theorem Bo{p:Prop}(h:p:=by first | omega | assumption | (simp only[wI]at *;omega)):p:=h
theorem Bl{p:Prop}(h:p:=by first | omega | (simp only[lN,ND];omega)):p:=h
theorem oM{p:Prop}(h:p:=by omega):p:=h
theorem Bk{p:Prop}(h:p:=by(intro k hl hk;simp only[oE,or_false]at hk;omega)):p:=h
theorem Bi{p:Prop}(h:p:=by(intro k hl hk;simp only[oE,or_false,Iv,Ge]at hk ⊢;omega)):p:=h
theorem Bx{p q:Prop}(h:q)(h2:q→p:=by(intro h;simp only[oE,or_false];omega)):p:=h2 h
theorem nb{n m:Nat}(h:Nat.ble n m=true):n≤m:=Nat.le_of_ble_eq_true h
theorem sC{L' L:List (Nat×Value)}(d:Nat){v:Value}(h:iF L d=some v)(hs:Sub L' L):Sub ((d,v)::L') L:=Sub.cons h hs
section
variable {P:Program}{n:Nat}{ops:Array Oper}{K:List (Nat×Value)→World→Prop}{o:Oper}{l:List Oper}{L:List (Nat×Value)}{w:World}
/-- the slot and the value of a move without a guard -/
def HN(n:Nat)(o:Oper)(L:List (Nat×Value)):Option (Nat×Value):=match o.guard,o.dst,o.op with
 | none,some d,.move x=>bif Nat.blt d n then(match tD L x with | some v=>some (d,v) | none=>none)else none
 | _,_,_=>none
theorem sM{d:Nat}{v:Value}(hs:HN n o L=some (d,v))(h:RC P n ops K l ((d,v)::L) w):RC P n ops K (o::l) L w:=by
 unfold HN at hs
 split at hs
 ·rename_i x hg hd ho
  rename_i d'
  cases hb:Nat.blt d' n with
  | false=>rw[hb]at hs;cases hs
  | true=>
   rw[hb]at hs;simp only[cond_true]at hs
   split at hs
   ·rename_i hx;cases hs;exact RC.d1 hg hd hb (yM ho hx h)
   ·cases hs
 ·cases hs
/-- the slot and the value of an assignment without a guard -/
def GN(n:Nat)(o:Oper)(L:List (Nat×Value)):Option (Nat×Value):=match o.guard,o.dst,o.op with
 | none,some d,.assign x=>bif Nat.blt d n then(match tD L x with | some v=>some (d,v) | none=>none)else none
 | _,_,_=>none
theorem sA{d:Nat}{v:Value}(hs:GN n o L=some (d,v))(h:RC P n ops K l ((d,v)::L) w):RC P n ops K (o::l) L w:=by
 unfold GN at hs
 split at hs
 ·rename_i x hg hd ho
  rename_i d'
  cases hb:Nat.blt d' n with
  | false=>rw[hb]at hs;cases hs
  | true=>
   rw[hb]at hs;simp only[cond_true]at hs
   split at hs
   ·rename_i hx;cases hs;exact RC.d1 hg hd hb (yA ho hx h)
   ·cases hs
 ·cases hs
end
section
variable {P:Program}{n:Nat}{id:Nat}{ops:List Oper}{y:Code}{Q:Exit→List (Nat×Value)→World→Prop}{L:List (Nat×Value)}{w:World}
theorem LN{ops:List Oper}{L0:List (Nat×Value)}{w0:World}(m:Nat)(vs:List Value)
  (hm:P.follows .mixedOrders=true) (hd:(((((ops.all (fF n)&&rI ops)&&HG 0 ops)&&L0.all (fun p=>Nat.blt p.1 n))&&Nat.ble m ops.length)&&sH ops m (ops.drop m))=true)
  (hops:GH P ops L0 w0 (zE (vs.map zG)) 0 (ops.take m)) (hK:∀lo hi L w,aI ops m L0 w0 (zE (vs.map zG)) lo hi L w→RC P n ops.toArray (Q .normal) (ops.drop m) L w):CW P n (.region id ops.toArray true) Q L0 w0:=by
 simp only[Bool.and_eq_true]at hd
 obtain⟨⟨⟨⟨⟨h1,h2⟩,h3⟩,h4⟩,h5⟩,h6⟩:=hd
 exact CW.drawsI m (zE (vs.map zG)) hm h1 h2 h3 h4 h5 h6 (uH (DN _)) hops hK
theorem cR(h:RC P n ops.toArray (pI (CW P n y Q) Q .normal) ops L w):CW P n (.seq (.region id ops.toArray false) y) Q L w:=CW.seq (CW.region h)
end
end Go.X
