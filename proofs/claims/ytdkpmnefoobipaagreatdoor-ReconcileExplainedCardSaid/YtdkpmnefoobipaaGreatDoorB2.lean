/- The logic of pure states: a region that draws its order comes to what the order of the text comes to. -/
import Derived.Test.YtdkpmnefoobipaaGreatDoorB1
set_option maxHeartbeats 16000000
set_option maxRecDepth 20000
namespace Go.Proofs.YtdkpmnefoobipaaGreatDoor.Px
open Go.RowKit
/-! the last of the writes that have been done -/
variable {es:List (List DV)} {F:Nat->Nat->Prop} {w w':World} {l:List Operand} {ys ds:List DV} {y x:Operand} {g g':Gh} {i B T t j e n E f off id bytes E' k':Nat} {w0:Cx} {v u z:Value} {Q:Exit->PS->Prop} {st st2:PS} {P:Program} {ts:Array TypeId} {a:Act} {zs vs xs:List Value} {D L:Nat->Bool} {φ:List DV->SV->Prop} {α:Type} {qs:List (Nat×List DV)} {kd:IntKind} {o:Oper} {r:SV} {places tn:List (Nat×Nat)} {ps:List (Nat×Operand)} {bs bn:List (Nat×List SV)} {rs:List ResultVar} {c:Code} {ef:Ef} {listed:Array Bool} {m:Int} {K:PS->Prop} {A:Option Addr} {caps:List Nat} {op:BinOp}
def L9 {α:Type} (L:Nat->Bool):Nat->List (Option α)->Option α
 | _,[]=>none
 | k,u::us=>match L9 L (k+1) us with
  | some v=>some v
  | none=>bif L k then u else none
theorem I9 {L':Nat->Bool} (us:List (Option α)) (k:Nat) (h:∀ j v,us[j]? = some (some v)->L (k+j)=L' (k+j)):L9 L k us=L9 L' k us:=by
 induction us generalizing k with
 | nil=>rfl
 | cons u us ih=>
  simp only[L9]
  rw[ih (k+1) fun j v hj=>by have:=h (j+1) v (by simpa using hj);rw[show k+1+j=k+(j+1)by omega];exact this]
  cases u with
  | none=>cases L k<;>cases L' k<;>rfl
  | some v=>rw[show L k=L' k from h 0 v rfl]
theorem L4 (us:List (Option α)) (k:Nat) (h:∀ j v,us[j]? = some (some v)->L (k+j)=false):L9 L k us=none:=by
 induction us generalizing k with
 | nil=>rfl
 | cons u us ih=>
  simp only[L9]
  rw[ih (k+1) fun j v hj=>by have:=h (j+1) v (by simpa using hj);rw[show k+1+j=k+(j+1)by omega];exact this]
  cases u with
  | none=>cases L k<;>rfl
  | some v=>rw[show L k=false from h 0 v rfl];rfl
theorem Hx (us:List (Option α)) (k:Nat) {v:α} (h:L9 L k us=some v):∃ j,us[j]? = some (some v)∧L (k+j)=true:=by
 induction us generalizing k with
 | nil=>cases h
 | cons u us ih=>
  simp only[L9]at h
  split at h
  . rename_i v' h1
    cases h
    obtain⟨j,h2,h3⟩:=ih (k+1) h1
    exact⟨j+1,by simpa using h2,by rw[show k+(j+1)=k+1+j by omega];exact h3⟩
  . cases hL:L k with
    | false=>rw[hL]at h;cases h
    | true=>rw[hL]at h;exact⟨0,by simpa using h,hL⟩
theorem Dd (us:List (Option α)) (k i:Nat) {v:α} (hi:us[i]? = some (some v)) (hL:L (k+i)=true) (h:∀ j u,i<j->us[j]? = some (some u)->L (k+j)=false):L9 L k us=some v:=by
 induction us generalizing k i with
 | nil=>simp at hi
 | cons u us ih=>
  simp only[L9]
  cases i with
  | zero=>
   simp at hi
   subst hi
   rw[L4 us (k+1) fun j v hj=>by have:=h (j+1) v (by omega) (by simpa using hj);rw[show k+1+j=k+(j+1)by omega];exact this]
   rw[show L k=true from hL]
   rfl
  | succ i=>
   rw[ih (k+1) i (by simpa using hi) (by rw[show k+1+i=k+(i+1)by omega];exact hL) fun j u hj hu=>by
    have:=h (j+1) u (by omega) (by simpa using hu);rw[show k+1+j=k+(j+1)by omega];exact this]
theorem CJ (us:List (Option α)) (k i:Nat) {v:α} (hi:us[i]? = some (some v)) (hL:L (k+i)=true):L9 L k us≠none:=by
 induction us generalizing k i with
 | nil=>simp at hi
 | cons u us ih=>
  simp only[L9]
  cases i with
  | zero=>
   simp at hi
   subst hi
   split
   . simp
   . rw[show L k=true from hL];simp
  | succ i=>
   have:=ih (k+1) i (by simpa using hi) (by rw[show k+1+i=k+(i+1)by omega];exact hL)
   split
   . simp
   . contradiction
abbrev IX:=List (SV×Ef)
variable {tr:IX}
def usS (t:Nat):List Oper->IX->List (Option SV)
 | o::l,(x,_)::tr=>(if o.dst=some t then some x else none)::usS t l tr
 | _,_=>[]
def bOf (e:Nat):Ef->Option (List SV)
 | .box i cs=>if e=i then some cs else none
 | _=>none
def tOf (e:Nat):Ef->Option Nat
 | .tok i n=>if e=i then some n else none
 | _=>none
def Bt (e:Nat):List Oper->IX->List (Option (List SV))
 | _::l,(_,ef)::tr=>bOf e ef::Bt e l tr
 | _,_=>[]
def LB (e:Nat):List Oper->IX->List (Option Nat)
 | _::l,(_,ef)::tr=>tOf e ef::LB e l tr
 | _,_=>[]
def L2 (L:Nat->Bool):Nat->List Oper->IX->PS->PS
 | k,o::l,(x,ef)::tr,st=>L2 L (k+1) l tr (bif L k then (st.eff ef).put o.dst x else st)
 | _,_,_,st=>st
theorem JR (st:PS) (ef:Ef) (i:Nat):(st.eff ef).get i=st.get i:=by cases ef<;>rfl
theorem Iu (st:PS) (d:Option Nat) (x:SV) (t:Nat):(st.put d x).get t=if d=some t then x else st.get t:=by
 cases d with
 | none=>simp[PS.put]
 | some d=>
  rw[O5]
  by_cases h:t=d
  . simp[h]
  . simp[h,Ne.symm h]
theorem Gt (st:PS) (ef:Ef) (e:Nat):(st.eff ef).bget e=(bOf e ef).or (st.bget e):=by
 cases ef with
 | box i cs=>simp only[PS.eff,I0,bOf];by_cases h:e=i<;>simp[h]
 | _=>rfl
theorem Gs (st:PS) (ef:Ef) (e:Nat):(st.eff ef).tget e=(tOf e ef).or (st.tget e):=by
 cases ef with
 | tok i n=>simp only[PS.eff,Q0,tOf];by_cases h:e=i<;>simp[h]
 | _=>rfl
theorem R3 (L:Nat->Bool) (k:Nat) (l:List Oper) (tr:IX) (st:PS):(L2 L k l tr st).n=st.n:=by
 induction l generalizing k tr st with
 | nil=>rfl
 | cons o l ih=>
  cases tr with
  | nil=>rfl
  | cons p tr=>
   obtain⟨x,ef⟩:=p
   rw[L2,ih]
   cases L k
   . rfl
   . cases ef<;>cases o.dst<;>rfl
theorem N6 (L:Nat->Bool) (k:Nat) (l:List Oper) (tr:IX) (st:PS) (t:Nat):(L2 L k l tr st).get t=(L9 L k (usS t l tr)).getD (st.get t):=by
 induction l generalizing k tr st with
 | nil=>rfl
 | cons o l ih=>
  cases tr with
  | nil=>rfl
  | cons p tr=>
   obtain⟨x,ef⟩:=p
   simp only[L2,usS,L9]
   rw[ih]
   cases h:L9 L (k+1) (usS t l tr) with
   | some v=>rfl
   | none=>
    cases hL:L k
    . simp
    . simp only[cond_true,Option.getD_none,Iu,JR]
      by_cases hd:o.dst=some t<;>simp[hd]
theorem K0 (L:Nat->Bool) (k:Nat) (l:List Oper) (tr:IX) (st:PS) (e:Nat):(L2 L k l tr st).bget e=(L9 L k (Bt e l tr)).or (st.bget e):=by
 induction l generalizing k tr st with
 | nil=>rfl
 | cons o l ih=>
  cases tr with
  | nil=>rfl
  | cons p tr=>
   obtain⟨x,ef⟩:=p
   simp only[L2,Bt,L9]
   rw[ih]
   cases h:L9 L (k+1) (Bt e l tr) with
   | some v=>rfl
   | none=>
    cases hL:L k
    . simp
    . simp only[cond_true,Option.none_or,HG,Gt]
theorem N2 (L:Nat->Bool) (k:Nat) (l:List Oper) (tr:IX) (st:PS) (e:Nat):(L2 L k l tr st).tget e=(L9 L k (LB e l tr)).or (st.tget e):=by
 induction l generalizing k tr st with
 | nil=>rfl
 | cons o l ih=>
  cases tr with
  | nil=>rfl
  | cons p tr=>
   obtain⟨x,ef⟩:=p
   simp only[L2,LB,L9]
   rw[ih]
   cases h:L9 L (k+1) (LB e l tr) with
   | some v=>rfl
   | none=>
    cases hL:L k
    . simp
    . simp only[cond_true,Option.none_or,GD,Gs]
def Mc (P:Program) (ops:Array Oper) (o:Oper) (st:PS) (x:SV) (ef:Ef):Prop:=
 (I7 P o st x ef∧Cm o st ef=true∧st.want ops o=some true)∨(x=.tup []∧ef=.no∧G3 o st=true∧st.want ops o=some false)
structure TrOk (P:Program) (l:List Oper) (tr:IX) (st:PS):Prop where
 step:∀ (i:Nat) o x ef,l[i]? = some o->tr[i]? = some (x,ef)->Mc P l.toArray o (L2 (fun k=>Nat.blt k i) 0 l tr st) x ef
theorem LK (l:List Oper) (tr:IX) (k i:Nat) (hk:i<=k) (st:PS):L2 (fun k=>Nat.blt k i) k l tr st=st:=by
 induction l generalizing tr k with
 | nil=>rfl
 | cons o l ih=>
  cases tr with
  | nil=>rfl
  | cons p tr=>
   obtain⟨x,ef⟩:=p
   have:Nat.blt k i=false:=by
    rw[<-Bool.not_eq_true];intro e;have:=B0 e;omega
   rw[L2]
   simp only[this,cond_false]
   exact ih tr (k+1) (by omega)
theorem YR.trace {ops:Array Oper} {l:List Oper} (h:YR P false ops K l st):∀ k,∃ tr:IX,tr.length=l.length ∧
 (∀ (i:Nat) o x ef,l[i]? = some o->tr[i]? = some (x,ef)->Mc P ops o (L2 (fun j=>Nat.blt j (k+i)) k l tr st) x ef)∧K (L2 (fun _=>true) k l tr st):=by
 induction h with
 | nil h=>exact fun k=>⟨[],O,fun i o x ef hi=>by simp at hi,h⟩
 | @op o rest st x ef hs hk hw _ ih=>
  intro k
  obtain⟨tr,h1,h2,h3⟩:=ih (k+1)
  refine⟨(x,ef)::tr,by simp[h1],fun i o' x' ef' hi ht=>?_,h3⟩
  cases i with
  | zero=>
   simp at hi ht
   obtain⟨rfl,rfl⟩:=ht
   subst hi
   rw[LK _ _ _ _ (by omega)]
   exact .inl ⟨hs,hk,hw⟩
  | succ i=>
   have:=h2 i o' x' ef' (by simpa using hi) (by simpa using ht)
   have hb:Nat.blt k (k+(i+1))=true:=Nat.ble_eq_true_of_le (by omega)
   rw[L2]
   simp only[hb,cond_true]
   rw[show k+(i+1)=k+1+i by omega]
   exact this
 | @skip o rest st hd hw _ ih=>
  intro k
  obtain⟨tr,h1,h2,h3⟩:=ih (k+1)
  refine⟨(.tup [],.no)::tr,by simp[h1],fun i o' x' ef' hi ht=>?_,h3⟩
  cases i with
  | zero=>
   simp at hi ht
   obtain⟨rfl,rfl⟩:=ht
   subst hi
   rw[LK _ _ _ _ (by omega)]
   exact .inr ⟨rfl,O,hd,hw⟩
  | succ i=>
   have:=h2 i o' x' ef' (by simpa using hi) (by simpa using ht)
   have hb:Nat.blt k (k+(i+1))=true:=Nat.ble_eq_true_of_le (by omega)
   rw[L2]
   simp only[hb,cond_true]
   rw[show k+(i+1)=k+1+i by omega]
   exact this
 | any hq=>cases hq
def GQ (l:List Oper):Nat->Nat->Nat->Bool
 | 0,_,_=>false
 | n+1,j,i=>match l[i]? with
  | some o=>o.after.toList.any fun e=>Region.binds .any e&&(Nat.beq e.on j||GQ l n j e.on)
  | none=>false
def Cr (l:List Oper) (D:Nat->Bool):Prop:=∀ (i:Nat) o,l[i]? = some o->D i=true->∀ e∈o.after,Region.binds .any e=true->D e.on=true
theorem FL {l:List Oper} (hD:Cr l D) (n:Nat):∀ (j i:Nat),GQ l n j i=true->(∀ o,l[i]? = some o->∀ e∈o.after,Region.binds .any e=true->D e.on=true)->D j=true:=by
 induction n with
 | zero=>intro j i h;cases h
 | succ n ih=>
  intro j i h hi
  simp only[GQ]at h
  split at h
  . rename_i o ho
    rw[List.any_eq_true]at h
    obtain⟨e,he,h1⟩:=h
    rw[C6,Bool.or_eq_true]at h1
    have h2:=hi o ho e (Array.mem_toList_iff.1 he) h1.1
    rcases h1.2 with h3|h3
    . rw[<-E5 h3];exact h2
    . exact ih j e.on h3 fun o' ho' e' he' hb'=>hD e.on o' ho' h2 e' he' hb'
  . cases h
def BW (l:List Oper) (i j:Nat):Bool:=bif Nat.blt i j then GQ l l.length i j else GQ l l.length j i
theorem Eg (h:i<j):Nat.blt i j=true:=Nat.ble_eq_true_of_le h
theorem Eh (h:¬ i<j):Nat.blt i j=false:=by rw[<-Bool.not_eq_true];intro e;exact h (B0 e)
theorem ES {l:List Oper} (hij:i≠j) (h:BW l i j=true):BW l j i=true:=by
 unfold BW at h ⊢
 rcases Nat.lt_or_gt_of_ne hij with h1|h1
 . rw[Eg h1,cond_true]at h
   rw[Eh (by omega),cond_false]
   exact h
 . rw[Eh (by omega),cond_false]at h
   rw[Eg h1,cond_true]
   exact h
def Gc (o:Op):Bool:=AG o||Cd o
def Iz (l:List Oper) (i j:Nat) (oi oj:Oper):Bool:=
 Nat.beq i j||((!(match oj.dst with|some t=>(oi.looksAt l.toArray).any (Nat.beq t)||(match oi.dst with|some t'=>Nat.beq t t'|none=>false)|none=>false) && !(Gc oi.op&&HU oj.op))||BW l i j)
def V2 {α:Type} (f:Nat->α->Bool):Nat->List α->Bool
 | _,[]=>true
 | k,x::l=>f k x&&V2 f (k+1) l
theorem N5 {f:Nat->α->Bool} {l:List α} {k:Nat} (h:V2 f k l=true) (i:Nat) (x:α) (hi:l[i]? = some x):f (k+i) x=true:=by
 induction l generalizing k i with
 | nil=>simp at hi
 | cons y l ih=>
  simp only[V2,C6]at h
  cases i with
  | zero=>simp at hi;subst hi;exact h.1
  | succ i=>have:=ih h.2 i (by simpa using hi);rw[show k+(i+1)=k+1+i by omega];exact this
def JT (l:List Oper):Bool:=
 V2 (fun i o=>o.after.toList.all fun e=>!Region.binds .any e||Nat.blt e.on i) 0 l &&
 V2 (fun i oi=>V2 (fun j oj=>Iz l i j oi oj) 0 l) 0 l
def Hr (l:List Oper) (i j:Nat) (oi oj:Oper):Bool:=
 Nat.beq i j||((!(match oj.dst with|some t=>(oi.looksAt l.toArray).any (Nat.beq t)||(match oi.dst with|some t'=>Nat.beq t t'|none=>false)|none=>false) && !(Cd oi.op&&HU oj.op))||BW l i j)
def Do (l:List Oper):Bool:=
 V2 (fun i o=>o.after.toList.all fun e=>!Region.binds .any e||Nat.blt e.on i) 0 l &&
 V2 (fun i oi=>V2 (fun j oj=>Hr l i j oi oj) 0 l) 0 l
def Il (l:List Oper) (j:Nat) (o:Oper):Bool:=o.op.operands.all fun y=>match y with
 | .tmp t=>V2 (fun k ok=>Nat.blt k j || !(match ok.dst with|some d=>Nat.beq d t|none=>false)) 0 l
 | _=>true
def sepB (l:List Oper) (s:PS):Bool:=V2 (fun i oi=>V2 (fun j oj=>Nat.beq i j || !(AG oi.op&&HU oj.op)||BW l i j||(Il l i oi&&Il l j oj&&oi.op.operands.all fun y=>oj.op.operands.all fun z=>(s.ev y).ids.all fun e=>!(s.ev z).ids.any (Nat.beq e))) 0 l) 0 l
structure Sep (l:List Oper) (K:PS->Prop) (s:PS):Prop where
 h:sepB l s=true
 k:K s
theorem Q6 {l:List Oper} (hD:Cr l D) (hij:i≠j) (ho:BW l i j=true) (hi:D i=false) (hready:∀ o,l[i]? = some o->∀ e∈o.after,Region.binds .any e=true->D e.on=true):D j=Nat.blt j i:=by
 unfold BW at ho
 rcases Nat.lt_or_gt_of_ne hij with h|h
 . have h1:Nat.blt i j=true:=Nat.ble_eq_true_of_le h
   have h2:Nat.blt j i=false:=by rw[<-Bool.not_eq_true];intro e;have:=B0 e;omega
   rw[h1,cond_true]at ho
   rw[h2,<-Bool.not_eq_true]
   intro hj
   have:=FL hD _ i j ho fun o ho e he hb=>hD j o ho hj e he hb
   rw[hi]at this
   cases this
 . have h1:Nat.blt i j=false:=by rw[<-Bool.not_eq_true];intro e;have:=B0 e;omega
   have h2:Nat.blt j i=true:=Nat.ble_eq_true_of_le h
   rw[h1,cond_false]at ho
   rw[h2]
   exact FL hD _ j i ho hready
theorem AY {l:List Oper} {v:SV} (h:(usS t l tr)[j]? = some (some v)):∃ o ef,l[j]? = some o∧tr[j]? = some (v,ef)∧o.dst=some t:=by
 induction l generalizing tr j with
 | nil=>simp[usS]at h
 | cons o l ih=>
  cases tr with
  | nil=>simp[usS]at h
  | cons p tr=>
   obtain⟨x,ef⟩:=p
   cases j with
   | zero=>
    simp only[usS,List.getElem?_cons_zero,Option.some.injEq]at h
    by_cases hd:o.dst=some t
    . rw[C2 hd]at h;cases h;exact⟨o,ef,O,O,hd⟩
    . rw[B8 hd]at h;cases h
   | succ j=>exact ih (by simpa[usS]using h)
theorem DM {l:List Oper} {v:List SV} (h:(Bt e l tr)[j]? = some (some v)):∃ o x,l[j]? = some o∧tr[j]? = some (x,.box e v):=by
 induction l generalizing tr j with
 | nil=>simp[Bt]at h
 | cons o l ih=>
  cases tr with
  | nil=>simp[Bt]at h
  | cons p tr=>
   obtain⟨x,ef⟩:=p
   cases j with
   | zero=>
    simp only[Bt,List.getElem?_cons_zero,Option.some.injEq]at h
    cases ef with
    | box i cs=>
     simp only[bOf]at h
     by_cases hd:e=i
     . rw[C2 hd]at h;cases h;subst hd;exact⟨o,x,O,O⟩
     . rw[B8 hd]at h;cases h
    | _=>cases h
   | succ j=>exact ih (by simpa[Bt]using h)
theorem DL {l:List Oper} {v:Nat} (h:(LB e l tr)[j]? = some (some v)):∃ o x,l[j]? = some o∧tr[j]? = some (x,.tok e v):=by
 induction l generalizing tr j with
 | nil=>simp[LB]at h
 | cons o l ih=>
  cases tr with
  | nil=>simp[LB]at h
  | cons p tr=>
   obtain⟨x,ef⟩:=p
   cases j with
   | zero=>
    simp only[LB,List.getElem?_cons_zero,Option.some.injEq]at h
    cases ef with
    | tok i cs=>
     simp only[tOf]at h
     by_cases hd:e=i
     . rw[C2 hd]at h;cases h;subst hd;exact⟨o,x,O,O⟩
     . rw[B8 hd]at h;cases h
    | _=>cases h
   | succ j=>exact ih (by simpa[LB]using h)
theorem usS_at {l:List Oper} {x:SV} (h1:l[j]? = some o) (h2:tr[j]? = some (x,ef)):(usS t l tr)[j]? = some (if o.dst=some t then some x else none):=by
 induction l generalizing tr j with
 | nil=>simp at h1
 | cons o' l ih=>
  cases tr with
  | nil=>simp at h2
  | cons p tr=>
   obtain⟨x',ef'⟩:=p
   cases j with
   | zero=>simp at h1 h2;subst h1;obtain⟨rfl,rfl⟩:=h2;rfl
   | succ j=>exact ih (by simpa using h1) (by simpa using h2)
theorem usB_at {l:List Oper} {x:SV} (h1:l[j]? = some o) (h2:tr[j]? = some (x,ef)):(Bt t l tr)[j]? = some (bOf t ef):=by
 induction l generalizing tr j with
 | nil=>simp at h1
 | cons o' l ih=>
  cases tr with
  | nil=>simp at h2
  | cons p tr=>
   obtain⟨x',ef'⟩:=p
   cases j with
   | zero=>simp at h1 h2;subst h1;obtain⟨rfl,rfl⟩:=h2;rfl
   | succ j=>exact ih (by simpa using h1) (by simpa using h2)
theorem usT_at {l:List Oper} {x:SV} (h1:l[j]? = some o) (h2:tr[j]? = some (x,ef)):(LB t l tr)[j]? = some (tOf t ef):=by
 induction l generalizing tr j with
 | nil=>simp at h1
 | cons o' l ih=>
  cases tr with
  | nil=>simp at h2
  | cons p tr=>
   obtain⟨x',ef'⟩:=p
   cases j with
   | zero=>simp at h1 h2;subst h1;obtain⟨rfl,rfl⟩:=h2;rfl
   | succ j=>exact ih (by simpa using h1) (by simpa using h2)
section
variable {l:List Oper}
structure Drawn (l:List Oper) (tr:IX) (st:PS):Prop where
 edge:∀ (i:Nat) o,l[i]? = some o->∀ e∈o.after,Region.binds .any e=true->e.on<i
 rd:∀ (i j:Nat) oi oj t,l[i]? = some oi->l[j]? = some oj->i≠j->oj.dst=some t->t∈oi.looksAt l.toArray->BW l i j=true
 ww:∀ (i j:Nat) oi oj t,l[i]? = some oi->l[j]? = some oj->i≠j->oi.dst=some t->oj.dst=some t->BW l i j=true
 app:∀ (i j:Nat) oi oj,l[i]? = some oi->l[j]? = some oj->i≠j->Cd oi.op=true->HU oj.op=true->BW l i j=true
 mem:∀ (i j:Nat) oi oj e,l[i]? = some oi->l[j]? = some oj->i≠j->AG oi.op=true->(∃ y∈oi.op.operands,e∈((L2 (fun k=>Nat.blt k i) 0 l tr st).ev y).ids)->HU oj.op=true->(∃ y∈oj.op.operands,e∈((L2 (fun k=>Nat.blt k j) 0 l tr st).ev y).ids)->BW l i j=true
theorem Ec (h:Do l=true) (hm:∀ (i j:Nat) oi oj e,l[i]? = some oi->l[j]? = some oj->i≠j->AG oi.op=true->(∃ y∈oi.op.operands,e∈((L2 (fun k=>Nat.blt k i) 0 l tr st).ev y).ids)->HU oj.op=true->(∃ y∈oj.op.operands,e∈((L2 (fun k=>Nat.blt k j) 0 l tr st).ev y).ids)->BW l i j=true):Drawn l tr st:=by
 unfold Do at h
 rw[C6]at h
 obtain⟨h1,h2⟩:=h
 have pr:∀ (i j:Nat) oi oj,l[i]? = some oi->l[j]? = some oj->i≠j->(match oj.dst with|some t=>(oi.looksAt l.toArray).any (Nat.beq t)||(match oi.dst with|some t'=>Nat.beq t t'|none=>false)|none=>false)=true∨(Cd oi.op&&HU oj.op)=true->BW l i j=true:=by
  intro i j oi oj hi hj hij hh
  have h4:=N5 (N5 h2 i oi hi) j oj hj
  rw[D0,D0]at h4
  unfold Hr at h4
  rw[Bool.or_eq_true,Bool.or_eq_true,C6,Bool.not_eq_true',Bool.not_eq_true']at h4
  rcases h4 with h4|⟨h4,h5⟩|h4
  . exact F9 (E5 h4) hij
  . rcases hh with hh|hh
    . rw[hh]at h4;cases h4
    . rw[hh]at h5;cases h5
  . exact h4
 refine⟨fun i o hi e he hb=>?_,fun i j oi oj t hi hj hij hd ht=>pr i j oi oj hi hj hij (.inl ?_),fun i j oi oj t hi hj hij hd hd'=>pr i j oi oj hi hj hij (.inl ?_),fun i j oi oj hi hj hij hw ht=>pr i j oi oj hi hj hij (.inr (by rw[hw,ht];rfl)),hm⟩
 . have h4:=N5 h1 i o hi
   rw[E7]at h4
   have h5:=h4 e (Array.mem_toList_iff.2 he)
   rw[Bool.or_eq_true,Bool.not_eq_true',hb]at h5
   rcases h5 with h5|h5
   . cases h5
   . rw[D0]at h5;exact B0 h5
 . rw[hd]
   simp only[Bool.or_eq_true]
   left
   rw[List.any_eq_true]
   exact⟨t,ht,Nat.beq_refl t⟩
 . rw[hd,hd']
   simp[Nat.beq_refl]
theorem HL {f:Nat->α->Bool} {l:List α} {k:Nat} (h:∀ i x,l[i]? = some x->f (k+i) x=true):V2 f k l=true:=by
 induction l generalizing k with
 | nil=>rfl
 | cons y l ih=>
  rw[V2,C6]
  refine⟨h 0 y O,ih fun i x hi=>?_⟩
  rw[show k+1+i=k+(i+1)by omega]
  exact h (i+1) x hi
theorem Gv (h:JT l=true):Drawn l tr st:=by
 unfold JT at h
 rw[C6]at h
 have h3:∀ (i j:Nat) oi oj,l[i]? = some oi->l[j]? = some oj->Iz l i j oi oj=true:=fun i j oi oj hi hj=>by
  have:=N5 (N5 h.2 i oi hi) j oj hj
  rwa [D0,D0]at this
 refine Ec ?_ fun i j oi oj e hi hj hij hs _ ht _=>?_
 . unfold Do
   rw[C6]
   refine⟨h.1,HL fun i oi hi=>HL fun j oj hj=>?_⟩
   have h4:=h3 i j oi oj hi hj
   rw[D0,D0]
   unfold Iz Gc at h4
   unfold Hr
   cases ha:Cd oi.op
   . rw[ha]at h4
     simp only[Bool.or_eq_true,C6,Bool.false_and,Bool.not_false]at h4 ⊢
     rcases h4 with h4|h4|h4
     . exact .inl h4
     . exact .inr (.inl ⟨h4.1,C8⟩)
     . exact .inr (.inr h4)
   . rw[ha,Bool.or_true]at h4
     exact h4
 . have h4:=h3 i j oi oj hi hj
   unfold Iz Gc at h4
   rw[hs,ht]at h4
   simp only[Bool.true_or,Bool.and_true,Bool.not_true,Bool.and_false,Bool.false_or,Bool.or_eq_true]at h4
   rcases h4 with h4|h4
   . exact F9 (E5 h4) hij
   . exact h4
theorem LO (h:Il l j o=true) (y:Operand) (hy:y∈o.op.operands):(L2 (fun _=>true) 0 l tr st).ev y=(L2 (fun k=>Nat.blt k j) 0 l tr st).ev y:=by
 unfold Il at h
 rw[Array.all_eq_true_iff_forall_mem]at h
 have h1:=h y hy
 cases y with
 | tmp t=>
  show(L2 (fun _=>true) 0 l tr st).get t=(L2 (fun k=>Nat.blt k j) 0 l tr st).get t
  rw[N6,N6]
  congr 1
  refine I9 _ _ fun k v hk=>?_
  obtain⟨ok,ef,g1,-,g2⟩:=AY hk
  have h2:=N5 h1 k ok g1
  simp only[D0,g2,Nat.beq_refl,Bool.not_true,Bool.or_false]at h2
  rw[D0]
  exact h2.symm
 | _=>rfl
theorem KN (h:Do l=true) (hs:sepB l (L2 (fun _=>true) 0 l tr st)=true):Drawn l tr st:=by
 refine Ec h fun i j oi oj e hi hj hij hst ⟨y,hy,hye⟩ hT ⟨z,hz,hze⟩=>?_
 have h4:=N5 (N5 hs i oi hi) j oj hj
 simp only[D0,hst,hT,Bool.and_self,Bool.not_true,Bool.or_false,Bool.or_eq_true,C6]at h4
 rcases h4 with(h4|h4)|⟨⟨h4,h5⟩,h6⟩
 . exact F9 (E5 h4) hij
 . exact h4
 . rw[Array.all_eq_true_iff_forall_mem]at h6
   have h7:=h6 y hy
   rw[Array.all_eq_true_iff_forall_mem]at h7
   have h8:=h7 z hz
   rw[LO h4 y hy,LO h5 z hz]at h8
   have h9:=E7.1 h8 e hye
   rw[Bool.not_eq_true',<-Bool.not_eq_true,List.any_eq_true]at h9
   exact F9 ⟨e,hze,Nat.beq_refl e⟩ h9
theorem CL {o:Op} (h:Gc o=true):HU o=true:=by
 unfold Gc AG Cd at h
 cases o<;>first|rfl|simp at h
theorem P8 (ht:TrOk P l tr st) {cs:List SV} (h:(Bt e l tr)[j]? = some (some cs)):∃ o x,l[j]? = some o∧tr[j]? = some (x,.box e cs)∧((AG o.op=true∧(∃ y∈o.op.operands,e∈((L2 (fun k=>Nat.blt k j) 0 l tr st).ev y).ids) ∧ ∀ y∈o.op.operands,∀ e'∈((L2 (fun k=>Nat.blt k j) 0 l tr st).ev y).ids,(L2 (fun k=>Nat.blt k j) 0 l tr st).bget e'≠none)∨(Cc o.op=true∧(∃ d,o.dst=some d∧U1 d e=true)∧(L2 (fun k=>Nat.blt k j) 0 l tr st).bget e=none)):=by
 obtain⟨o,x,h1,h2⟩:=DM h
 refine⟨o,x,h1,h2,?_⟩
 rcases ht.step j o x _ h1 h2 with⟨-,h3,-⟩|⟨-,h3,-⟩
 . unfold Cm at h3
   rw[C6]at h3
   have h4:=h3.1
   have h9:=h3.2
   rw[Bool.or_eq_true,Bool.not_eq_true']at h9
   simp only[Bool.or_eq_true,C6]at h4
   rcases h4 with⟨h4,h5⟩|⟨⟨h4,h5⟩,h6⟩
   . refine .inl ⟨h4,?_,fun y hy e' he' hn=>?_⟩
     . rw[<-Array.any_toList,List.any_eq_true]at h5
       obtain⟨y,hy,h5⟩:=h5
       rw[Array.mem_toList_iff]at hy
       rw[List.any_eq_true]at h5
       obtain⟨e2,he2,h5⟩:=h5
       exact⟨y,hy,by rw[E5 h5];exact he2⟩
     . rcases h9 with h9|h9
       . rw[CL (by simp[Gc,h4])]at h9;cases h9
       . rw[Array.all_eq_true_iff_forall_mem]at h9
         have h10:=E7.1 (h9 y hy) e' he'
         rw[hn]at h10
         cases h10
   . refine .inr ⟨h4,?_,by simpa using h6⟩
     cases hd:o.dst with
     | none=>rw[hd]at h5;cases h5
     | some d=>rw[hd]at h5;exact⟨d,O,h5⟩
 . cases h3
theorem Ax (ht:TrOk P l tr st) (h:(LB e l tr)[j]? = some (some n)):∃ o,l[j]? = some o∧Cd o.op=true:=by
 obtain⟨o,x,h1,h2⟩:=DL h
 refine⟨o,h1,?_⟩
 rcases ht.step j o x _ h1 h2 with⟨-,h3,-⟩|⟨-,h3,-⟩
 . unfold Cm at h3
   rw[C6]at h3
   exact h3.1
 . cases h3
def Made (l:List Oper) (tr:IX) (st:PS) (D:Nat->Bool):Prop:=∀ (e j:Nat) cs,(Bt e l tr)[j]? = some (some cs)->D j=true->st.bget e≠none ∨ ∃ (i:Nat) (o:Oper) (cs':List SV),l[i]? = some o∧(Bt e l tr)[i]? = some (some cs')∧D i=true∧Cc o.op=true∧(∃ d,o.dst=some d∧U1 d e=true)∧(L2 (fun k=>Nat.blt k i) 0 l tr st).bget e=none
theorem Made.of_bget (h:Made l tr st D) (hb:(L2 D 0 l tr st).bget e≠none):st.bget e≠none ∨ ∃ (i:Nat) (o:Oper) (cs':List SV),l[i]? = some o∧(Bt e l tr)[i]? = some (some cs')∧D i=true∧Cc o.op=true∧(∃ d,o.dst=some d∧U1 d e=true)∧(L2 (fun k=>Nat.blt k i) 0 l tr st).bget e=none:=by
 rw[K0]at hb
 cases hx:L9 D 0 (Bt e l tr) with
 | none=>rw[hx]at hb;exact .inl hb
 | some c=>
  obtain⟨j,g1,g2⟩:=Hx _ _ hx
  rw[D0]at g2
  exact h e j _ g1 g2
theorem Dc {D':Nat->Bool} (hm:Made l tr st D) (hD':∀ j,D' j=(D j||Nat.beq j i)) (hi:∀ e cs,(Bt e l tr)[i]? = some (some cs)->(L2 D 0 l tr st).bget e≠none ∨ ∃ o,l[i]? = some o∧Cc o.op=true∧(∃ d,o.dst=some d∧U1 d e=true)∧(L2 (fun k=>Nat.blt k i) 0 l tr st).bget e=none):Made l tr st D':=by
 intro e j cs hj hDj
 have up:∀ k,D k=true->D' k=true:=fun k hk=>by rw[hD',hk,Bool.true_or]
 have lift:(st.bget e≠none ∨ ∃ (i:Nat) (o:Oper) (cs':List SV),l[i]? = some o∧(Bt e l tr)[i]? = some (some cs')∧D i=true∧Cc o.op=true∧(∃ d,o.dst=some d∧U1 d e=true)∧(L2 (fun k=>Nat.blt k i) 0 l tr st).bget e=none)->(st.bget e≠none ∨ ∃ (i:Nat) (o:Oper) (cs':List SV),l[i]? = some o∧(Bt e l tr)[i]? = some (some cs')∧D' i=true∧Cc o.op=true∧(∃ d,o.dst=some d∧U1 d e=true)∧(L2 (fun k=>Nat.blt k i) 0 l tr st).bget e=none):=by
  rintro(h|⟨k,o,cs',h1,h2,h3,h4⟩)
  . exact .inl h
  . exact .inr ⟨k,o,cs',h1,h2,up _ h3,h4⟩
 rw[hD',Bool.or_eq_true]at hDj
 rcases hDj with hDj|hDj
 . exact lift (hm e j cs hj hDj)
 . rw[E5 hDj]at hj
   rcases hi e cs hj with h|⟨o,h1,h2,h3,h4⟩
   . exact lift (hm.of_bget h)
   . exact .inr ⟨i,o,cs,h1,hj,by rw[hD',Nat.beq_refl,Bool.or_true],h2,h3,h4⟩
theorem made_lt (ht:TrOk P l tr st) (i:Nat):Made l tr st (fun k=>Nat.blt k i):=by
 induction i with
 | zero=>intro e j cs _ h;have:=B0 h;omega
 | succ i ih=>
  refine Dc ih (i:=i) (fun j=>?_) fun e cs h=>?_
  . cases h:(Nat.blt j i||Nat.beq j i) with
    | true=>
     rw[Bool.or_eq_true]at h
     rcases h with h|h
     . have:=B0 h;exact Eg (by omega)
     . rw[E5 h];exact Eg (by omega)
    | false=>
     rw[Bool.or_eq_false_iff]at h
     refine Eh fun h2=>?_
     rcases Nat.lt_succ_iff_lt_or_eq.1 h2 with h3|h3
     . rw[Eg h3]at h;exact F9 h.1 (by simp)
     . rw[h3,Nat.beq_refl]at h;exact F9 h.2 (by simp)
  . obtain⟨o,x,h1,h2,h3⟩:=P8 ht h
    rcases h3 with⟨-,⟨y,hy,h4⟩,h5⟩|h3
    . exact .inl (h5 y hy e h4)
    . exact .inr ⟨o,h1,h3⟩
theorem CG (_:TrOk P l tr st) {cs cs':List SV} (hi:(Bt e l tr)[i]? = some (some cs)) (_:(Bt e l tr)[j]? = some (some cs')) (h:(L2 (fun k=>Nat.blt k j) 0 l tr st).bget e=none):¬ i<j:=by
 intro hlt
 rw[K0]at h
 have:=CJ (L:=fun k=>Nat.blt k j) (Bt e l tr) 0 i hi (by rw[D0];exact Eg hlt)
 cases hx:L9 (fun k=>Nat.blt k j) 0 (Bt e l tr) with
 | none=>exact this hx
 | some c=>rw[hx]at h;cases h
theorem Bp (h:(L2 L 0 l tr st).bget e=none):st.bget e=none:=by
 rw[K0]at h
 cases hb:st.bget e with
 | none=>rfl
 | some c=>rw[hb]at h;cases hx:L9 L 0 (Bt e l tr)<;>rw[hx]at h<;>cases h
theorem Db (ht:TrOk P l tr st) (hm:Made l tr st L) {cs:List SV} (hi:(Bt e l tr)[i]? = some (some cs)) (h:(L2 (fun k=>Nat.blt k i) 0 l tr st).bget e=none) (hb:(L2 L 0 l tr st).bget e≠none):L i=true:=by
 rcases hm.of_bget hb with h1|⟨k,o,cs',h1,h2,h3,h4,h5,h6⟩
 . exact F9 (Bp h) h1
 . have a:=CG ht hi h2 h6
   have b:=CG ht h2 hi h
   rw[show i=k by omega];exact h3
theorem An (hd:Drawn l tr st) (hD:Cr l D) (hi:l[i]? = some o) (hDi:D i=false) (hr:∀ e∈o.after,Region.binds .any e=true->D e.on=true) (t:Nat) (hl:t∈o.looksAt l.toArray):
 (L2 D 0 l tr st).get t=(L2 (fun k=>Nat.blt k i) 0 l tr st).get t:=by
 rw[N6,N6]
 congr 1
 refine I9 _ _ fun j v hj=>?_
 obtain⟨oj,ef,h1,-,h3⟩:=AY hj
 rw[D0]
 by_cases hij:i=j
 . subst hij
   rw[hDi]
   exact(by rw[<-Bool.not_eq_true];intro e;have:=B0 e;omega:Nat.blt i i=false).symm
 . exact Q6 hD hij (hd.rd i j o oj t hi h1 hij h3 hl) hDi fun o' ho'=>by rw[hi]at ho';cases ho';exact hr
theorem HF (i:Nat):Nat.blt i i=false:=by rw[<-Bool.not_eq_true];intro e;have:=B0 e;omega
theorem IR (hd:Drawn l tr st) (ht:TrOk P l tr st) (hD:Cr l D) (hM:Made l tr st D) (hi:l[i]? = some o) (hDi:D i=false) (hr:∀ e∈o.after,Region.binds .any e=true->D e.on=true) (hT:HU o.op=true) (e:Nat) (hye:∃ y∈o.op.operands,e∈((L2 (fun k=>Nat.blt k i) 0 l tr st).ev y).ids)
 (h1:(L2 (fun k=>Nat.blt k i) 0 l tr st).bget e≠none) (h2:(L2 D 0 l tr st).bget e≠none):(L2 D 0 l tr st).bget e=(L2 (fun k=>Nat.blt k i) 0 l tr st).bget e:=by
 have hr':∀ o',l[i]? = some o'->∀ e∈o'.after,Region.binds .any e=true->D e.on=true:=fun o' ho'=>by rw[hi]at ho';cases ho';exact hr
 rw[K0,K0]
 congr 1
 refine I9 _ _ fun j v hj=>?_
 rw[D0]
 obtain⟨oj,x,h3,h4,h5⟩:=P8 ht hj
 by_cases hij:i=j
 . subst hij;rw[hDi];exact(HF i).symm
 rcases h5 with⟨h5,h5n,-⟩|⟨h5,h6,h7⟩
 . refine Q6 hD hij ?_ hDi hr'
   exact ES (Ne.symm hij) (hd.mem j i oj o e h3 hi (Ne.symm hij) h5 h5n hT hye)
 . -- a box that was made here: it has one maker alone
   rw[Db ht hM hj h7 h2]
   exact(Db ht (made_lt ht i) hj h7 h1).symm
theorem Hk (hd:Drawn l tr st) (ht:TrOk P l tr st) (hD:Cr l D) (hi:l[i]? = some o) (hDi:D i=false) (hr:∀ e∈o.after,Region.binds .any e=true->D e.on=true) (hT:HU o.op=true) (e:Nat):
 (L2 D 0 l tr st).tget e=(L2 (fun k=>Nat.blt k i) 0 l tr st).tget e:=by
 have hr':∀ o',l[i]? = some o'->∀ e∈o'.after,Region.binds .any e=true->D e.on=true:=fun o' ho'=>by rw[hi]at ho';cases ho';exact hr
 rw[N2,N2]
 congr 1
 refine I9 _ _ fun j v hj=>?_
 rw[D0]
 obtain⟨oj,h3,h5⟩:=Ax ht hj
 by_cases hij:i=j
 . subst hij;rw[hDi];exact(HF i).symm
 refine Q6 hD hij ?_ hDi hr'
 exact ES (Ne.symm hij) (hd.app j i oj o h3 hi (Ne.symm hij) h5 hT)
theorem SRep.id_bl {x:SV} (h:SRep g w v x) (he:e∈x.ids):∃ b,g.bl e=some b:=by
 cases x<;>simp only[SV.ids,List.mem_cons,List.not_mem_nil,or_false]at he
 case bx i off=>subst he;obtain⟨b,h1,-⟩:=h;exact⟨b,h1⟩
 case fn f caps=>
  obtain⟨bs,-,h3,h4⟩:=h
  obtain⟨q,hq⟩:=List.mem_iff_getElem?.1 he
  have hlt:q<bs.length:=by rw[h3];exact(A6.1 hq).1
  exact⟨_,h4 q _ e (A4 hlt) hq⟩
 case fb f i off=>subst he;obtain⟨b,h1,-⟩:=h;exact⟨b,h1⟩
 case bs i n E k=>subst he;obtain⟨b,c,h1,-⟩:=h;exact⟨b,h1⟩
 case mb i=>subst he;obtain⟨b,h1,-⟩:=h;exact⟨b,h1⟩
 case tx i T n=>subst he;obtain⟨b,h1,-⟩:=h;exact⟨b,h1⟩
theorem agree (hd:Drawn l tr st) (ht:TrOk P l tr st) (hD:Cr l D) (hM:Made l tr st D) (hi:l[i]? = some o) (hDi:D i=false) (hr:∀ e∈o.after,Region.binds .any e=true->D e.on=true) (hk:Cm o (L2 (fun k=>Nat.blt k i) 0 l tr st) ef=true)
 (hrep:Rep B w0 g (L2 D 0 l tr st) a w):Agr o (L2 (fun k=>Nat.blt k i) 0 l tr st) (L2 D 0 l tr st):=by
 have hev:∀ y∈o.op.operands,(L2 D 0 l tr st).ev y=(L2 (fun k=>Nat.blt k i) 0 l tr st).ev y:=by
  intro y hy
  cases y with
  | tmp t=>
   refine An hd hD hi hDi hr t ?_
   unfold Oper.looksAt
   refine List.mem_append.2 (.inl (List.mem_filterMap.2 ⟨.tmp t,Array.mem_toList_iff.2 hy,O⟩))
  | _=>rfl
 unfold Cm at hk
 rw[C6,Bool.or_eq_true,Bool.not_eq_true']at hk
 have hops:HU o.op=true->∀ y∈o.op.operands,∀ e∈((L2 (fun k=>Nat.blt k i) 0 l tr st).ev y).ids,((L2 (fun k=>Nat.blt k i) 0 l tr st).bget e).isSome=true:=by
  intro hT y hy
  rcases hk.2 with h|h
  . rw[hT]at h;cases h
  . rw[Array.all_eq_true_iff_forall_mem]at h
    exact E7.1 (h y hy)
 refine⟨by rw[R3,R3],hev,fun hT y hy e hye=>?_,fun hT y hy t k es hye=>Hk hd ht hD hi hDi hr hT t,fun hN d hdst e hnew hnone=>?_⟩
 . have h1:=hops hT y hy e hye
   refine IR hd ht hD hM hi hDi hr hT e ⟨y,hy,hye⟩ (by intro e';rw[e']at h1;cases h1) ?_
   have h2:=hrep.eval y
   rw[hev y hy]at h2
   obtain⟨b,h3⟩:=h2.id_bl hye
   exact hrep.dom e b h3
 . -- nobody else has made a box for this slot
   have h0:=Bp hnone
   by_cases hb:(L2 D 0 l tr st).bget e=none
   . exact hb
   rcases hM.of_bget hb with h1|⟨k,ok,cs',h1,h2,h3,h4,⟨d',h5,h6⟩,h7⟩
   . exact F9 h0 h1
   . have hik:i≠k:=fun e'=>by subst e';rw[hDi]at h3;cases h3
     have hb:=Q6 hD hik (hd.ww i k o ok d hi h1 hik hdst (by rw[Jw hnew h6];exact h5)) hDi fun o' ho'=>by rw[hi]at ho';cases ho';exact hr
     rw[h3]at hb
     rw[K0]at hnone
     have:=CJ (L:=fun k=>Nat.blt k i) (Bt e l tr) 0 k h2 (by rw[D0];exact hb.symm)
     cases hx:L9 (fun k=>Nat.blt k i) 0 (Bt e l tr) with
     | none=>exact F9 hx this
     | some c=>rw[hx]at hnone;cases hnone
theorem Im (hd:Drawn l tr st) (ht:TrOk P l tr st) {D':Nat->Bool} (hD:Cr l D) (hM:Made l tr st D) {x:SV} (hi:l[i]? = some o) (hx:tr[i]? = some (x,ef)) (hDi:D i=false) (hr:∀ e∈o.after,Region.binds .any e=true->D e.on=true) (hD':∀ j,D' j=(D j||Nat.beq j i)):
 (L2 D' 0 l tr st).n=(((L2 D 0 l tr st).eff ef).put o.dst x).n∧(∀ t,(L2 D' 0 l tr st).get t=(((L2 D 0 l tr st).eff ef).put o.dst x).get t)∧(∀ e,(L2 D' 0 l tr st).bget e=(((L2 D 0 l tr st).eff ef).put o.dst x).bget e) ∧ ∀ e,(L2 D' 0 l tr st).tget e=(((L2 D 0 l tr st).eff ef).put o.dst x).tget e:=by
 have hr':∀ o',l[i]? = some o'->∀ e∈o'.after,Region.binds .any e=true->D e.on=true:=fun o' ho'=>by rw[hi]at ho';cases ho';exact hr
 have hne:∀ j,j≠i->D' j=D j:=fun j hj=>by
  have:Nat.beq j i=false:=by rw[<-Bool.not_eq_true];intro e;exact hj (E5 e)
  rw[hD',this,Bool.or_false]
 have heq:D' i=true:=by rw[hD',Nat.beq_refl,Bool.or_true]
 refine⟨?_,fun t=>?_,fun e=>?_,fun e=>?_⟩
 . rw[R3,n_put]
   cases ef<;>exact(R3 _ _ _ _ _).symm
 . rw[N6,Iu,JR,N6]
   have hat:=usS_at (t:=t) hi hx
   by_cases hdt:o.dst=some t
   . rw[C2 hdt]at hat ⊢
     rw[Dd _ 0 i hat (by rw[D0];exact heq) fun j u hij hu=>?_]
     . rfl
     . obtain⟨oj,ef',h1,-,h3⟩:=AY hu
       rw[D0,hne j (by omega),Q6 hD (by omega) (hd.ww i j o oj t hi h1 (by omega) hdt h3) hDi hr']
       exact Eh (by omega)
   . rw[B8 hdt]at hat ⊢
     congr 1
     refine I9 _ _ fun j v hj=>?_
     rw[D0]
     refine hne j fun e=>?_
     subst e
     rw[hat]at hj
     cases hj
 . rw[K0,HG,Gt,K0]
   have hat:=usB_at (t:=e) hi hx
   cases hb:bOf e ef with
   | some cs=>
    rw[hb]at hat
    rw[Dd _ 0 i hat (by rw[D0];exact heq) fun j u hij hu=>?_]
    . rfl
    . rw[D0,hne j (by omega)]
      obtain⟨oi,xi,g1,g2,g3⟩:=P8 ht hat
      rw[hi]at g1
      cases g1
      obtain⟨oj,xj,h1,h2,h3⟩:=P8 ht hu
      rcases h3 with⟨h3,h3n,-⟩|⟨-,-,h7⟩
      . rcases g3 with⟨g3,g3n,-⟩|⟨-,-,g7⟩
        . rw[Q6 hD (by omega) (hd.mem i j o oj e hi h1 (by omega) g3 g3n (CL (by simp[Gc,h3])) h3n) hDi hr']
          exact Eh (by omega)
        . -- what is made now is not written yet
          rw[<-Bool.not_eq_true]
          intro hDj
          have hbn:(L2 D 0 l tr st).bget e≠none:=by
           rw[K0]
           have:=CJ (L:=D) (Bt e l tr) 0 j hu (by rw[D0];exact hDj)
           cases hx:L9 D 0 (Bt e l tr) with
           | none=>exact F9 hx this
           | some c=>simp
          have:=Db ht hM hat g7 hbn
          rw[hDi]at this
          cases this
      . exact F9 hij (CG ht hat hu h7)
   | none=>
    rw[hb]at hat
    rw[Option.none_or]
    congr 1
    refine I9 _ _ fun j v hj=>?_
    rw[D0]
    refine hne j fun e'=>?_
    subst e'
    rw[hat]at hj
    cases hj
 . rw[N2,GD,Gs,N2]
   have hat:=usT_at (t:=e) hi hx
   cases hb:tOf e ef with
   | some n=>
    rw[hb]at hat
    rw[Dd _ 0 i hat (by rw[D0];exact heq) fun j u hij hu=>?_]
    . rfl
    . rw[D0,hne j (by omega)]
      obtain⟨oi,g1,g3⟩:=Ax ht hat
      rw[hi]at g1
      cases g1
      obtain⟨oj,h1,h3⟩:=Ax ht hu
      rw[Q6 hD (by omega) (hd.app i j o oj hi h1 (by omega) g3 (CL (by simp[Gc,h3]))) hDi hr']
      exact Eh (by omega)
   | none=>
    rw[hb]at hat
    rw[Option.none_or]
    congr 1
    refine I9 _ _ fun j v hj=>?_
    rw[D0]
    refine hne j fun e'=>?_
    subst e'
    rw[hat]at hj
    cases hj
theorem Z8 (hd:Drawn l tr st) (hD:Cr l D) (hi:l[i]? = some o) (hDi:D i=false) (hr:∀ e∈o.after,Region.binds .any e=true->D e.on=true):(L2 D 0 l tr st).want l.toArray o=(L2 (fun k=>Nat.blt k i) 0 l tr st).want l.toArray o:=by
 unfold PS.want
 cases hg:o.guard with
 | none=>rfl
 | some p=>
  obtain⟨j,b⟩:=p
  simp only
  cases hdst:(l.toArray[j]?).bind (·.dst) with
  | none=>rfl
  | some d=>
   simp only
   rw[R3,R3,An hd hD hi hDi hr d ?_]
   unfold Oper.looksAt
   refine List.mem_append.2 (.inr ?_)
   rw[hg]
   rw[List.getElem?_toArray]at hdst
   simp[hdst]
theorem Ce (hd:Drawn l tr st) (ht:TrOk P l tr st) (hlen:tr.length=l.length) (hK:K (L2 (fun _=>true) 0 l tr st)) (hQ:∀ s,K s->Q .normal s):
 ∀ (fuel:Nat) (listed:Array Bool) (g:Gh) (a:Act) (w:World),listed.size=l.length->(listed.toList.count false)<=fuel->Cr l (fun k=>listed.getD k false)->Made l tr st (fun k=>listed.getD k false)->Rep B w0 g (L2 (fun k=>listed.getD k false) 0 l tr st) a w->wpAny P .any l.toArray (Cq B w0 Q) fuel listed a w:=by
 have fin:∀ (listed:Array Bool) (g:Gh) (a:Act) (w:World),listed.size=l.length->Region.ready .any l.toArray listed=[]->Rep B w0 g (L2 (fun k=>listed.getD k false) 0 l tr st) a w->Cq B w0 Q .normal a w:=by
  intro listed g a w hsz hready hrep
  have hall:∀ n,n<=l.length->∀ k,k<n->listed.getD k false=true:=by
   intro n
   induction n with
   | zero=>intro _ k hk;omega
   | succ n ih=>
    intro hn k hk
    rcases Nat.lt_succ_iff_lt_or_eq.1 hk with h|h
    . exact ih (by omega) k h
    . subst h
      cases hx:listed.getD k false with
      | true=>rfl
      | false=>
       have hlt:k<listed.size:=by omega
       have ho:l[k]? = some l[k]:=A4 (by omega)
       have:k∈Region.ready .any l.toArray listed:=by
        rw[mem_ready]
        refine⟨by simpa[Array.getD,hlt]using hx,l[k],by simp,fun e he hb=>ih (by omega) e.on (hd.edge k _ ho e he hb)⟩
       rw[hready]at this
       cases this
  refine⟨g,L2 (fun _=>true) 0 l tr st,hrep.congr (by rw[R3,R3]) (fun t=>?_) (fun t=>?_) (fun t=>?_),hQ _ hK⟩
  . rw[N6,N6]
    congr 1
    refine I9 _ _ fun j v hj=>?_
    obtain⟨o,ef,h1,-⟩:=AY hj
    rw[D0]
    exact(hall l.length (D6 _) j (A6.1 h1).1).symm
  . rw[K0,K0]
    congr 1
    refine I9 _ _ fun j v hj=>?_
    obtain⟨o,ef,h1,-⟩:=DM hj
    rw[D0]
    exact(hall l.length (D6 _) j (A6.1 h1).1).symm
  . rw[N2,N2]
    congr 1
    refine I9 _ _ fun j v hj=>?_
    obtain⟨o,ef,h1,-⟩:=DL hj
    rw[D0]
    exact(hall l.length (D6 _) j (A6.1 h1).1).symm
 intro fuel
 induction fuel with
 | zero=>
  intro listed g a w hsz hc hdn hM hrep
  have hready:Region.ready .any l.toArray listed=[]:=by
   cases hq:Region.ready .any l.toArray listed with
   | nil=>rfl
   | cons k ks=>
    have:k∈Region.ready .any l.toArray listed:=by rw[hq];simp
    rw[mem_ready]at this
    obtain⟨h1,o,h2,-⟩:=this
    have hlt:k<listed.size:=by rw[hsz];have:=(D5.1 h2).1;simpa using this
    have h3:listed[k]=false:=by simpa[Array.getD,hlt]using h1
    have:0<listed.toList.count false:=List.count_pos_iff.2 (by rw[<-h3];simp)
    omega
  exact⟨hready,fin listed g a w hsz hready hrep⟩
 | succ fuel ih=>
  intro listed g a w hsz hc hdn hM hrep
  refine⟨fun hready=>fin listed g a w hsz hready hrep,fun i hi=>?_⟩
  rw[mem_ready]at hi
  obtain⟨h1,o,h2,h3⟩:=hi
  have hil:l[i]? = some o:=by simpa using h2
  have hlt:i<l.length:=(A6.1 hil).1
  have hDi:listed.getD i false=false:=by simpa[Array.getD,show i<listed.size by omega]using h1
  obtain⟨⟨x,ef⟩,hx⟩:∃ p,tr[i]? = some p:=⟨_,A4 (by rw[hlen];exact hlt)⟩
  have hset:∀ j,(listed.setIfInBounds i true).getD j false=(listed.getD j false||Nat.beq j i):=fun j=>by
   by_cases hji:j=i
   . subst hji
     simp[Array.getD,show j<listed.size by omega,Nat.beq_refl]
   . have:Nat.beq j i=false:=by rw[<-Bool.not_eq_true];intro e;exact hji (E5 e)
     rw[this,Bool.or_false]
     by_cases hjs:j<listed.size
     . simp[Array.getD,hjs,Ne.symm hji]
     . simp[Array.getD,hjs]
  have hdn':Cr l (fun k=>(listed.setIfInBounds i true).getD k false):=by
   intro j oj hj hDj e he hb
   simp only[hset]at hDj ⊢
   rw[Bool.or_eq_true]at hDj ⊢
   left
   rcases hDj with hDj|hDj
   . exact hdn j oj hj hDj e he hb
   . rw[E5 hDj,hil]at hj
     cases hj
     exact h3 e he hb
  have hcnt:(listed.setIfInBounds i true).toList.count false<=fuel:=by
   have hlt':i<listed.toList.length:=by simp;omega
   have h4:listed.toList[i]=false:=by simpa[Array.getD,show i<listed.size by omega]using hDi
   have h5:=List.count_set (l:=listed.toList) (a:=true) (b:=false) (i:=i) hlt'
   have h6:0<listed.toList.count false:=List.count_pos_iff.2 (by rw[<-h4];simp)
   rw[Array.toList_setIfInBounds,h5,h4]
   simp only[beq_self_eq_true,if_true,show(true==false)=false from rfl,Bool.false_eq_true,if_false]
   omega
  have hadd:=Im hd ht hdn hM hil hx hDi h3 (D':=fun k=>(listed.setIfInBounds i true).getD k false) hset
  have hM':Made l tr st (fun k=>(listed.setIfInBounds i true).getD k false):=by
   refine Dc hM (i:=i) hset fun e cs hu=>?_
   obtain⟨o',x',g1,g2,g3⟩:=P8 ht hu
   rw[hil]at g1
   cases g1
   rcases g3 with⟨-,⟨y,hy,g4⟩,-⟩|g3
   . left
     have hev:(L2 (fun k=>listed.getD k false) 0 l tr st).ev y=(L2 (fun k=>Nat.blt k i) 0 l tr st).ev y:=by
      cases y with
      | tmp t=>
       refine An hd hdn hil hDi h3 t ?_
       unfold Oper.looksAt
       refine List.mem_append.2 (.inl (List.mem_filterMap.2 ⟨.tmp t,Array.mem_toList_iff.2 hy,O⟩))
      | _=>rfl
     have h9:=hrep.eval y
     rw[hev]at h9
     obtain⟨b,h10⟩:=h9.id_bl g4
     exact hrep.dom e b h10
   . exact .inr ⟨o,hil,g3⟩
  have next:∀ g' a' w',Rep B w0 g' (((L2 (fun k=>listed.getD k false) 0 l tr st).eff ef).put o.dst x) a' w'->wpAny P .any l.toArray (Cq B w0 Q) fuel (listed.setIfInBounds i true) a' w':=fun g' a' w' hr'=>
   ih _ g' a' w' (by simpa using hsz) hcnt hdn' hM' (hr'.congr hadd.1 hadd.2.1 hadd.2.2.1 hadd.2.2.2)
  unfold wpOp
  rw[h2]
  simp only
  rcases ht.step i o x ef hil hx with⟨h4,h5,h6⟩|⟨rfl,rfl,h5,h6⟩
  . have hw:=H9 hrep ((Z8 hd hdn hil hDi h3).trans h6)
    rw[C2 hw]
    exact .inl (h4 _ (agree hd ht hdn hM hil hDi h3 h5 hrep) B w0 g a w _ _ hrep next)
  . have hw:=H9 hrep ((Z8 hd hdn hil hDi h3).trans h6)
    rw[B8 (by rw[hw];simp)]
    refine next g _ w (hrep.put SRep.undef _ ?_)
    intro q hq
    rw[R3]
    have:=F5 h5 q hq
    rwa [R3]at this
theorem stD_app (L:Nat->Bool) (k:Nat) (l:List Oper) (o:Oper) (tr:IX) (st:PS) (h:tr.length=l.length):L2 L k (l++[o]) tr st=L2 L k l tr st:=by
 induction l generalizing k tr st with
 | nil=>rw[List.length_eq_zero_iff.1 h];rfl
 | cons x l ih=>
  cases tr with
  | nil=>simp at h
  | cons p tr=>
   obtain⟨y,ef⟩:=p
   simp only[List.cons_append,L2]
   exact ih (k+1) tr _ (by simpa using h)
def lastB (l:List Oper):Bool:=(List.range (l.length-1)).all fun j=>GQ l l.length j (l.length-1)
theorem IW (hd:Drawn l tr st) (hsz:listed.size=l.length) (hready:Region.ready .any l.toArray listed=[]):∀ n,n<=l.length->∀ k,k<n->listed.getD k false=true:=by
 intro n
 induction n with
 | zero=>intro _ k hk;omega
 | succ n ih=>
  intro hn k hk
  rcases Nat.lt_succ_iff_lt_or_eq.1 hk with h|h
  . exact ih (by omega) k h
  . subst h
    cases hx:listed.getD k false with
    | true=>rfl
    | false=>
     have hlt:k<listed.size:=by omega
     have ho:l[k]? = some l[k]:=A4 (by omega)
     have:k∈Region.ready .any l.toArray listed:=by
      rw[mem_ready]
      refine⟨by simpa[Array.getD,hlt]using hx,l[k],by simp,fun e he hb=>ih (by omega) e.on (hd.edge k _ ho e he hb)⟩
     rw[hready]at this
     cases this
theorem HJ {Q:Exit->Act->World->Prop} (h:∀ k,k<listed.size->listed.getD k false=true) (fuel:Nat) (hQ:Q .normal a w):wpAny P .any l.toArray Q fuel listed a w:=by
 have hready:Region.ready .any l.toArray listed=[]:=by
  cases hq:Region.ready .any l.toArray listed with
  | nil=>rfl
  | cons k ks=>
   have:k∈Region.ready .any l.toArray listed:=by rw[hq];simp
   rw[mem_ready]at this
   obtain⟨h1,-⟩:=this
   by_cases hlt:k<listed.size
   . have h2:=h k hlt
     simp[Array.getD,hlt]at h1 h2
     rw[h1]at h2
     cases h2
   . simp[Array.getD,hlt]at h1
 cases fuel with
 | zero=>exact⟨hready,hQ⟩
 | succ fuel=>exact⟨fun _=>hQ,fun i hi=>by rw[hready]at hi;cases hi⟩
theorem Fm (hd:Drawn l tr st) (ht:TrOk P l tr st) {on:Oper} (hln:l.length=n+1) (hlen:tr.length=n) (hon:l[n]? = some on) (hlast:∀ j,j<n->GQ l l.length j n=true) (hfin:∀ g a w,Rep B w0 g (L2 (fun _=>true) 0 l tr st) a w->wpList P l.toArray (Cq B w0 Q) [on] a w):
 ∀ (fuel:Nat) (listed:Array Bool) (g:Gh) (a:Act) (w:World),listed.size=l.length->listed.getD n false=false->(listed.toList.count false)<=fuel->Cr l (fun k=>listed.getD k false)->Made l tr st (fun k=>listed.getD k false)->Rep B w0 g (L2 (fun k=>listed.getD k false) 0 l tr st) a w->wpAny P .any l.toArray (Cq B w0 Q) fuel listed a w:=by
 intro fuel
 induction fuel with
 | zero=>
  intro listed g a w hsz hnl hc hdn hM hrep
  have hlt':n<listed.toList.length:=by simp;omega
  have h4:listed.toList[n]=false:=by simpa[Array.getD,show n<listed.size by omega]using hnl
  have h6:0<listed.toList.count false:=List.count_pos_iff.2 (by rw[<-h4];simp)
  omega
 | succ fuel ih=>
  intro listed g a w hsz hnl hc hdn hM hrep
  refine⟨fun hready=>?_,fun i hi=>?_⟩
  . rw[IW hd hsz hready l.length (D6 _) n (by omega)]at hnl
    cases hnl
  rw[mem_ready]at hi
  obtain⟨h1,o,h2,h3⟩:=hi
  have hil:l[i]? = some o:=by simpa using h2
  have hlt:i<l.length:=(A6.1 hil).1
  have hDi:listed.getD i false=false:=by simpa[Array.getD,show i<listed.size by omega]using h1
  by_cases hin:i=n
  . subst hin
    rw[hon]at hil
    cases hil
    have hall:∀ k,k<i->listed.getD k false=true:=fun k hk=>FL hdn _ k i (hlast k hk) fun o' ho'=>by rw[hon]at ho';cases ho';exact h3
    have hrep2:Rep B w0 g (L2 (fun _=>true) 0 l tr st) a w:=by
     refine hrep.congr (by rw[R3,R3]) (fun t=>?_) (fun t=>?_) (fun t=>?_)
     . rw[N6,N6]
       congr 1
       refine I9 _ _ fun j v hj=>?_
       obtain⟨o,ef,-,h4,-⟩:=AY hj
       rw[D0]
       exact(hall j (by rw[<-hlen];exact(A6.1 h4).1)).symm
     . rw[K0,K0]
       congr 1
       refine I9 _ _ fun j v hj=>?_
       obtain⟨o,ef,-,h4⟩:=DM hj
       rw[D0]
       exact(hall j (by rw[<-hlen];exact(A6.1 h4).1)).symm
     . rw[N2,N2]
       congr 1
       refine I9 _ _ fun j v hj=>?_
       obtain⟨o,ef,-,h4⟩:=DL hj
       rw[D0]
       exact(hall j (by rw[<-hlen];exact(A6.1 h4).1)).symm
    have h5:=hfin g a w hrep2
    have hall2:∀ k,k<(listed.setIfInBounds i true).size->(listed.setIfInBounds i true).getD k false=true:=fun k hk=>by
     by_cases e:k=i
     . subst e
       simp[Array.getD,show k<listed.size by omega]
     . have hk2:k<listed.size:=by simpa using hk
       have:=hall k (by omega)
       simp[Array.getD,hk2,Ne.symm e]at this ⊢
       exact this
    unfold wpOp
    rw[h2]
    simp only
    unfold wpList at h5
    split
    . rename_i hw
      rw[C2 hw]at h5
      rcases h5 with h5|h5
      . exact .inl (Oper.wp_mono (fun a w hq=>HJ hall2 fuel hq) h5)
      . exact .inr h5
    . rename_i hw
      rw[B8 hw]at h5
      exact HJ hall2 fuel h5
  have hltn:i<n:=by omega
  obtain⟨⟨x,ef⟩,hx⟩:∃ p,tr[i]? = some p:=⟨_,A4 (by rw[hlen];exact hltn)⟩
  have hset:∀ j,(listed.setIfInBounds i true).getD j false=(listed.getD j false||Nat.beq j i):=fun j=>by
   by_cases hji:j=i
   . subst hji
     simp[Array.getD,show j<listed.size by omega,Nat.beq_refl]
   . have:Nat.beq j i=false:=by rw[<-Bool.not_eq_true];intro e;exact hji (E5 e)
     rw[this,Bool.or_false]
     by_cases hjs:j<listed.size
     . simp[Array.getD,hjs,Ne.symm hji]
     . simp[Array.getD,hjs]
  have hdn':Cr l (fun k=>(listed.setIfInBounds i true).getD k false):=by
   intro j oj hj hDj e he hb
   simp only[hset]at hDj ⊢
   rw[Bool.or_eq_true]at hDj ⊢
   left
   rcases hDj with hDj|hDj
   . exact hdn j oj hj hDj e he hb
   . rw[E5 hDj,hil]at hj
     cases hj
     exact h3 e he hb
  have hcnt:(listed.setIfInBounds i true).toList.count false<=fuel:=by
   have hlt':i<listed.toList.length:=by simp;omega
   have h4:listed.toList[i]=false:=by simpa[Array.getD,show i<listed.size by omega]using hDi
   have h5:=List.count_set (l:=listed.toList) (a:=true) (b:=false) (i:=i) hlt'
   have h6:0<listed.toList.count false:=List.count_pos_iff.2 (by rw[<-h4];simp)
   rw[Array.toList_setIfInBounds,h5,h4]
   simp only[beq_self_eq_true,if_true,show(true==false)=false from rfl,Bool.false_eq_true,if_false]
   omega
  have hadd:=Im hd ht hdn hM hil hx hDi h3 (D':=fun k=>(listed.setIfInBounds i true).getD k false) hset
  have hM':Made l tr st (fun k=>(listed.setIfInBounds i true).getD k false):=by
   refine Dc hM (i:=i) hset fun e cs hu=>?_
   obtain⟨o',x',g1,g2,g3⟩:=P8 ht hu
   rw[hil]at g1
   cases g1
   rcases g3 with⟨-,⟨y,hy,g4⟩,-⟩|g3
   . left
     have hev:(L2 (fun k=>listed.getD k false) 0 l tr st).ev y=(L2 (fun k=>Nat.blt k i) 0 l tr st).ev y:=by
      cases y with
      | tmp t=>
       refine An hd hdn hil hDi h3 t ?_
       unfold Oper.looksAt
       refine List.mem_append.2 (.inl (List.mem_filterMap.2 ⟨.tmp t,Array.mem_toList_iff.2 hy,O⟩))
      | _=>rfl
     have h9:=hrep.eval y
     rw[hev]at h9
     obtain⟨b,h10⟩:=h9.id_bl g4
     exact hrep.dom e b h10
   . exact .inr ⟨o,hil,g3⟩
  have next:∀ g' a' w',Rep B w0 g' (((L2 (fun k=>listed.getD k false) 0 l tr st).eff ef).put o.dst x) a' w'->wpAny P .any l.toArray (Cq B w0 Q) fuel (listed.setIfInBounds i true) a' w':=fun g' a' w' hr'=>
   ih _ g' a' w' (by simpa using hsz) (by rw[hset,hnl,Bool.false_or,<-Bool.not_eq_true];intro e;exact hin (E5 e).symm) hcnt hdn' hM' (hr'.congr hadd.1 hadd.2.1 hadd.2.2.1 hadd.2.2.2)
  unfold wpOp
  rw[h2]
  simp only
  rcases ht.step i o x ef hil hx with⟨h4,h5,h6⟩|⟨rfl,rfl,h5,h6⟩
  . have hw:=H9 hrep ((Z8 hd hdn hil hDi h3).trans h6)
    rw[C2 hw]
    exact .inl (h4 _ (agree hd ht hdn hM hil hDi h3 h5 hrep) B w0 g a w _ _ hrep next)
  . have hw:=H9 hrep ((Z8 hd hdn hil hDi h3).trans h6)
    rw[B8 (by rw[hw];simp)]
    refine next g _ w (hrep.put SRep.undef _ ?_)
    intro q hq
    rw[R3]
    have:=F5 h5 q hq
    rwa [R3]at this
theorem G1 (hm:P.follows .mixedOrders=true) (hb:JT l=true) (h:YR P false l.toArray (Q .normal) l st) (hnd:ndB l=true:=by rfl):PW P B w0 (.region id l.toArray true) Q st:=fun g a w hr=>by
 obtain⟨tr,h1,h2,h3⟩:=h.trace 0
 have ht:TrOk P l tr st:=⟨fun i o x ef hi hx=>by have:=h2 i o x ef hi hx;rwa [D0]at this⟩
 have hempty:∀ k,(Array.replicate l.toArray.size false).getD k false=false:=fun k=>by
  by_cases hk:k<l.length<;>simp[Array.getD,hk]
 have hw:Rep B w0 g st a { w with drawn:=w.drawn+1 }:=hr.grow ⟨rfl,rfl,rfl,D6 _,fun _ _=>rfl⟩
 refine wpIn_mono (wpIn_region_any hm (CV (R5 (B:=B) (w0:=w0) (Q:=Q)).1 hnd (Ce (Q:=IZ Q) (Gv hb) ht h1 h3 (fun _ h=>h) l.toArray.size _ g a _ (by simp) (by simp) (fun i o _ hD=>?_) (fun e j cs _ hD=>F9 ((hempty j).symm.trans hD) (by simp)) (hw.congr (R3 _ _ _ _ _) (fun t=>?_) (fun t=>?_) (fun t=>?_))))) (R5 (B:=B) (w0:=w0) (Q:=Q)).2
 . exact F9 ((hempty i).symm.trans hD) (by simp)
 . rw[N6,L4 _ _ fun j v _=>hempty _];rfl
 . rw[K0,L4 _ _ fun j v _=>hempty _];rfl
 . rw[N2,L4 _ _ fun j v _=>hempty _];rfl
theorem T8 (hm:P.follows .mixedOrders=true) (hb:Do l=true) (h:YR P false l.toArray (Sep l (Q .normal)) l st) (hnd:ndB l=true:=by rfl):PW P B w0 (.region id l.toArray true) Q st:=fun g a w hr=>by
 obtain⟨tr,h1,h2,h3⟩:=h.trace 0
 have ht:TrOk P l tr st:=⟨fun i o x ef hi hx=>by have:=h2 i o x ef hi hx;rwa [D0]at this⟩
 have hempty:∀ k,(Array.replicate l.toArray.size false).getD k false=false:=fun k=>by
  by_cases hk:k<l.length<;>simp[Array.getD,hk]
 have hw:Rep B w0 g st a { w with drawn:=w.drawn+1 }:=hr.grow ⟨rfl,rfl,rfl,D6 _,fun _ _=>rfl⟩
 refine wpIn_mono (wpIn_region_any hm (CV (R5 (B:=B) (w0:=w0) (Q:=Q)).1 hnd (Ce (Q:=IZ Q) (KN hb h3.h) ht h1 h3.k (fun _ h=>h) l.toArray.size _ g a _ (by simp) (by simp) (fun i o _ hD=>?_) (fun e j cs _ hD=>F9 ((hempty j).symm.trans hD) (by simp)) (hw.congr (R3 _ _ _ _ _) (fun t=>?_) (fun t=>?_) (fun t=>?_))))) (R5 (B:=B) (w0:=w0) (Q:=Q)).2
 . exact F9 ((hempty i).symm.trans hD) (by simp)
 . rw[N6,L4 _ _ fun j v _=>hempty _];rfl
 . rw[K0,L4 _ _ fun j v _=>hempty _];rfl
 . rw[N2,L4 _ _ fun j v _=>hempty _];rfl
theorem BS (l0:List Oper) (o:Oper) (hl:l=l0++[o]) (hm:P.follows .mixedOrders=true) (hb:JT l=true) (hlb:lastB l=true) (h:YR P false l.toArray (fun s=>YR P true l.toArray (Q .normal) [o] s) l0 st) (hnd:ndB l=true:=by rfl):PW P B w0 (.region id l.toArray true) Q st:=fun g a w hr=>by
 obtain⟨tr,h1,h2,h3⟩:=h.trace 0
 have hst:∀ L,L2 L 0 l tr st=L2 L 0 l0 tr st:=fun L=>by rw[hl];exact stD_app L 0 l0 o tr st h1
 have hll:l.length=l0.length+1:=by rw[hl];simp
 have ht:TrOk P l tr st:=⟨fun i o' x ef hi hx=>by
  have hi0:i<l0.length:=by rw[<-h1];exact(A6.1 hx).1
  have hi':l0[i]? = some o':=by rw[hl,E4 hi0]at hi;exact hi
  have:=h2 i o' x ef hi' hx
  rw[D0]at this
  rw[hst]
  exact this⟩
 have hon:l[l0.length]? = some o:=by rw[hl];simp
 have hlast:∀ j,j<l0.length->GQ l l.length j l0.length=true:=fun j hj=>by
  unfold lastB at hlb
  rw[hll,Nat.add_sub_cancel,E7]at hlb
  have:=hlb j (List.mem_range.2 hj)
  rw[<-hll]at this
  exact this
 have hempty:∀ k,(Array.replicate l.toArray.size false).getD k false=false:=fun k=>by
  by_cases hk:k<l.length<;>simp[Array.getD,hk]
 have hw:Rep B w0 g st a { w with drawn:=w.drawn+1 }:=hr.grow ⟨rfl,rfl,rfl,D6 _,fun _ _=>rfl⟩
 refine wpIn_mono (wpIn_region_any hm (CV (R5 (B:=B) (w0:=w0) (Q:=Q)).1 hnd (Fm (Q:=IZ Q) (Gv hb) ht hll h1 hon hlast (fun g a w hr=>?_) l.toArray.size _ g a _ (by simp) (hempty _) (by simp) (fun i o _ hD=>?_) (fun e j cs _ hD=>F9 ((hempty j).symm.trans hD) (by simp)) (hw.congr (R3 _ _ _ _ _) (fun t=>?_) (fun t=>?_) (fun t=>?_))))) (R5 (B:=B) (w0:=w0) (Q:=Q)).2
 . rw[hst]at hr
   exact h3.sound (Q:=IZ Q) (fun _ h=>h) hr
 . exact F9 ((hempty i).symm.trans hD) (by simp)
 . rw[N6,L4 _ _ fun j v _=>hempty _];rfl
 . rw[K0,L4 _ _ fun j v _=>hempty _];rfl
 . rw[N2,L4 _ _ fun j v _=>hempty _];rfl
end
class AppOf (P:Program) (T:TypeId) (E:outParam TypeId) (k:outParam Nat) (bytes:outParam Nat):Prop where
 und:P.underlying T=some (.slice E)
 inf:∃ i z,P.info? E=some i∧i.zero=some z∧i.size=k∧i.bytes=bytes∧z.cells.size=k
theorem R9 {k:Nat} (hu:P.underlying T=some (.slice E)) (h:(P.info? E).map (fun i=>(i.zero,i.size,i.bytes))=some (some z,k,bytes)) (hz:z.cells.size=k):AppOf P T E k bytes:=by
 obtain⟨i,h1,h2,h3,h4⟩:=info_parts h
 exact⟨hu,i,z,h1,h2,h3,h4,hz⟩
theorem AD {k:Nat} (h:w.ownsRow B E k v n xs) {m c:Nat} (hv:v=.slice A m c):m=n:=by
 obtain⟨A',c',h1,-⟩:=O0 h
 exact(Value.slice.inj (hv.symm.trans h1)).2.1
section
variable {d:Option Nat} {ty:TypeId} {pos:String} {af:Array Edge} {gd:Option (Nat×Bool)}
theorem KG (T:TypeId) (s x:Operand) {k:Nat} {es2:List (List DV)} [hA:AppOf P T E k bytes] (hs:st.ev s=.ts t k es) (ht:st.tget t=some n) (hn:n=es.length) (hx:asSl (st.ev x)=some (k,es2)) (hE:t / 100000=E)
 (hb:(es.length+es2.length)*bytes<=140737488351232) (hl:es.length+es2.length<=140737488351232) (hd:G3 ⟨d,.call { callee:=.builtin .append,args:=#[s,x],argTypes:=#[T,T] },ty,pos,af,gd⟩ st=true):
 I7 P ⟨d,.call { callee:=.builtin .append,args:=#[s,x],argTypes:=#[T,T] },ty,pos,af,gd⟩ st (.ts t k (es++es2)) (.tok t (es.length+es2.length)):=fun st2 ha=>by
 subst hn
 intro B w0 g a w K Q hr hK
 have h1:=hr.eval s
 rw[ha.ev s (by simp[Op.operands,Call.operands]),hs]at h1
 obtain⟨h1,h2⟩:=h1
 obtain⟨A1,c1,ys,hv1,hc1,hm1,hk1,hl1,hcell1,hone1,hrep1⟩:=DRep.row h1
 have h3:=hr.eval x
 rw[ha.ev x (by simp[Op.operands,Call.operands])]at h3
 obtain⟨A2,c2,news,hv2,hc2,hm2,hk2,hl2,hcell2,hone2,hrep2⟩:=DRep.row (h3.asSl hx)
 obtain⟨T',A,c,h4,h5⟩:=hr.tlen t es.length ((ha.tk rfl s (by simp[Op.operands,Call.operands]) t k es hs).trans ht)
 obtain⟨h6,h7⟩:=h2 T' h4
 have h8:a.eval s=T'.v:=(h7 A es.length c h5).2 rfl
 obtain⟨⟨n',xs,h9⟩,h10⟩:=hr.toks t T' h4
 obtain rfl:es.length=n':=AD h9 h5
 have hTE:T'.E=E:=(hr.telt t T' h4).trans hE
 obtain⟨i,z,q1,q2,q3,q4,q5⟩:=hA.inf
 rw[hTE,h6]at h9
 obtain⟨v',w',r1,r2,r3,r4,r5,r6,r7⟩:=FG (P:=P) w 0 T ty E i z k bytes hA.und q1 q2 q3 q4 q5 T'.v es.length xs h9 A2 es2.length c2 news hl2 (fun h0=>by
  obtain⟨b,off,rfl,hcell⟩:=hcell2 h0
  exact⟨_,O,fun j u hj=>by rw[Addr.add_lit];exact(hcell j u hj).1⟩) hone2 (by unfold maxLen;omega) (by omega) (D4 _)
 have hxs:xs=ys:=by
  apply List.ext_getElem?
  intro j
  have hlx:=h9.1
  by_cases hj:j<es.length*k
  . have h0:0<es.length:=by
     rcases F7 es.length with h0|h0
     . rw[h0]at hj;simp at hj
     . exact h0
    obtain⟨b,off,hA1,hcell⟩:=hcell1 h0
    obtain⟨u,hu⟩:∃ u,ys[j]? = some u:=⟨_,A4 (by omega)⟩
    obtain⟨u',hu'⟩:∃ u,xs[j]? = some u:=⟨_,A4 (by omega)⟩
    have e1:T'.v=.slice (some ⟨b,off,none⟩) es.length c1:=by rw[<-h8,hv1,hA1]
    have e2:=T9 h9 (b:=b) (by rw[e1];rfl) j u' hu'
    obtain⟨A3,c3,e3,-,e4⟩:=O0 h9
    have e5:=e4 b (by rw[e1];rfl)
    have e6:off=0:=by
     have:=e1.symm.trans e5
     have:=(Value.slice.inj this).1
     simpa using this
    have e7:=(hcell j u hu).1
    rw[e6,D0,e2]at e7
    rw[hu,hu',G4 e7]
  . rw[E9 (by omega),E9 (by omega)]
 subst hxs
 obtain⟨fx,hrep'⟩:=hr.app t es.length es2.length T' h4 xs news v' (by rw[hTE,h6];exact h9) (by rw[hTE,h6];exact r2) r3 (fun b hb hne=>r4 b hb hne) (fun b o hb hb' ho=>r5 b o hb hb' (by rw[<-h6];exact ho)) r6 r7
 have hrun:(execOp a.eval ⟨d,.call { callee:=.builtin .append,args:=#[s,x],argTypes:=#[T,T] },ty,pos,af,gd⟩).run P w=.ok (.value v') w':=by
  simp only[execOp,resolve,invoke,builtin,Sem.run_bind,Sem.run_pure,C1,List.map_toArray,List.map_cons,List.map_nil,h8,hv2,r1]
 unfold Oper.wp
 rw[hrun]
 refine hK _ _ _ (hrep'.put (v:=v') (x:=.ts t k (es++es2)) ⟨?_,fun T2 hT2=>?_⟩ _ (F5 (st:=st2.tput t _) (ha.dst hd)))
 . obtain⟨A3,c3,e3,e4,e5⟩:=O0 r2
   have e3':v'=.slice A3 (es++es2).length c3:=by rw[D1];exact e3
   refine(H4 (fun q=>DRep (Fx (g.sett t ⟨v',T'.E,T'.k⟩)) w' q (.sl k (es++es2))) e3').mpr ?_
   refine DRep.of_row (xs:=xs++news) (by rw[D1];exact e4) (by rw[D1];exact E3 hl (by decide)) (fun e he=>?_) (fun h0=>?_) (fun u hu=>?_) fun i j e y he hy=>?_
   . rcases List.mem_append.1 he with he|he
     . exact hk1 e he
     . exact hk2 e he
   . rcases r2.2 with⟨e6,e7⟩|⟨gb,cap,cur,e6,e7,e8,-⟩
     . rw[D1]at h0;omega
     . have e9:A3=some ⟨gb,0,none⟩:=(Value.slice.inj (e3.symm.trans e6)).1
       refine⟨gb,0,e9,fun j u hj=>⟨?_,?_⟩⟩
       . rw[D0];exact T9 r2 (by rw[e6];rfl) j u hj
       . refine⟨hrep'.tf0 t ⟨v',T'.E,T'.k⟩ gb _ (by simp[Gh.sett]) (by show v'.ownBlock=_;rw[e6];rfl),fun i' hi'=>?_,fun t2 T2 n2 c2' hT2 hv2'=>?_⟩
         . exact(hrep'.toks t ⟨v',T'.E,T'.k⟩ (by simp[Gh.sett])).2 i' gb (by rw[show(⟨v',T'.E,T'.k⟩:Tk).v=v' from rfl,e6];rfl) hi'
         . have htt:t2=t:=hrep'.tdis t2 t T2 ⟨v',T'.E,T'.k⟩ gb hT2 (by simp[Gh.sett]) (by rw[hv2'];rfl) (by rw[show(⟨v',T'.E,T'.k⟩:Tk).v=v' from rfl,e6];rfl)
           subst htt
           simp only[Gh.sett,C2]at hT2
           cases hT2
           have e10:n2=es.length+es2.length:=(Value.slice.inj ((show v'=_ from hv2').symm.trans e6)).2.1
           have hlt:=(A6.1 hj).1
           rw[r2.1]at hlt
           show 0+j<n2*T'.k
           rw[e10,h6,D0]
           exact hlt
   . rcases List.mem_append.1 hu with hu|hu
     . exact hone1 u hu
     . exact hone2 u hu
   . by_cases hi:i<es.length
     . rw[E4 hi]at he
       obtain⟨u,e6,e7⟩:=hrep1 i j e y he hy
       refine⟨u,?_,e7.mono fx⟩
       rw[E4 (A6.1 e6).1]
       exact e6
     . rw[E6 (by omega)]at he
       obtain⟨u,e6,e7⟩:=hrep2 (i-es.length) j e y he hy
       refine⟨u,?_,e7.mono fx⟩
       have:i*k+j-xs.length=(i-es.length)*k+j:=by
        rw[h9.1,Nat.sub_mul]
        have:=Nat.mul_le_mul_right k (show es.length<=i by omega)
        omega
       rw[E6 (by rw[h9.1];have:=Nat.mul_le_mul_right k (show es.length<=i by omega);omega),this]
       exact e6
 . simp only[Gh.sett,C2]at hT2
   cases hT2
   refine⟨h6,fun A3 n3 c3 e3=>?_⟩
   have e4:n3=es.length+es2.length:=AD r2 e3
   rw[D1]
   exact⟨by omega,fun _=>rfl⟩
end
def SV.noTs (t:Nat):SV->Bool
 | .ts t' _ _=>!Nat.beq t' t
 | _=>true
def PS.noTs (st:PS) (t:Nat):Bool:=st.s.all (fun p=>p.2.noTs t)&&st.b.all fun p=>p.2.all fun x=>x.noTs t
theorem SRep.extp {x:SV} (h:SRep g w v x) (fx:Kp (Fx g) w (Fx g') w') (bl:∀ i∈x.ids,∀ b,g.bl i=some b->g'.bl i=some b) (tk:∀ t k es,x=.ts t k es->∀ T',g'.tk t=some T'->∃ T,g.tk t=some T∧HQ T T') (sh:∀ i∈x.ids,∀ b,g.bl i=some b->w'.shape? b=w.shape? b):SRep g' w' v x:=by
 cases x with
 | any=>trivial
 | d x=>exact DRep.mono h fx
 | ts t k es=>
  refine⟨DRep.mono h.1 fx,fun T' hT'=>?_⟩
  obtain⟨T,hT,hle⟩:=tk t k es rfl T' hT'
  obtain⟨h1,h2⟩:=h.2 T hT
  rcases hle with rfl|⟨h3,h4,A,n,c,A',n',c',h5,h6,h7,h8⟩
  . exact⟨h1,h2⟩
  . refine⟨h4.trans h1,fun A2 n2 c2 h9=>?_⟩
    obtain⟨-,h10,-⟩:=Value.slice.inj (h9.symm.trans h6)
    obtain⟨h11,h12⟩:=h2 A n c h5
    refine⟨by omega,fun h13=>?_⟩
    rw[h8 (by omega)]
    exact h12 (by omega)
 | bx i off=>obtain⟨b,h1,h2⟩:=h;exact⟨b,bl i (by simp[SV.ids]) _ h1,h2⟩
 | rd cs=>
  obtain⟨b,off,f,h1,h2⟩:=h
  refine⟨b,off,f,h1,fun j x hj=>?_⟩
  obtain⟨h3,h4,h5',h5⟩:=h2 j x hj
  obtain⟨h6,h7⟩:=fx.cell h4 h3
  exact⟨h7,h6,h5',h5.mono fx⟩
 | tup xs=>
  obtain⟨vs,h1,h2,h3⟩:=h
  exact⟨vs,h1,h2,fun i y x hy hx=>(h3 i y x hy hx).mono fx⟩
 | fn f caps=>
  obtain⟨bs,h1,h2,h3⟩:=h
  exact⟨bs,h1,h2,fun i b c hb hc=>bl c (by simpa[SV.ids]using B2 hc) _ (h3 i b c hb hc)⟩
 | fb f i off=>obtain⟨b,h1,h2⟩:=h;exact⟨b,bl i (by simp[SV.ids]) _ h1,h2⟩
 | bs i n E k=>
  obtain⟨b,c,h1,h2,h3,h4,h5⟩:=h
  exact⟨b,c,bl i (by simp[SV.ids]) _ h1,h2,h3,h4,(sh i (by simp[SV.ids]) _ h1).trans h5⟩
 | mb i=>obtain⟨b,h1,h2⟩:=h;exact⟨b,bl i (by simp[SV.ids]) _ h1,h2⟩
 | tx i T n=>
  obtain⟨b,h1,h2,h3⟩:=h
  exact⟨b,bl i (by simp[SV.ids]) _ h1,h2,(sh i (by simp[SV.ids]) _ h1).trans h3⟩
 | mc ms=>exact h
theorem JB {x:SV} (h:x.noTs t=true) {t' k:Nat} (e:x=.ts t' k es):t'≠t:=fun e'=>by rw[e,e']at h;simp[SV.noTs,Nat.beq_refl]at h
theorem Rep.newt (hr:Rep B w0 g st a w) {k:Nat} (hb:Below w.heap.size w w') (hfr:∀ b,v.ownBlock=some b->w.heap.size<=b) (hown:w'.ownsRow 0 E k v n xs) (hE:t / 100000=E) (hsm:smT t) (ht:st.tget t=none) (hno:st.noTs t=true):
 Evo g w (g.sett t ⟨v,E,k⟩) w'∧Rep B w0 (g.sett t ⟨v,E,k⟩) (st.tput t n) a w':=by
 have hno':=hno
 unfold PS.noTs at hno'
 rw[C6,E7,E7]at hno'
 have hgt:g.tk t=none:=by
  cases e:g.tk t with
  | none=>rfl
  | some T=>exact F9 ht (hr.tdom t T e)
 have ev:Evo g w (g.sett t ⟨v,E,k⟩) w':=by
  refine⟨hb.mono (D4 _),O,fun b o hf hs=>⟨⟨hf.1,hf.2.1,fun t' T' n' c h1 h2=>?_⟩,I2 (hb.block b (V4 hs)) o⟩,fun b hb'=>?_,fun _ _ h=>.inl h,fun t' T' hT'=>?_,fun t' T' b hT' hb'=>?_,fun i b _ hi _=>G5 (hb.block b (hr.blk i b hi).2)⟩
  . simp only[Gh.sett]at h1
    by_cases e:t'=t
    . rw[C2 e]at h1;cases h1
      have:=hfr b (by show v.ownBlock=_;rw[show v=_ from h2];rfl)
      have:=V4 hs
      omega
    . rw[B8 e]at h1;exact hf.2.2 t' T' n' c h1 h2
  . rcases G0 b w.heap.size with h1|h1
    . exact hb.block b h1
    . exact F9 (.inl h1) hb'
  . simp only[Gh.sett]at hT'
    by_cases e:t'=t
    . exact .inr (e ▸ hsm)
    . rw[B8 e]at hT';exact .inl ⟨T',hT',.inl O⟩
  . simp only[Gh.sett]at hT'
    by_cases e:t'=t
    . rw[C2 e]at hT';cases hT';exact .inl (hfr b hb')
    . rw[B8 e]at hT';exact .inr (.inr ⟨t',T',hT',hb'⟩)
 have srep:∀ v' x,SRep g w v' x->x.noTs t=true->SRep (g.sett t ⟨v,E,k⟩) w' v' x:=fun v' x hx hn=>by
  refine hx.extp ev.fx (fun _ _ _ h=>h) (fun t' k' es e T' hT'=>?_) fun i hi b hbl=>G5 (hb.block b (hr.blk i b hbl).2)
  simp only[Gh.sett]at hT'
  rw[B8 (JB hn e)]at hT'
  exact⟨T',hT',.inl O⟩
 refine⟨ev,{ hr with evo:=hr.evo.trans ev,defers:=hr.defers.evo ev,base:=E3 hr.base hb.size,f0:=hr.f0,lim:=hr.lim,size:=hr.size,glob:=fun q cs hq=>srep _ _ (hr.glob q cs hq) O,slots:=fun i=>srep _ _ (hr.slots i) ?_,boxes:=fun i cs hi hlt=>?_,maps:=fun i ms hi hge=>?_,blk:=fun i b hi=>⟨(hr.blk i b hi).1,G2 (hr.blk i b hi).2 hb.size⟩,dom:=hr.dom,inj:=hr.inj,toks:=fun t' T' hT'=>?_,tf0:=fun t' T' b o hT' hb'=>?_,telt:=fun t' T' hT'=>?_,tdis:=fun t1 t2 T1 T2 b h1 h2 h3 h4=>?_,tdom:=fun t' T' hT'=>?_,tlen:=fun t' n' hn=>?_ }⟩
 . show(st.get i).noTs t=true
   unfold PS.get
   cases e2:F8 st.s i with
   | none=>rfl
   | some x=>exact hno'.1 _ (J1 e2)
 . obtain⟨b,xs,T,h1,h2,h3,h4,h5⟩:=hr.boxes i cs hi hlt
   refine⟨b,xs,T,h1,(hb.block b (hr.blk i b h1).2).trans h2,h3,fun j c hj=>?_,h5⟩
   obtain⟨x,h6,h7⟩:=h4 j c hj
   have h8:=hno'.2 _ (J1 hi)
   rw[E7]at h8
   exact⟨x,h6,srep _ _ h7 (h8 c (B2 hj))⟩
 . obtain⟨b,es,c,h1,h2,h3⟩:=hr.maps i ms hi hge
   exact⟨b,es,c,h1,(hb.block b (hr.blk i b h1).2).trans h2,h3.mono ev.fx⟩
 . simp only[Gh.sett]at hT'
   by_cases e:t'=t
   . rw[C2 e]at hT';cases hT'
     refine⟨⟨n,xs,hown⟩,fun i b hb' hi=>?_⟩
     have h1:=hfr b hb'
     have h2:=(hr.blk i b hi).2
     omega
   . rw[B8 e]at hT'
     obtain⟨⟨n',ys,h1⟩,h2⟩:=hr.toks t' T' hT'
     exact⟨⟨n',ys,H8 h1 fun b hb'=>hb.block b (h1.lt b hb').2⟩,h2⟩
 . simp only[Gh.sett]at hT'
   by_cases e:t'=t
   . rw[C2 e]at hT';cases hT'
     exact hr.f0 b o (E3 hr.base (hfr b hb'))
   . rw[B8 e]at hT';exact hr.tf0 t' T' b o hT' hb'
 . simp only[Gh.sett]at hT'
   by_cases e:t'=t
   . rw[C2 e]at hT';cases hT';rw[e,hE]
   . rw[B8 e]at hT';exact hr.telt t' T' hT'
 . simp only[Gh.sett]at h1 h2
   have far:∀ t2 T2,g.tk t2=some T2->T2.v.ownBlock=some b->b<w.heap.size:=fun t2 T2 q1 q2=>by
    obtain⟨⟨n',ys,q3⟩,-⟩:=hr.toks t2 T2 q1
    exact(q3.lt b q2).2
   by_cases e1:t1=t<;>by_cases e2:t2=t
   . omega
   . rw[C2 e1]at h1;rw[B8 e2]at h2;cases h1
     have:=hfr b h3;have:=far t2 T2 h2 h4;omega
   . rw[B8 e1]at h1;rw[C2 e2]at h2;cases h2
     have:=hfr b h4;have:=far t1 T1 h1 h3;omega
   . rw[B8 e1]at h1;rw[B8 e2]at h2;exact hr.tdis t1 t2 T1 T2 b h1 h2 h3 h4
 . rw[Q0]
   simp only[Gh.sett]at hT'
   by_cases e:t'=t
   . simp[e]
   . rw[B8 e]at hT' ⊢;exact hr.tdom t' T' hT'
 . rw[Q0]at hn
   by_cases e:t'=t
   . rw[C2 e]at hn;cases hn
     obtain⟨A,c,h1,-⟩:=O0 hown
     exact⟨⟨v,E,k⟩,A,c,by simp[Gh.sett,e],h1⟩
   . rw[B8 e]at hn
     obtain⟨T',A,c,h1,h2⟩:=hr.tlen t' n' hn
     exact⟨T',A,c,by simp[Gh.sett,e,h1],h2⟩
theorem SRep.new_ts {k:Nat} (h:DRep (Fx (g.sett t ⟨v,E,k⟩)) w v (.sl k es)):SRep (g.sett t ⟨v,E,k⟩) w v (.ts t k es):=by
 refine⟨h,fun T hT=>?_⟩
 simp only[Gh.sett,C2]at hT
 cases hT
 refine⟨rfl,fun A n c h1=>?_⟩
 obtain⟨A',c',news,h2,-⟩:=DRep.row h
 have:=(Value.slice.inj (h1.symm.trans h2)).2.1
 exact⟨by omega,fun _=>rfl⟩
theorem FJ (s t k:Nat) (hs:st.get s=.d (.val (.slice none 0 0))) (ht:st.tget t=none) (hno:st.noTs t=true) (h:PW P B w0 c Q ((st.put (some s) (.ts t k [])).tput t 0)) (hsm:Nat.blt (t % 100000) 10000=true:=by rfl):PW P B w0 c Q st:=fun g a w hr=>by
 have hv:=hr.slots s
 rw[hs]at hv
 have hv:a.tmps.getD s undef=.slice none 0 0:=DRep.val_eq hv
 obtain⟨ev,hr'⟩:=hr.newt (t:=t) (n:=0) (E:=t / 100000) (k:=k) (v:=.slice none 0 0) (xs:=[]) (Below.refl _ _) (fun b hb=>by simp[Value.ownBlock]at hb) (World.ownsRow_nil _ _ _ _) rfl (B0 hsm) ht hno
 refine h _ a w { hr' with lim:=hr'.lim,size:=hr'.size,slots:=fun i=>?_,boxes:=hr'.boxes,maps:=hr'.maps,dom:=hr'.dom,tdom:=hr'.tdom,tlen:=hr'.tlen,glob:=hr'.glob }
 show SRep _ w _ ((st.put (some s) (.ts t k [])).get i)
 rw[O5]
 by_cases e:i=s
 . rw[C2 e,e,hv]
   exact SRep.new_ts DRep.nil
 . rw[B8 e]
   exact hr'.slots i
/-! literals -/
def setV (cs:Array Value):Nat->List Value->Array Value
 | _,[]=>cs
 | off,v::vs=>setV (cs.setIfInBounds off v) (off+1) vs
theorem Hz (vs:List Value) (off k:Nat) (cs:Array Value):(vs.zipIdx k).foldl (fun cs (p:Value×Nat)=>cs.setIfInBounds (off+p.2) p.1) cs=setV cs (off+k) vs:=by
 induction vs generalizing k cs with
 | nil=>rfl
 | cons v vs ih=>
  rw[List.zipIdx_cons,List.foldl_cons,ih,setV]
  rfl
def EO:List DV->Nat->List DV->List DV
 | cs,_,[]=>cs
 | cs,off,x::xs=>EO (cs.set off x) (off+1) xs
theorem FC (cs xs:List DV) (off:Nat):(EO cs off xs).length=cs.length:=by
 induction xs generalizing cs off with
 | nil=>rfl
 | cons x xs ih=>rw[EO,ih];simp
structure Reps (F:Nat->Nat->Prop) (w:World) (vs:List Value) (xs:List DV):Prop where
 len:vs.length=xs.length
 one:∀ v∈vs,v.oneCell'=true
 rep:∀ (i:Nat) v x,vs[i]? = some v->xs[i]? = some x->DRep F w v x
theorem Reps.set {xs:List DV} (h:Reps F w vs xs) (off:Nat) {x:DV} (hv:v.oneCell'=true) (hx:DRep F w v x):Reps F w (vs.set off v) (xs.set off x):=by
 refine⟨by simp[h.len],fun u hu=>?_,fun i u y hu hy=>?_⟩
 . rcases List.mem_or_eq_of_mem_set hu with h1|h1
   . exact h.one u h1
   . rw[h1];exact hv
 . by_cases e:i=off
   . subst e
     have h1:=(A6.1 hu).1
     rw[List.getElem?_set_self (by simpa using h1)]at hu
     have h2:=(A6.1 hy).1
     rw[List.getElem?_set_self (by simpa using h2)]at hy
     cases hu;cases hy;exact hx
   . rw[List.getElem?_set_ne (Ne.symm e)]at hu hy
     exact h.rep i u y hu hy
theorem Reps.setV {us:List Value} (h2:Reps F w us ys):∀ {vs:Array Value} {xs:List DV} (off:Nat),Reps F w vs.toList xs->Reps F w (setV vs off us).toList (EO xs off ys):=by
 induction us generalizing ys with
 | nil=>
  intro vs xs off h
  cases ys with
  | nil=>exact h
  | cons=>have:=h2.len;simp at this
 | cons u us ih=>
  intro vs xs off h
  cases ys with
  | nil=>have:=h2.len;simp at this
  | cons y ys=>
   refine ih ⟨by simpa using h2.len,fun v hv=>h2.one v (by simp[hv]),fun i v x hv hx=>h2.rep (i+1) v x (by simpa using hv) (by simpa using hx)⟩ (off+1) ?_
   rw[Array.toList_setIfInBounds]
   exact h.set off (h2.one u (by simp)) (h2.rep 0 u y O O)
def AO (place:Nat->Option (Nat×Nat)) (cs:List DV):List (Nat×List DV)->Option (List DV)
 | []=>some cs
 | (i,xs)::rest=>match place i with
  | none=>none
  | some (off,size)=>bif Nat.beq xs.length size&&Nat.ble (off+xs.length) cs.length then AO place (EO cs off xs) rest else none
theorem CO {place:Nat->Option (Nat×Nat)}:∀ (ps:List (Nat×Value)) (qs:List (Nat×List DV)) (vs:Array Value) (xs ys:List DV),ps.length=qs.length->(∀ (i:Nat) p q,ps[i]? = some p->qs[i]? = some q->p.1=q.1∧Reps F w p.2.cells.toList q.2)->Reps F w vs.toList xs->AO place xs qs=some ys →
 ∃ us,Instr.fill place vs ps=some us∧Reps F w us.toList ys:=by
 intro ps
 induction ps with
 | nil=>
  intro qs vs xs ys hl _ h hf
  cases qs with
  | nil=>cases hf;exact⟨vs,O,h⟩
  | cons=>cases hl
 | cons p ps ih=>
  intro qs vs xs ys hl hp h hf
  cases qs with
  | nil=>cases hl
  | cons q qs=>
   obtain⟨i,v⟩:=p
   obtain⟨i',zs⟩:=q
   obtain⟨rfl,h1⟩:=hp 0 _ _ rfl rfl
   simp only[AO]at hf
   split at hf
   . cases hf
   . rename_i off size hpl
     cases hb:Nat.beq zs.length size&&Nat.ble (off+zs.length) xs.length with
     | false=>rw[hb]at hf;cases hf
     | true=>
      rw[hb,cond_true]at hf
      rw[C6]at hb
      have e1:=E5 hb.1
      have e2:=B0 hb.2
      have e3:v.cells.size=zs.length:=by simpa using h1.len
      have e4:vs.size=xs.length:=by simpa using h.len
      obtain⟨us,h2,h3⟩:=ih qs (setV vs off v.cells.toList) (EO xs off zs) ys (by simpa using hl) (fun j p q hp' hq'=>hp (j+1) p q (by simpa using hp') (by simpa using hq')) (h1.setV off h) hf
      refine⟨us,?_,h3⟩
      simp only[Instr.fill,hpl]
      rw[B8 (by simp;omega)]
      have e5:v.cells.zipIdx.foldl (fun cs (p:Value×Nat)=>cs.setIfInBounds (off+p.2) p.1) vs=setV vs off v.cells.toList:=by
       rw[<-Array.foldl_toList,Array.toList_zipIdx]
       have:=Hz v.cells.toList off 0 vs
       simpa using this
      exact(H4 (fun q=>Instr.fill place q ps) e5).trans h2
def partD:SV->Option (List DV)
 | .d (.agg cs)=>some cs
 | .d x=>some [x]
 | .ts _ k es=>some [.sl k es]
 | _=>none
theorem SRep.partD {x:SV} (h:SRep g w v x) (hx:partD x=some ys):Reps (Fx g) w v.cells.toList ys:=by
 have key:∀ cs:List SV,Z9 x=some cs->P5 cs=some ys->Reps (Fx g) w v.cells.toList ys:=by
  intro cs h1 h2
  obtain⟨h3,h4,h5⟩:=h.cells h1
  obtain⟨h6,h7⟩:=R0 h2
  refine⟨by simp[h3,h6],h4,fun i u y hu hy=>?_⟩
  obtain⟨c,h8,h9⟩:=h7 i y hy
  obtain⟨u',h10,h11⟩:=h5 i c h8
  have:u'=u:=by
   have h12:v.cells[i]? = some u:=by simpa using hu
   rw[h10]at h12;exact G4 h12
  exact this ▸ h11.toD h9
 cases x with
 | d x=>
  cases x with
  | val u=>cases hx;exact key _ O O
  | sl k es=>cases hx;exact key _ O O
  | ref cs=>cases hx;exact key _ O O
  | abs R=>cases hx;exact key _ O O
  | mp ms=>cases hx;exact key _ O O
  | agg cs=>
   cases hx
   have:∀ l:List DV,P5 (l.map SV.d)=some l:=by
    intro l
    induction l with
    | nil=>rfl
    | cons z l ih=>simp only[List.map_cons,P5,ih];rfl
   exact key _ O (this _)
 | ts t k es=>cases hx;exact key _ O O
 | _=>cases hx
def Q4 (st:PS):List (Nat×Operand)->Option (List (Nat×List DV))
 | []=>some []
 | (i,x)::l=>match partD (st.ev x),Q4 st l with
  | some y,some ys=>some ((i,y)::ys)
  | _,_=>none
theorem DY {l:List (Nat×Operand)} {ys:List (Nat×List DV)} (h:Q4 st l=some ys):l.length=ys.length ∧ ∀ (j:Nat) p q,l[j]? = some p->ys[j]? = some q->p.1=q.1∧partD (st.ev p.2)=some q.2:=by
 induction l generalizing ys with
 | nil=>cases h;exact⟨rfl,fun j x y hj=>by simp at hj⟩
 | cons p l ih=>
  obtain⟨i,x⟩:=p
  simp only[Q4]at h
  split at h
  . rename_i y0 ys0 h1 h2
    cases h
    obtain⟨h3,h4⟩:=ih h2
    refine⟨by simp[h3],fun j x' y hx hy=>?_⟩
    cases j with
    | zero=>simp at hx hy;subst hx hy;exact⟨rfl,h1⟩
    | succ j=>exact h4 j x' y (by simpa using hx) (by simpa using hy)
  . cases h
theorem BV {l:List (Nat×Operand)} (h:∀ p∈l,st2.ev p.2=st.ev p.2):Q4 st2 l=Q4 st l:=by
 induction l with
 | nil=>rfl
 | cons x l ih=>obtain⟨i,x⟩:=x;simp only[Q4];rw[h (i,x) (by simp),ih fun y hy=>h y (by simp[hy])]
class BuildOf (P:Program) (T:TypeId) (places:outParam (List (Nat×Nat))) (zs:outParam (List Value)):Prop where
 run:∀ w (parts:Array (Nat×Value)) cells,Instr.fill (places.toArray[·]?) zs.toArray parts.toList=some cells->(Instr.build T parts).run P w=.ok (.agg cells) w
 one:∀ z∈zs,z.oneCell'=true
theorem U3 {T:TypeId} {fs:Array Field} (hz:∀ w,(zeroValue T).run P w=.ok z w) (hzc:z.cells=zs.toArray) (hu:∀ w,(underlying T).run P w=.ok (.struct fs) w)
 (hp:∀ w,(fs.mapM fun f=>do pure (f.offset,<-Go.sizeOf f.type):Sem (Array (Nat×Nat))).run P w=.ok places.toArray w) (one:∀ z∈zs,z.oneCell'=true):BuildOf P T places zs:=by
 refine⟨fun w parts cells h=>?_,one⟩
 unfold Instr.build
 simp only[Sem.run_bind,hz,C1,hu,hp,hzc,h,Sem.run_pure]
section
variable {d:Option Nat} {ty:TypeId} {pos:String} {af:Array Edge} {gd:Option (Nat×Bool)}
theorem Lt (T:TypeId) (ps:List (Nat×Operand)) [hB:BuildOf P T places zs] (hq:Q4 st ps=some qs) (hf:AO (places.toArray[·]?) (zs.map .val) qs=some ys) (hd:G3 ⟨d,.build T ps.toArray,ty,pos,af,gd⟩ st=true):
 I7 P ⟨d,.build T ps.toArray,ty,pos,af,gd⟩ st (.d (.agg ys)) .no:=fun st2 ha=>
 OpS.value (ha.dst hd) fun _ _ g a w h=>by
  have hq2:Q4 st2 ps=some qs:=by
   rw[BV fun p hp=>ha.ev p.2 ?_]
   . exact hq
   . simp only[Op.operands,List.mem_toArray,H5]
     exact⟨p,hp,O⟩
  obtain⟨h1,h2⟩:=DY hq2
  obtain⟨us,h3,h4⟩:=CO (F:=Fx g) (w:=w) (ps.map fun p=>(p.1,a.eval p.2)) qs zs.toArray (zs.map .val) ys (by simp[h1]) (fun i p q hp hq'=>by
   rw[B5,B7]at hp
   obtain⟨p',hp',rfl⟩:=hp
   obtain⟨h5,h6⟩:=h2 i p' q hp' hq'
   exact⟨h5,(h.eval p'.2).partD h6⟩) ⟨by simp,by simpa using hB.one,fun i v x hv hx=>by
    rw[B5]at hx
    have hv':zs[i]? = some v:=by simpa using hv
    rw[hv']at hx
    cases hx
    exact DRep.val v (hB.one v (B2 hv'))⟩ hf
  refine⟨.agg us,w,?_,Below.refl _ _,?_⟩
  . simp only[execOp,Sem.run_bind,List.map_toArray]
    rw[hB.run w _ us (by simpa using h3)]
    rfl
  . have:us=us.toList.toArray:=by simp
    rw[this]
    exact DRep.agg h4.len h4.one h4.rep
def J4 (k:Nat):Nat->List DV->List (List DV)
 | 0,_=>[]
 | n+1,l=>l.take k::J4 k n (l.drop k)
theorem M4 (k n:Nat) (l:List DV):(J4 k n l).length=n:=by
 induction n generalizing l with
 | zero=>rfl
 | succ n ih=>simp[J4,ih]
theorem Z6 (k n:Nat) (l:List DV) (i j:Nat) (e:List DV) (x:DV) (he:(J4 k n l)[i]? = some e) (hx:e[j]? = some x) (hl:l.length=n*k):l[i*k+j]? = some x∧e.length=k:=by
 induction n generalizing l i with
 | zero=>simp[J4]at he
 | succ n ih=>
  rw[Nat.succ_mul]at hl
  cases i with
  | zero=>
   simp[J4]at he
   subst he
   have hlen:(l.take k).length=k:=by rw[F3];omega
   have hj:=(A6.1 hx).1
   rw[hlen]at hj
   rw[C7 hj]at hx
   exact⟨by simpa using hx,hlen⟩
  | succ i=>
   obtain⟨h1,h2⟩:=ih (l.drop k) i (by simpa[J4]using he) (by simp;omega)
   rw[List.getElem?_drop]at h1
   exact⟨by rw[show(i+1)*k+j=k+(i*k+j)by rw[Nat.succ_mul];omega];exact h1,h2⟩
theorem Ap (k n:Nat) (l:List DV) (hl:l.length=n*k):∀ e∈J4 k n l,e.length=k:=by
 induction n generalizing l with
 | zero=>intro e he;simp[J4]at he
 | succ n ih=>
  rw[Nat.succ_mul]at hl
  intro e he
  rcases List.mem_cons.1 he with h|h
  . rw[h,F3];omega
  . exact ih (l.drop k) (by simp;omega) e h
class LitOf (P:Program) (T:TypeId) (E:outParam TypeId) (k:outParam Nat) (zs:outParam (List Value)):Prop where
 und:∀ w,(underlying T).run P w=.ok (.slice E) w
 size:∀ w,(Go.sizeOf E).run P w=.ok k w
 zero:∀ w,∃ z,(zeroValue E).run P w=.ok z w∧z.cells=zs.toArray
 len:zs.length=k
 one:∀ z∈zs,z.oneCell'=true
def P1 (zs:List Value):Nat->List DV
 | 0=>[]
 | n+1=>zs.map .val++P1 zs n
theorem Q7 (zs:List Value) (n:Nat):(P1 zs n).length=n*zs.length:=by
 induction n with
 | zero=>simp[P1]
 | succ n ih=>simp[P1,ih,Nat.succ_mul];omega
theorem DH (zs:List Value) (n i:Nat) (x:DV) (hi:(P1 zs n)[i]? = some x):x=.val (zs.toArray[i % zs.length]!)∧zs.toArray[i % zs.length]! ∈ zs:=by
 induction n generalizing i with
 | zero=>simp[P1]at hi
 | succ n ih=>
  simp only[P1]at hi
  by_cases h:i<zs.length
  . rw[E4 (by simpa using h),B5,A4 h]at hi
    rw[Nat.mod_eq_of_lt h]
    simp at hi
    simp[h,<-hi]
  . rw[E6 (by simp;omega)]at hi
    simp only[D3]at hi
    have h0:0<zs.length:=by
     rcases F7 zs.length with h0|h0
     . have hlt:=(A6.1 hi).1
       rw[Q7,h0]at hlt
       simp at hlt
     . exact h0
    have:=ih (i-zs.length) hi
    rw[show(i-zs.length) % zs.length=i % zs.length from(Nat.mod_eq_sub_mod (by omega)).symm]at this
    exact this
theorem Ga {k:Nat} [hB:LitOf P T E k zs] (hq2:Q4 st2 ps=some qs) (hf:AO (fun i=>some (i*k,k)) (P1 zs n) qs=some ys) (he:J4 k n ys=es) (hsm:n*k<=16777216) (hsn:n<=16777216) (h:Rep B w0 g st2 a w):
 ∃ us:Array Value,(execOp a.eval ⟨d,.buildSlice T n ps.toArray,ty,pos,af,gd⟩).run P w=.ok (.value (.slice (some ⟨w.heap.size,0,none⟩) n n)) (w.alloc (.cells us E))∧us.size=n*k∧DRep (Fx g) (w.alloc (.cells us E)) (.slice (some ⟨w.heap.size,0,none⟩) n n) (.sl k es):=by
 obtain⟨h1,h2⟩:=DY hq2
 have hz:Reps (Fx g) w ((Array.range (n*k)).map (zs.toArray[· % zs.toArray.size]!)).toList (P1 zs n):=by
  refine⟨by simp[Q7,hB.len],fun v hv=>?_,fun i v x hv hx=>?_⟩
  . obtain⟨i,hi⟩:=List.mem_iff_getElem?.1 hv
    have hlt:=(A6.1 hi).1
    simp at hlt
    obtain⟨x,hx⟩:∃ x,(P1 zs n)[i]? = some x:=⟨_,A4 (by rw[Q7,hB.len];exact hlt)⟩
    have h5:=DH zs n i x hx
    simp[hlt]at hi
    rw[<-hi]
    simpa using hB.one _ h5.2
  . have h5:=DH zs n i x hx
    have hlt:=(A6.1 hv).1
    simp at hlt
    simp[hlt]at hv
    rw[h5.1]
    have h6:=hB.one _ h5.2
    have h7:zs.toArray[i % zs.length]! = v:=by rw[<-hv];simp
    rw[h7]at h6 ⊢
    exact DRep.val _ h6
 obtain⟨us,h3,h4⟩:=CO (F:=Fx g) (w:=w) (ps.map fun p=>(p.1,a.eval p.2)) qs _ (P1 zs n) ys (by simp[h1]) (fun i p q hp hq'=>by
  rw[B5,B7]at hp
  obtain⟨p',hp',rfl⟩:=hp
  obtain⟨h5,h6⟩:=h2 i p' q hp' hq'
  exact⟨h5,(h.eval p'.2).partD h6⟩) hz hf
 have hyl:ys.length=n*k:=by
  have:∀ (qs:List (Nat×List DV)) (xs ys:List DV),AO (fun i=>some (i*k,k)) xs qs=some ys->ys.length=xs.length:=by
   intro qs
   induction qs with
   | nil=>intro xs ys h;cases h;rfl
   | cons q qs ih=>
    intro xs ys h
    obtain⟨i,z⟩:=q
    simp only[AO]at h
    cases hb:Nat.beq z.length k&&Nat.ble (i*k+z.length) xs.length with
    | false=>rw[hb]at h;cases h
    | true=>rw[hb,cond_true]at h;rw[ih _ _ h,FC]
  rw[this qs _ ys hf,Q7,hB.len]
 have hul:us.size=n*k:=by have:=h4.len;simp at this;omega
 refine⟨us,?_,hul,?_⟩
 . obtain⟨z,hz1,hz2⟩:=hB.zero w
   have hrun:(Instr.buildSlice T n (ps.map fun p=>(p.1,a.eval p.2)).toArray).run P w=.ok (.slice (some ⟨w.heap.size,0,none⟩) n n) (w.alloc (.cells us E)):=by
    unfold Instr.buildSlice
    simp only[Sem.run_bind,hB.und,hB.size,C1]
    rw[B8 (by simp;omega)]
    by_cases hnk:n*k=0
    . have hqs:Instr.fill (fun i=>some (i*k,k)) ((Array.range (n*k)).map ((#[]:Array Value)[· % (#[]:Array Value).size]!)) (ps.map fun p=>(p.1,a.eval p.2))=some us:=by
       rw[<-h3];congr 1;rw[hnk];simp
      simp only[hnk,if_true,pure_bind]at hqs ⊢
      simp only[hqs,Sem.run_bind,newRow,run_newObj,C1,Sem.run_pure,World.alloc]
    . simp only[hnk,if_false,Sem.run_bind,hz1,C1,pure_bind,hz2]
      simp only[h3,Sem.run_bind,newRow,run_newObj,C1,Sem.run_pure,World.alloc]
   simp only[execOp,Sem.run_bind,List.map_toArray,hrun,C1,Sem.run_pure]
 . have e0:=Evo.grow (g:=g) (fun i b hi=>(h.blk i b hi).2) ((Below.refl _ w).alloc (D6 _) (.cells us E))
   have hel:es.length=n:=by rw[<-he];exact M4 k n ys
   subst he
   have:DRep (Fx g) (w.alloc (.cells us E)) (.slice (some ⟨w.heap.size,0,none⟩) (J4 k n ys).length n) (.sl k (J4 k n ys)):=by
    refine DRep.of_row (xs:=us.toList) (by omega) (by omega) (Ap k n ys hyl) (fun _=>⟨w.heap.size,0,O,fun j u hj=>⟨?_,?_⟩⟩) h4.one fun i j e x he' hx=>?_
    . rw[D0]
      simp only[World.cell?,heap_alloc_new,Option.isSome_none,Bool.false_eq_true,if_false]
      simpa using hj
    . refine⟨h.f0 _ _ h.base,fun i' hi'=>?_,fun t T n' c' hT hv=>?_⟩
      . have:=(h.blk i' _ hi').2;omega
      . obtain⟨⟨n'',xs,h8⟩,-⟩:=h.toks t T hT
        have:=(h8.lt w.heap.size (by rw[hv];rfl)).2
        omega
    . obtain⟨h8,h9⟩:=Z6 k n ys i j e x he' hx hyl
      have hlt:=(A6.1 h8).1
      have h10:us.toList[i*k+j]? = some _:=A4 (by simp;omega)
      exact⟨_,h10,(h4.rep _ _ x h10 h8).mono e0.fx⟩
   rw[hel]at this
   exact this
theorem ls_lit (T:TypeId) (n:Nat) (ps:List (Nat×Operand)) {k:Nat} [hB:LitOf P T E k zs] (hq:Q4 st ps=some qs) (hf:AO (fun i=>some (i*k,k)) (P1 zs n) qs=some ys) (he:J4 k n ys=es) (hsm:Nat.ble (n*k) 16777216=true) (hsn:Nat.ble n 16777216=true) (hd:G3 ⟨d,.buildSlice T n ps.toArray,ty,pos,af,gd⟩ st=true):
 I7 P ⟨d,.buildSlice T n ps.toArray,ty,pos,af,gd⟩ st (.d (.sl k es)) .no:=fun st2 ha=>by
 have hsm:=B0 hsm
 have hsn:=B0 hsn
 refine OpS.value (ha.dst hd) fun _ _ g a w h=>?_
 have hq2:Q4 st2 ps=some qs:=by
  rw[BV fun p hp=>ha.ev p.2 ?_]
  . exact hq
  . simp only[Op.operands,List.mem_toArray,H5]
    exact⟨p,hp,O⟩
 obtain⟨us,h1,-,h3⟩:=Ga (P:=P) (T:=T) (d:=d) (ty:=ty) (pos:=pos) (af:=af) (gd:=gd) hq2 hf he hsm hsn h
 exact⟨_,_,h1,(Below.refl _ _).alloc (D6 _) _,h3⟩
/-! conversions of integers and strings; min and max -/
class UndI (P:Program) (T:TypeId) (kd:outParam IntKind):Prop where
 run:∀ w,(underlying T).run P w=.ok (.int kd) w
class UndS (P:Program) (T:TypeId):Prop where
 run:∀ w,(underlying T).run P w=.ok .string w
theorem Lp (S D:TypeId) (x:Operand) {ks k:IntKind} {n:Int} [hS:UndI P S ks] [hD:UndI P D kd] (hx:st.ev x=.d (.val (.int k n))) (hd:G3 ⟨d,.convert S D x,ty,pos,af,gd⟩ st=true):
 I7 P ⟨d,.convert S D x,ty,pos,af,gd⟩ st (.d (.val (.int kd (kd.wrap n)))) .no:=fun st2 ha=>
 OpS.value (ha.dst hd) fun _ _ _ a w h=>by
  have h1:=h.eval x
  rw[ha.ev x (by simp[Op.operands]),hx]at h1
  refine⟨.int kd (kd.wrap n),w,?_,Below.refl _ _,DRep.val _ O⟩
  simp only[execOp,DRep.val_eq h1,convert,Sem.run_bind,hS.run,hD.run,C1,Conv.intToInt,Sem.run_pure]
def X9 (st:PS):List Operand->Option (List Value)
 | []=>some []
 | x::l=>match st.ev x,X9 st l with
  | .d (.val v),some vs=>some (v::vs)
  | _,_=>none
theorem Dm (h:X9 st l=some vs) (hr:Rep B w0 g st a w):l.map a.eval=vs:=by
 induction l generalizing vs with
 | nil=>cases h;rfl
 | cons x l ih=>
  simp only[X9]at h
  split at h
  . rename_i v vs' h1 h2
    cases h
    have h3:=hr.eval x
    rw[h1]at h3
    rw[List.map_cons,ih h2,DRep.val_eq h3]
  . cases h
theorem Fl (h:∀ x∈l,st2.ev x=st.ev x):X9 st2 l=X9 st l:=by
 induction l with
 | nil=>rfl
 | cons x l ih=>simp only[X9];rw[h x (by simp),ih fun y hy=>h y (by simp[hy])]
theorem ls_bi (b:Builtin) (l:List Operand) (ts:Array TypeId) (hx:X9 st l=some vs) (hr:builtin b ts ty (l.toArray.map fun|.const _=>true|_=>false) vs.toArray=Sem.pure (.value u)) (hu:u.oneCell'=true) (hd:G3 ⟨d,.call { callee:=.builtin b,args:=l.toArray,argTypes:=ts },ty,pos,af,gd⟩ st=true):
 I7 P ⟨d,.call { callee:=.builtin b,args:=l.toArray,argTypes:=ts },ty,pos,af,gd⟩ st (.d (.val u)) .no:=fun st2 ha=>
 OpS.value (ha.dst hd) fun _ _ _ a w h=>by
  have h1:X9 st2 l=some vs:=by rw[Fl fun x hx=>ha.ev x (by simp[Op.operands,Call.operands,hx])];exact hx
  have h2:=Dm h1 h
  refine⟨u,w,?_,Below.refl _ _,DRep.val _ hu⟩
  have h3:(execOp a.eval ⟨d,.call { callee:=.builtin b,args:=l.toArray,argTypes:=ts },ty,pos,af,gd⟩).run P w=(builtin b ts ty (l.toArray.map fun|.const _=>true|_=>false) (l.map a.eval).toArray).run P w:=by
   simp only[execOp,resolve,Sem.run_bind,Sem.run_pure,C1,invoke,List.map_toArray]
   rfl
  rw[h3,h2,hr]
  rfl
end
section
variable {sq:Bool} {ops:Array Oper} {rest:List Oper} {d:Option Nat} {op:Op} {ty:TypeId} {pos:String} {af:Array Edge} {gd:Option (Nat×Bool)} {q:Nat×Bool}
theorem B1 {u:DV} (hx:st.ev y=.d u) (h:YR P sq ops K rest (st.put d (.d u))) (zz:zk ops st ⟨d,.move y,ty,pos,af,gd⟩ .no=true:=by kernel_rfl):YR P sq ops K (⟨d,.move y,ty,pos,af,gd⟩::rest) st:=I1 (lm (x:=.d u) hx (zd zz)) (zo zz) (zw zz) h
theorem C9 {u:DV} (hx:st.ev y=.d u) (h:YR P sq ops K rest (st.put d (.d u))) (zz:zk ops st ⟨d,.assign y,ty,pos,af,gd⟩ .no=true:=by kernel_rfl):YR P sq ops K (⟨d,.assign y,ty,pos,af,gd⟩::rest) st:=I1 (la (x:=.d u) hx (zd zz)) (zo zz) (zw zz) h
theorem yMb {o:Nat} (hx:st.ev y=.bx i o) (h:YR P sq ops K rest (st.put d (.bx i o))) (zz:zk ops st ⟨d,.move y,ty,pos,af,gd⟩ .no=true:=by kernel_rfl):YR P sq ops K (⟨d,.move y,ty,pos,af,gd⟩::rest) st:=I1 (lm (x:=.bx i o) hx (zd zz)) (zo zz) (zw zz) h
theorem Ib {k:Nat} (hx:st.ev y=.ts t k es) (h:YR P sq ops K rest (st.put d (.ts t k es))) (zz:zk ops st ⟨d,.move y,ty,pos,af,gd⟩ .no=true:=by kernel_rfl):YR P sq ops K (⟨d,.move y,ty,pos,af,gd⟩::rest) st:=I1 (lm (x:=.ts t k es) hx (zd zz)) (zo zz) (zw zz) h
theorem Fu {k:Nat} (hx:st.ev y=.ts t k es) (h:YR P sq ops K rest (st.put d (.ts t k es))) (zz:zk ops st ⟨d,.assign y,ty,pos,af,gd⟩ .no=true:=by kernel_rfl):YR P sq ops K (⟨d,.assign y,ty,pos,af,gd⟩::rest) st:=I1 (la (x:=.ts t k es) hx (zd zz)) (zo zz) (zw zz) h
theorem Aw {xs:List DV} (hx:st.ev y=.tup xs) (h:YR P sq ops K rest (st.put d (.tup xs))) (zz:zk ops st ⟨d,.move y,ty,pos,af,gd⟩ .no=true:=by kernel_rfl):YR P sq ops K (⟨d,.move y,ty,pos,af,gd⟩::rest) st:=I1 (lm (x:=.tup xs) hx (zd zz)) (zo zz) (zw zz) h
theorem yMf {cs:List Nat} (hx:st.ev y=.fn f cs) (h:YR P sq ops K rest (st.put d (.fn f cs))) (zz:zk ops st ⟨d,.move y,ty,pos,af,gd⟩ .no=true:=by kernel_rfl):YR P sq ops K (⟨d,.move y,ty,pos,af,gd⟩::rest) st:=I1 (lm (x:=.fn f cs) hx (zd zz)) (zo zz) (zw zz) h
theorem yAf {cs:List Nat} (hx:st.ev y=.fn f cs) (h:YR P sq ops K rest (st.put d (.fn f cs))) (zz:zk ops st ⟨d,.assign y,ty,pos,af,gd⟩ .no=true:=by kernel_rfl):YR P sq ops K (⟨d,.assign y,ty,pos,af,gd⟩::rest) st:=I1 (la (x:=.fn f cs) hx (zd zz)) (zo zz) (zw zz) h
theorem J7 {u:DV} {c z:Operand} (hc:st.ev c=.d (.val (.bool true))) (hx:st.ev y=.d u) (h:YR P sq ops K rest (st.put d (.d u))) (zz:zk ops st ⟨d,.pick c y z,ty,pos,af,gd⟩ .no=true:=by kernel_rfl):YR P sq ops K (⟨d,.pick c y z,ty,pos,af,gd⟩::rest) st:=I1 (lpt (x:=.d u) hc hx (zd zz)) (zo zz) (zw zz) h
theorem I6 {u:DV} {c z:Operand} (hc:st.ev c=.d (.val (.bool false))) (hx:st.ev z=.d u) (h:YR P sq ops K rest (st.put d (.d u))) (zz:zk ops st ⟨d,.pick c y z,ty,pos,af,gd⟩ .no=true:=by kernel_rfl):YR P sq ops K (⟨d,.pick c y z,ty,pos,af,gd⟩::rest) st:=I1 (lpf (x:=.d u) hc hx (zd zz)) (zo zz) (zw zz) h
theorem K7 {cs:List DV} {c:DV} [AggOf P T false 1] (hx:st.ev y=.rd cs) (hc:cs[0]? = some c) (h:YR P sq ops K rest (st.put d (.d c))) (zz:zk ops st ⟨d,.load T y,ty,pos,af,gd⟩ .no=true:=by kernel_rfl):YR P sq ops K (⟨d,.load T y,ty,pos,af,gd⟩::rest) st:=I1 (load_rd T y hx hc (zd zz)) (zo zz) (zw zz) h
theorem J9 {k:Nat} {cs:List DV} [AggOf P T true k] (hx:st.ev y=.rd cs) (hc:cs.take k=ys) (hl:ys.length=k) (h:YR P sq ops K rest (st.put d (.d (.agg ys)))) (zz:zk ops st ⟨d,.load T y,ty,pos,af,gd⟩ .no=true:=by kernel_rfl):YR P sq ops K (⟨d,.load T y,ty,pos,af,gd⟩::rest) st:=I1 (GY T y hx hc hl (zd zz)) (zo zz) (zw zz) h
theorem D7 {u:DV} {cs:List SV} [AggOf P T false 1] (hx:st.ev y=.bx i off) (hi:st.bget i=some cs) (hc:cs[off]? = some (.d u)) (h:YR P sq ops K rest (st.put d (.d u))) (zz:zk ops st ⟨d,.load T y,ty,pos,af,gd⟩ .no=true:=by kernel_rfl) (h5:Nat.blt i 500000=true:=by rfl):YR P sq ops K (⟨d,.load T y,ty,pos,af,gd⟩::rest) st:=I1 (Cw T y (B0 h5) hx hi hc (zd zz)) (zo zz) (zw zz) h
theorem yLt {k:Nat} {cs:List SV} [AggOf P T false 1] (hx:st.ev y=.bx i off) (hi:st.bget i=some cs) (hc:cs[off]? = some (.ts t k es)) (h:YR P sq ops K rest (st.put d (.ts t k es))) (zz:zk ops st ⟨d,.load T y,ty,pos,af,gd⟩ .no=true:=by kernel_rfl) (h5:Nat.blt i 500000=true:=by rfl):YR P sq ops K (⟨d,.load T y,ty,pos,af,gd⟩::rest) st:=I1 (Cw T y (B0 h5) hx hi hc (zd zz)) (zo zz) (zw zz) h
theorem J8 {k:Nat} {cs:List SV} [AggOf P T true k] (hx:st.ev y=.bx i off) (hi:st.bget i=some cs) (hc:P5 ((cs.drop off).take k)=some ys) (hl:ys.length=k) (h:YR P sq ops K rest (st.put d (.d (.agg ys)))) (zz:zk ops st ⟨d,.load T y,ty,pos,af,gd⟩ .no=true:=by kernel_rfl) (h5:Nat.blt i 500000=true:=by rfl):YR P sq ops K (⟨d,.load T y,ty,pos,af,gd⟩::rest) st:=I1 (GZ T y (B0 h5) hx hi hc hl (zd zz)) (zo zz) (zw zz) h
theorem D8 {S:Nat} {o:Nat} [FieldOf P S f off T] (hx:st.ev y=.bx i o) (h:YR P sq ops K rest (st.put d (.bx i (o+off)))) (zz:zk ops st ⟨d,.fieldAddr S y f,ty,pos,af,gd⟩ .no=true:=by kernel_rfl):YR P sq ops K (⟨d,.fieldAddr S y f,ty,pos,af,gd⟩::rest) st:=I1 (fa_bx S f y hx (zd zz)) (zo zz) (zw zz) h
theorem Ie {S:Nat} {cs cs':List DV} [FieldOf P S f off T] (hx:st.ev y=.rd cs) (hc:cs.drop off=cs') (h:YR P sq ops K rest (st.put d (.rd cs'))) (zz:zk ops st ⟨d,.fieldAddr S y f,ty,pos,af,gd⟩ .no=true:=by kernel_rfl):YR P sq ops K (⟨d,.fieldAddr S y f,ty,pos,af,gd⟩::rest) st:=I1 (fa_rd S f y hx hc (zd zz)) (zo zz) (zw zz) h
theorem yB {op:BinOp} {t':Nat} {vx vy:Value} (hx:st.ev x=.d (.val vx)) (hy:st.ev y=.d (.val vy)) (hr:(eqGuard op t x y vx vy >>= fun _=>binOp op t vx vy)=Sem.pure u) (hu:u.oneCell'=true) (h:YR P sq ops K rest (st.put d (.d (.val u)))) (zz:zk ops st ⟨d,.binOp op t x y t',ty,pos,af,gd⟩ .no=true:=by kernel_rfl):YR P sq ops K (⟨d,.binOp op t x y t',ty,pos,af,gd⟩::rest) st:=I1 (BE op t t' x y hx hy hr hu (zd zz)) (zo zz) (zw zz) h
theorem yU {op:UnOp} {vx:Value} (hx:st.ev x=.d (.val vx)) (hr:Op.unary op vx=Sem.pure u) (hu:u.oneCell'=true) (h:YR P sq ops K rest (st.put d (.d (.val u)))) (zz:zk ops st ⟨d,.unOp op t x,ty,pos,af,gd⟩ .no=true:=by kernel_rfl):YR P sq ops K (⟨d,.unOp op t x,ty,pos,af,gd⟩::rest) st:=I1 (ls_un op t x hx hr hu (zd zz)) (zo zz) (zw zz) h
theorem yX {xs:List DV} {u:DV} (hx:st.ev x=.tup xs) (hu:xs[i]? = some u) (h:YR P sq ops K rest (st.put d (.d u))) (zz:zk ops st ⟨d,.extract x i,ty,pos,af,gd⟩ .no=true:=by kernel_rfl):YR P sq ops K (⟨d,.extract x i,ty,pos,af,gd⟩::rest) st:=I1 (Hu x i hx hu (zd zz)) (zo zz) (zw zz) h
theorem yN {k:Nat} [SliceOf P T E k] (hx:asSl (st.ev x)=some (k,es)) (h:YR P sq ops K rest (st.put d (.d (.val (.int .i64 es.length))))) (zz:zk ops st ⟨d,.call { callee:=.builtin .len,args:=#[x],argTypes:=#[T] },ty,pos,af,gd⟩ .no=true:=by kernel_rfl):YR P sq ops K (⟨d,.call { callee:=.builtin .len,args:=#[x],argTypes:=#[T] },ty,pos,af,gd⟩::rest) st:=I1 (KA T x hx (zd zz)) (zo zz) (zw zz) h
theorem yC [HasBody P f] (hc:PCalls P f ys r) (ha:Bj st l=some ys) (hr:DT r=true) (h:YR P sq ops K rest (st.put d r)) (zz:zk ops st ⟨d,.call { callee:=.value (.func f),args:=l.toArray,argTypes:=ts },ty,pos,af,gd⟩ .no=true:=by kernel_rfl):YR P sq ops K (⟨d,.call { callee:=.value (.func f),args:=l.toArray,argTypes:=ts },ty,pos,af,gd⟩::rest) st:=I1 (ls_call f l ts ha hc hr (zd zz)) (zo zz) (zw zz) h
theorem yI {b:Builtin} (hx:X9 st l=some vs) (hr:builtin b ts ty (l.toArray.map fun|.const _=>true|_=>false) vs.toArray=Sem.pure (.value u)) (hu:u.oneCell'=true) (h:YR P sq ops K rest (st.put d (.d (.val u)))) (zz:zk ops st ⟨d,.call { callee:=.builtin b,args:=l.toArray,argTypes:=ts },ty,pos,af,gd⟩ .no=true:=by kernel_rfl):YR P sq ops K (⟨d,.call { callee:=.builtin b,args:=l.toArray,argTypes:=ts },ty,pos,af,gd⟩::rest) st:=I1 (ls_bi b l ts hx hr hu (zd zz)) (zo zz) (zw zz) h
theorem yJ {S D:Nat} {ks k:IntKind} {n:Int} [UndI P S ks] [UndI P D kd] (hx:st.ev x=.d (.val (.int k n))) (h:YR P sq ops K rest (st.put d (.d (.val (.int kd (kd.wrap n)))))) (zz:zk ops st ⟨d,.convert S D x,ty,pos,af,gd⟩ .no=true:=by kernel_rfl):YR P sq ops K (⟨d,.convert S D x,ty,pos,af,gd⟩::rest) st:=I1 (Lp S D x hx (zd zz)) (zo zz) (zw zz) h
theorem yW {k:Nat} {n:Int} {e:List DV} [SliceOf P T E k] (he:es[n.toNat]? = some e) (h0:0<=n) (hx:asSl (st.ev x)=some (k,es)) (hy:st.ev y=.d (.val (.int kd n))) (h:YR P sq ops K rest (st.put d (.rd e))) (zz:zk ops st ⟨d,.indexAddr T x y,ty,pos,af,gd⟩ .no=true:=by kernel_rfl):YR P sq ops K (⟨d,.indexAddr T x y,ty,pos,af,gd⟩::rest) st:=I1 (FW T x y hx hy h0 he (zd zz)) (zo zz) (zw zz) h
theorem yG [BuildOf P T places zs] (hq:Q4 st ps=some qs) (hf:AO (places.toArray[·]?) (zs.map .val) qs=some ys) (h:YR P sq ops K rest (st.put d (.d (.agg ys)))) (zz:zk ops st ⟨d,.build T ps.toArray,ty,pos,af,gd⟩ .no=true:=by kernel_rfl):YR P sq ops K (⟨d,.build T ps.toArray,ty,pos,af,gd⟩::rest) st:=I1 (Lt T ps hq hf (zd zz)) (zo zz) (zw zz) h
theorem yR {k:Nat} [LitOf P T E k zs] (hq:Q4 st ps=some qs) (hf:AO (fun i=>some (i*k,k)) (P1 zs n) qs=some ys) (he:J4 k n ys=es) (hs:Nat.ble (n*k) 16777216=true) (hs':Nat.ble n 16777216=true) (h:YR P sq ops K rest (st.put d (.d (.sl k es)))) (zz:zk ops st ⟨d,.buildSlice T n ps.toArray,ty,pos,af,gd⟩ .no=true:=by kernel_rfl):YR P sq ops K (⟨d,.buildSlice T n ps.toArray,ty,pos,af,gd⟩::rest) st:=I1 (ls_lit T n ps hq hf he hs hs' (zd zz)) (zo zz) (zw zz) h
theorem yK {cs:List SV} (hx:Z9 (st.ev y)=some cs) (hi:st.bget i=none) (h:YR P sq ops K rest ((st.bput i cs).put (some i) (.bx i 0))) (zz:zk ops st ⟨some i,.box T y,ty,pos,af,gd⟩ (.box i cs)=true:=by kernel_rfl):YR P sq ops K (⟨some i,.box T y,ty,pos,af,gd⟩::rest) st:=Bv (ls_box T y hx hi (zd zz)) (zo zz) (zw zz) h
theorem yZ {cs:List SV} [ZeroOf P T zs] (hcs:(zs.map fun z=>SV.d (.val z))=cs) (hi:st.bget i=none) (h:YR P sq ops K rest ((st.bput i cs).put (some i) (.bx i 0))) (zz:zk ops st ⟨some i,.alloc T,ty,pos,af,gd⟩ (.box i cs)=true:=by kernel_rfl):YR P sq ops K (⟨some i,.alloc T,ty,pos,af,gd⟩::rest) st:=by subst hcs;exact Bv (Lu T hi (zd zz)) (zo zz) (zw zz) h
theorem EK {z:Operand} {cs cs':List SV} [AggOf P T false 1] (hz:st.ev z=.bx i off) (hi:st.bget i=some cs) (hy:st.ev y=.d (.val u)) (hcs:cs.set off (.d (.val u))=cs') (h:YR P sq ops K rest ((st.bput i cs').put d .any)) (hle:Nat.blt off cs.length=true:=by kernel_rfl) (zz:zk ops st ⟨d,.store T z y,ty,pos,af,gd⟩ (.box i cs')=true:=by kernel_rfl) (h5:Nat.blt i 500000=true:=by rfl):YR P sq ops K (⟨d,.store T z y,ty,pos,af,gd⟩::rest) st:=by subst hcs;exact Bv (DO (x:=.d (.val u)) (B0 h5) hz hi hy O (B0 hle) (zd zz)) (zo zz) (zw zz) h
theorem ySl {k:Nat} {z:Operand} {cs cs':List SV} [AggOf P T false 1] (hz:st.ev z=.bx i off) (hi:st.bget i=some cs) (hy:st.ev y=.d (.sl k es)) (hcs:cs.set off (.d (.sl k es))=cs') (h:YR P sq ops K rest ((st.bput i cs').put d .any)) (hle:Nat.blt off cs.length=true:=by kernel_rfl) (zz:zk ops st ⟨d,.store T z y,ty,pos,af,gd⟩ (.box i cs')=true:=by kernel_rfl) (h5:Nat.blt i 500000=true:=by rfl):YR P sq ops K (⟨d,.store T z y,ty,pos,af,gd⟩::rest) st:=by subst hcs;exact Bv (DO (x:=.d (.sl k es)) (B0 h5) hz hi hy O (B0 hle) (zd zz)) (zo zz) (zw zz) h
theorem ySt {k:Nat} {z:Operand} {cs cs':List SV} [AggOf P T false 1] (hz:st.ev z=.bx i off) (hi:st.bget i=some cs) (hy:st.ev y=.ts t k es) (hcs:cs.set off (.ts t k es)=cs') (h:YR P sq ops K rest ((st.bput i cs').put d .any)) (hle:Nat.blt off cs.length=true:=by kernel_rfl) (zz:zk ops st ⟨d,.store T z y,ty,pos,af,gd⟩ (.box i cs')=true:=by kernel_rfl) (h5:Nat.blt i 500000=true:=by rfl):YR P sq ops K (⟨d,.store T z y,ty,pos,af,gd⟩::rest) st:=by subst hcs;exact Bv (DO (x:=.ts t k es) (B0 h5) hz hi hy O (B0 hle) (zd zz)) (zo zz) (zw zz) h
theorem yS {k:Nat} {bb:Bool} {z:Operand} {cs xs cs':List SV} [AggOf P T bb k] (hz:st.ev z=.bx i off) (hi:st.bget i=some cs) (hy:Z9 (st.ev y)=some xs) (hcs:AA cs off xs=cs') (hl:xs.length=k) (h:YR P sq ops K rest ((st.bput i cs').put d .any)) (hle:Nat.ble (off+xs.length) cs.length=true:=by kernel_rfl) (zz:zk ops st ⟨d,.store T z y,ty,pos,af,gd⟩ (.box i cs')=true:=by kernel_rfl) (h5:Nat.blt i 500000=true:=by rfl):YR P sq ops K (⟨d,.store T z y,ty,pos,af,gd⟩::rest) st:=by subst hcs;exact Bv (GV T z y (B0 h5) hz hi hy hl (B0 hle) (zd zz)) (zo zz) (zw zz) h
theorem yT {k m:Nat} {es2 es':List (List DV)} [AppOf P T E k bytes] (hb:(es.length+es2.length)*bytes<=140737488351232) (hl:es.length+es2.length<=140737488351232) (hs:st.ev x=.ts t k es) (ht:st.tget t=some n) (hn:n=es.length) (hx:asSl (st.ev y)=some (k,es2)) (hE:t / 100000=E) (he:es++es2=es') (hm:es.length+es2.length=m) (h:YR P sq ops K rest ((st.tput t m).put d (.ts t k es'))) (zz:zk ops st ⟨d,.call { callee:=.builtin .append,args:=#[x,y],argTypes:=#[T,T] },ty,pos,af,gd⟩ (.tok t m)=true:=by kernel_rfl):YR P sq ops K (⟨d,.call { callee:=.builtin .append,args:=#[x,y],argTypes:=#[T,T] },ty,pos,af,gd⟩::rest) st:=by subst he hm;exact yr_t (KG T x y hs ht hn hx hE hb hl (zd zz)) (zo zz) (zw zz) h
theorem yO (hw:st.want ops ⟨d,op,ty,pos,af,some q⟩=some false) (h:YR P sq ops K rest (st.put d (.tup []))) (hd:G3 ⟨d,op,ty,pos,af,some q⟩ st=true:=by kernel_rfl):YR P sq ops K (⟨d,op,ty,pos,af,some q⟩::rest) st:=.skip hd hw h
theorem yQ (h:K st):YR P sq ops K [] st:=.nil h
def Ay:List DV->Option (List Value)
 | []=>some []
 | .val v::l=>(Ay l).map (v :: ·)
 | _=>none
theorem DRep.vals {cs:List DV} (h:DRep F w v (.agg cs)) (hv:Ay cs=some vs):v=.agg vs.toArray:=by
 generalize e:DV.agg cs=x at h
 cases h with
 | val=>cases e
 | sl=>cases e
 | ref=>cases e
 | abs=>cases e
 | mp=>cases e
 | @agg xs cs' hl h1 h2=>
  cases e
  have:xs=vs:=by
   clear h1
   induction cs generalizing xs vs with
   | nil=>cases hv;exact List.length_eq_zero_iff.1 hl
   | cons c cs ih=>
    match xs,hl with
    | x::xs,hl=>
     cases c with
     | val u=>
      simp only[Ay,B7]at hv
      obtain⟨vs',h3,rfl⟩:=hv
      have e1:=DRep.val_eq (h2 0 x _ rfl rfl)
      have e2:xs=vs':=ih h3 (by simpa using hl) (fun i x c hx hc=>h2 (i+1) x c (by simpa using hx) (by simpa using hc))
      rw[e1,e2]
     | agg=>cases hv
     | mp=>cases hv
     | sl=>cases hv
     | ref=>cases hv
     | abs=>cases hv
  rw[this]
theorem yBA {op:BinOp} {t':Nat} {cs:List DV} {us:List Value} (hr:∀ w,(eqGuard op t x y (.agg vs.toArray) (.agg us.toArray) >>= fun _=>binOp op t (.agg vs.toArray) (.agg us.toArray)).run P w=.ok u w) (hu:u.oneCell'=true) (hx:st.ev x=.d (.agg cs)) (hcx:Ay cs=some vs) (hy:st.ev y=.d (.agg ds)) (hcy:Ay ds=some us)
 (h:YR P sq ops K rest (st.put d (.d (.val u)))) (zz:zk ops st ⟨d,.binOp op t x y t',ty,pos,af,gd⟩ .no=true:=by kernel_rfl):YR P sq ops K (⟨d,.binOp op t x y t',ty,pos,af,gd⟩::rest) st:=
 I1 (fun st2 ha=>OpS.value (ha.dst (zd zz)) fun _ _ _ a w h=>by
  have h1:=h.eval x
  rw[ha.ev x (by simp[Op.operands]),hx]at h1
  have h2:=h.eval y
  rw[ha.ev y (by simp[Op.operands]),hy]at h2
  refine⟨u,w,?_,Below.refl _ _,DRep.val u hu⟩
  have:=hr w
  simp only[execOp,DRep.vals h1 hcx,DRep.vals h2 hcy,Sem.run_bind,Sem.run_pure]at this ⊢
  cases h3:Sem.run P (eqGuard op t x y (.agg vs.toArray) (.agg us.toArray)) w with
  | ok q w1=>
   rw[h3]at this
   simp only[C1]at this ⊢
   rw[this]
   rfl
  | halt q w1=>rw[h3]at this;simp[Result.andThen]at this) (zo zz) (zw zz) h
end
theorem DRep.part {c k:Nat} (h:DRep F w (.slice A n c) (.sl k es)) (l u:Nat) (h1:l<=u) (h2:u<=n):
 DRep F w (.slice (if c=l then A else A.map (·.add (l*k))) (u-l) (c-l)) (.sl k ((es.drop l).take (u-l))):=by
 cases h with
 | @sl _ _ _ _ _ f hn hc hm hk ha h1' h=>
  refine .sl (fun i j=>f (l+i) j) (by simp;omega) (by omega) (by omega) (fun e he=>hk e (List.mem_of_mem_drop (List.mem_of_mem_take he))) (fun h0=>?_) (fun i j hi hj=>h1' _ j (by omega) hj) fun i j e x he hx=>?_
  . obtain⟨b,off,rfl,hcell⟩:=ha (by omega)
    refine⟨b,off+l*k,?_,fun i j hi hj=>?_⟩
    . rw[B8 (by omega),Option.map_some,Addr.add_lit]
    . have:=hcell (l+i) j (by omega) hj
      rw[show off+(l+i)*k+j=off+l*k+i*k+j by rw[Nat.add_mul];omega]at this
      exact this
  . have hi:i<u-l:=by
     rcases G0 i (u-l)with h3|h3
     . exact h3
     . rw[E9 (by simp;omega)]at he;cases he
    rw[C7 hi,List.getElem?_drop]at he
    exact h _ j e x he hx
section
variable {sq:Bool} {ops:Array Oper} {rest:List Oper} {d:Option Nat} {op:Op} {ty:TypeId} {pos:String} {af:Array Edge} {gd:Option (Nat×Bool)} {q:Nat×Bool}
theorem GW (T:TypeId) (x y:Operand) {k:Nat} {n:Int} [hS:SliceOf P T E k] (hx:asSl (st.ev x)=some (k,es)) (hy:st.ev y=.d (.val (.int kd n))) (h0:0<=n) (he:n<=es.length) (hd:G3 ⟨d,.slice T x none (some y) none,ty,pos,af,gd⟩ st=true):
 I7 P ⟨d,.slice T x none (some y) none,ty,pos,af,gd⟩ st (.d (.sl k (es.take n.toNat))) .no:=fun st2 ha=>
 OpS.value (ha.dst hd) fun _ _ g a w h=>by
  have h1:=h.eval x
  rw[ha.ev x (by simp[Op.operands])]at h1
  have h1:=h1.asSl hx
  obtain⟨A,c,news,hv,hc,hm,-⟩:=DRep.row h1
  have h2:=h.eval y
  rw[ha.ev y (by simp[Op.operands]),hy]at h2
  rw[hv]at h1
  have hp:=h1.part 0 n.toNat (by omega) (by omega)
  rw[List.drop_zero,Nat.sub_zero]at hp
  refine⟨_,w,?_,Below.refl _ _,hp⟩
  have hn:0<=n∧n<=(c:Int):=⟨h0,by omega⟩
  simp only[execOp,Instr.sliceAt,Instr.slice,Instr.sliceBounds,Instr.sliceBound,hv,DRep.val_eq h2,asIntOf,Sem.run_bind,Sem.run_pure,C1,hS.und,hn,and_self,if_true,hS.size,Option.map_some,Option.map_none,Nat.sub_zero]
theorem yDh {k:Nat} {n:Int} [SliceOf P T E k] (h0:0<=n) (he:n<=es.length) (hx:asSl (st.ev x)=some (k,es)) (hy:st.ev y=.d (.val (.int kd n))) (h:YR P sq ops K rest (st.put d (.d (.sl k (es.take n.toNat))))) (zz:zk ops st ⟨d,.slice T x none (some y) none,ty,pos,af,gd⟩ .no=true:=by kernel_rfl):YR P sq ops K (⟨d,.slice T x none (some y) none,ty,pos,af,gd⟩::rest) st:=I1 (GW T x y hx hy h0 he (zd zz)) (zo zz) (zw zz) h
end
def Beh (P:Program) (φ:List DV->SV->Prop) (F:Nat->Nat->Prop) (w:World) (v:Value):Prop:=
 ∃ f,∃ caps:List Value,v=.func (.func f) #[] caps.toArray∧(∀ w args,(callFunc f args).run P w=.ok (.enter f args) w) ∧
  ∀ F' w',Kp F w F' w'->∀ xs r (vals:List Value),φ xs r->vals.length=xs.length->(∀ (i:Nat) v x,vals[i]? = some v->xs[i]? = some x->DRep F' w' v x)->GlobOk F' w' →
   Calls P f (vals++caps).toArray w' fun e w''=>∃ v,e=.returned v∧SRep (gF fun b o=>F' b o∨w'.heap.size<=b) w'' v r∧Below w'.heap.size w' w''
theorem Beh.mono (F F':Nat->Nat->Prop) (w w':World) (v:Value) (h:Beh P φ F w v) (hk:Kp F w F' w'):Beh P φ F' w' v:=by
 obtain⟨f,caps,h1,h2,h3⟩:=h
 exact⟨f,caps,h1,h2,fun F'' w'' hk'=>h3 F'' w'' (Kp.trans hk hk')⟩
abbrev dF (P:Program) (φ:List DV->SV->Prop):DV:=.abs (Beh P φ)
theorem DRep.beh (h:DRep F w v (dF P φ)):Beh P φ F w v:=by
 generalize e:dF P φ=x at h
 cases h with
 | abs hR h1 h=>cases e;exact h
 | _=>cases e
theorem DRep.of_beh (h:Beh P φ F w v):DRep F w v (dF P φ):=
 .abs Beh.mono (by obtain⟨f,caps,rfl,-⟩:=h;rfl) h
section
variable {sq:Bool} {ops:Array Oper} {rest:List Oper} {d:Option Nat} {op:Op} {ty:TypeId} {pos:String} {af:Array Edge} {gd:Option (Nat×Bool)} {q:Nat×Bool}
theorem Lq (x:Operand) (l:List Operand) (ts:Array TypeId) (hx:st.ev x=.d (dF P φ)) (hargs:Bj st l=some ys) (hc:φ ys r) (hres:DT r=true) (hd:G3 ⟨d,.call { callee:=.value x,args:=l.toArray,argTypes:=ts },ty,pos,af,gd⟩ st=true):
 I7 P ⟨d,.call { callee:=.value x,args:=l.toArray,argTypes:=ts },ty,pos,af,gd⟩ st r .no:=fun st2 ha=>by
 intro B w0 g a w K Q hr hK
 have hev:Bj st2 l=some ys:=by rw[Dn fun x hx=>ha.ev x (by simp[Op.operands,Call.operands,hx])];exact hargs
 obtain⟨h1,h2⟩:=Bi hev
 have hxe:=hr.eval x
 rw[ha.ev x (by simp[Op.operands,Call.operands]),hx]at hxe
 obtain⟨f,caps,hv,hB,hb⟩:=DRep.beh hxe
 have M3:=hb (Fx g) w (fun b o h _=>⟨h,rfl⟩) ys r (l.map a.eval) hc (by simpa using h1) (fun i v x hv hx=>by
  rw[B5,B7]at hv
  obtain⟨y,h3,rfl⟩:=hv
  exact(hr.eval y).toD (h2 i y x h3 hx)) hr.gok
 have hrun:(execOp a.eval ⟨d,.call { callee:=.value x,args:=l.toArray,argTypes:=ts },ty,pos,af,gd⟩).run P w=.ok (.enter f (l.map a.eval++caps).toArray) w:=by
  simp only[execOp,resolve,hv,Deferred.ofValue,Sem.run_bind,Sem.run_pure,C1,invoke]
  rw[hB]
  simp
 unfold Oper.wp
 rw[hrun]
 show Calls P f _ w _
 refine M3.mono ?_
 rintro e w' ⟨v,rfl,h3,h4⟩
 exact hK g _ _ ((hr.grow h4).put (SRep.of_call hr h3 hres) _ (F5 (ha.dst hd)))
/-! making a function value -/
def AL (st:PS):List Operand->Option (List Nat)
 | []=>some []
 | x::l=>match st.ev x,AL st l with
  | .bx i 0,some is=>some (i::is)
  | _,_=>none
theorem IP {is:List Nat} (h:AL st l=some is) {ρ:Operand->Value} (hρ:∀ x∈l,SRep g w (ρ x) (st.ev x)):
 ∃ bs:List Nat,l.map ρ=bs.map (fun b=>Value.pointer (some ⟨b,0,none⟩))∧bs.length=is.length ∧ ∀ (i:Nat) b c,bs[i]? = some b->is[i]? = some c->g.bl c=some b:=by
 induction l generalizing is with
 | nil=>cases h;exact⟨[],O,O,fun i b c hb=>by simp at hb⟩
 | cons x l ih=>
  simp only[AL]at h
  split at h
  . rename_i i is' h1 h2
    cases h
    obtain⟨bs,h3,h4,h5⟩:=ih h2 fun y hy=>hρ y (by simp[hy])
    have h6:=hρ x (by simp)
    rw[h1]at h6
    obtain⟨b,h7,h8⟩:=h6
    refine⟨b::bs,by simp[h3,h8],by simp[h4],fun j b' c hb hc=>?_⟩
    cases j with
    | zero=>simp at hb hc;subst hb hc;exact h7
    | succ j=>exact h5 j b' c (by simpa using hb) (by simpa using hc)
  . cases h
theorem Fo (h:∀ x∈l,st2.ev x=st.ev x):AL st2 l=AL st l:=by
 induction l with
 | nil=>rfl
 | cons x l ih=>simp only[AL];rw[h x (by simp),ih fun y hy=>h y (by simp[hy])]
theorem GX (f:FuncId) (l:List Operand) (h:AL st l=some caps) (hd:G3 ⟨d,.makeFunc (.func f) #[] l.toArray,ty,pos,af,gd⟩ st=true):
 I7 P ⟨d,.makeFunc (.func f) #[] l.toArray,ty,pos,af,gd⟩ st (.fn f caps) .no:=fun st2 ha=>
 OpS.value (ha.dst hd) fun _ _ g a w hr=>by
  have h2:AL st2 l=some caps:=by rw[Fo fun x hx=>ha.ev x (by simp[Op.operands,hx])];exact h
  obtain⟨bs,h3,h4,h5⟩:=IP h2 (ρ:=a.eval) fun x _=>hr.eval x
  refine⟨.func (.func f) #[] (l.map a.eval).toArray,w,?_,Below.refl _ _,bs,by rw[h3],h4,h5⟩
  simp[execOp,Instr.makeFunc]
/-! a call that is given function values over boxes of one's own -/
def Ds (st:PS):List Nat->Option (List (List DV))
 | []=>some []
 | c::l=>match (bif Nat.blt c 500000 then (st.bget c).bind P5 else none),Ds st l with
  | some x,some xs=>some (x::xs)
  | _,_=>none
inductive ArgF (P:Program) (st:PS):List Operand->List DV->Prop
 | nil:ArgF P st [] []
 | d {x:Operand} {y:DV} {l:List Operand} {ys:List DV} (h:toD (st.ev x)=some y) (hl:ArgF P st l ys):ArgF P st (x::l) (y::ys)
 | fn {x:Operand} {f:FuncId} {caps:List Nat} {css:List (List DV)} {φ:List DV->SV->Prop} {l:List Operand} {ys:List DV} (hB:HasBody P f) (h:st.ev x=.fn f caps) (hcs:Ds st caps=some css)
  (hc:∀ xs r,φ xs r->PCalls P f (xs++css.map .ref) r) (hl:ArgF P st l ys):ArgF P st (x::l) (dF P φ::ys)
def FM:SV->Bool
 | .d (.val _)=>true
 | .tup xs=>xs.all fun|.val _=>true|_=>false
 | _=>false
theorem KV {l:List Nat} {css:List (List DV)} (h:Ds st l=some css):l.length=css.length ∧ ∀ (j:Nat) c ds,l[j]? = some c->css[j]? = some ds->c<500000 ∧ ∃ cs,st.bget c=some cs∧P5 cs=some ds:=by
 induction l generalizing css with
 | nil=>cases h;exact⟨rfl,fun j c ds hj=>by simp at hj⟩
 | cons c l ih=>
  simp only[Ds]at h
  split at h
  . rename_i x xs h1 h2
    cases h
    obtain⟨h3,h4⟩:=ih h2
    refine⟨by simp[h3],fun j c' ds hc hd=>?_⟩
    cases j with
    | zero=>
     simp at hc hd
     subst hc hd
     cases hb:Nat.blt c 500000 with
     | false=>rw[hb]at h1;cases h1
     | true=>
      rw[hb,cond_true]at h1
      obtain⟨cs,h5,h6⟩:=Option.bind_eq_some_iff.1 h1
      exact⟨B0 hb,cs,h5,h6⟩
    | succ j=>exact h4 j c' ds (by simpa using hc) (by simpa using hd)
  . cases h
theorem HD {l:List Nat} (h:∀ c∈l,st2.bget c=st.bget c):Ds st2 l=Ds st l:=by
 induction l with
 | nil=>rfl
 | cons x l ih=>simp only[Ds];rw[h x (by simp),ih fun y hy=>h y (by simp[hy])]
theorem ArgF.congr (h:ArgF P st l ys) (h1:∀ x∈l,st2.ev x=st.ev x) (h2:∀ x∈l,∀ f caps,st.ev x=.fn f caps->∀ c∈caps,st2.bget c=st.bget c):ArgF P st2 l ys:=by
 induction h with
 | nil=>exact .nil
 | @d x y l ys h _ ih=>exact .d (by rw[h1 x (by simp)];exact h) (ih (fun x hx=>h1 x (by simp[hx])) fun x hx=>h2 x (by simp[hx]))
 | @fn x f caps css φ l ys hB h hcs hc _ ih=>
  exact .fn hB (by rw[h1 x (by simp)];exact h) (by rw[HD (h2 x (by simp) f caps h)];exact hcs) hc (ih (fun x hx=>h1 x (by simp[hx])) fun x hx=>h2 x (by simp[hx]))
def FxB (g:Gh) (b o:Nat):Prop:=Fx g b o ∨ ∃ i,g.bl i=some b
theorem ref_box {c b:Nat} {cs:List SV} (hr:Rep B w0 g st a w) (hlt:c<500000) (hc:st.bget c=some cs) (hd:P5 cs=some ds) (hb:g.bl c=some b):DRep (FxB g) w (.pointer (some ⟨b,0,none⟩)) (.ref ds):=by
 obtain⟨b',xs,T,h1,h2,h3,h4,h5⟩:=hr.boxes c cs hc hlt
 rw[hb]at h1
 cases h1
 obtain⟨h6,h7⟩:=R0 hd
 refine .ref (fun j=>(xs[j]?).getD undef) (fun j hj=>?_) (fun j x hx=>?_)
 . have hlt:j<xs.size:=by omega
   refine⟨?_,.inr ⟨c,hb⟩,?_⟩
   . simp[World.cell?,h2,hlt]
   . simp only[Array.getElem?_eq_getElem hlt,Option.getD_some];exact h5 j _ (by omega) (Array.getElem?_eq_getElem hlt)
 . obtain⟨y,h8,h9⟩:=h7 j x hx
   obtain⟨u,h10,h11⟩:=h4 j y h8
   simp only[h10,Option.getD_some]
   exact(h11.toD h9).mono (Kp.same fun b o hf=>.inl hf)
theorem MX (hr:Rep B w0 g st a w) (h:ArgF P st l ys):
 l.length=ys.length ∧ ∀ (i:Nat) v x,(l.map a.eval)[i]? = some v->ys[i]? = some x->DRep (FxB g) w v x:=by
 induction h with
 | nil=>exact⟨rfl,fun i v x hv=>by simp at hv⟩
 | @d x y l ys h _ ih=>
  refine⟨by simp[ih.1],fun i v z hv hz=>?_⟩
  cases i with
  | zero=>simp at hv hz;subst hv hz;exact((hr.eval x).toD h).mono fun b o hf _=>⟨.inl hf,O⟩
  | succ i=>exact ih.2 i v z (by simpa using hv) (by simpa using hz)
 | @fn x f caps css φ l ys hB h hcs hc _ ih=>
  refine⟨by simp[ih.1],fun i v z hv hz=>?_⟩
  cases i with
  | zero=>
   simp at hv hz
   subst hv hz
   have hx:=hr.eval x
   rw[h]at hx
   obtain⟨bs,h1,h2,h3⟩:=hx
   obtain⟨h4,h5⟩:=KV hcs
   refine DRep.of_beh ⟨f,bs.map fun b=>Value.pointer (some ⟨b,0,none⟩),h1,hB.run,fun F' w' hk xs r vals hφ hl hv hgo=>?_⟩
   refine hc xs r hφ F' w' (vals++bs.map fun b=>Value.pointer (some ⟨b,0,none⟩)) (by simp[hl,h2,h4]) (fun j u y hu hy=>?_) hgo
   by_cases hj:j<xs.length
   . rw[E4 (by omega)]at hu hy
     exact hv j u y hu hy
   . rw[E6 (by omega)]at hu hy
     rw[hl]at hu
     rw[B5,B7]at hu hy
     obtain⟨b,h6,rfl⟩:=hu
     obtain⟨ds,h7,rfl⟩:=hy
     have hlt:j-xs.length<caps.length:=by rw[h4];exact(A6.1 h7).1
     obtain⟨h8a,cs,h8,h9⟩:=h5 _ _ ds (A4 hlt) h7
     exact(ref_box hr h8a h8 h9 (h3 _ b _ h6 (A4 hlt))).mono hk
  | succ i=>exact ih.2 i v z (by simpa using hv) (by simpa using hz)
theorem DRep.val_any {F':Nat->Nat->Prop} (h:DRep F w v (.val u)):DRep F' w' v (.val u):=by
 generalize e:DV.val u=x at h
 cases h with
 | val _ hv=>cases e;exact .val _ hv
 | _=>cases e
theorem SRep.plain (h:SRep g w v r) (hp:FM r=true):SRep g' w v r:=by
 cases r with
 | d x=>cases x<;>first|exact DRep.val_any h|cases hp
 | tup xs=>
  obtain⟨vs,h1,h2,h3⟩:=h
  refine⟨vs,h1,h2,fun i y x hy hx=>?_⟩
  have h4:=h3 i y x hy hx
  have h5:=E7.1 hp x (B2 hx)
  cases x<;>first|exact DRep.val_any h4|cases h5
 | _=>cases hp
theorem Lr (f:FuncId) (l:List Operand) (ts:Array TypeId) [hB:HasBody P f] (hargs:ArgF P st l ys) (hc:PCalls P f ys r) (hres:FM r=true) (hd:G3 ⟨d,.call { callee:=.value (.func f),args:=l.toArray,argTypes:=ts },ty,pos,af,gd⟩ st=true):
 I7 P ⟨d,.call { callee:=.value (.func f),args:=l.toArray,argTypes:=ts },ty,pos,af,gd⟩ st r .no:=fun st2 ha=>by
 intro B w0 g a w K Q hr hK
 have hev:ArgF P st2 l ys:=hargs.congr (fun x hx=>ha.ev x (by simp[Op.operands,Call.operands,hx])) fun x hx f' caps h=>ha.fn rfl x (by simp[Op.operands,Call.operands,hx]) f' caps h
 obtain⟨h1,h2⟩:=MX hr hev
 have M3:=hc (FxB g) w (l.map a.eval) (by simpa using h1) h2 (hr.gok.mono (Kp.same fun b o hf=>.inl hf))
 have hrun:(execOp a.eval ⟨d,.call { callee:=.value (.func f),args:=l.toArray,argTypes:=ts },ty,pos,af,gd⟩).run P w=.ok (.enter f (l.map a.eval).toArray) w:=by
  simp only[execOp,resolve,Act.eval,Deferred.ofValue,Sem.run_bind,Sem.run_pure,C1,invoke]
  rw[hB.run]
  simp
 unfold Oper.wp
 rw[hrun]
 show Calls P f _ w _
 refine M3.mono ?_
 rintro e w' ⟨v,rfl,h3,h4⟩
 exact hK g _ _ ((hr.grow h4).put (h3.plain hres) _ (F5 (ha.dst hd)))
theorem LX (s:Nat) {cs:List DV} (hs:st.get s=.d (.ref cs)) (h:PW P B w0 c Q (st.put (some s) (.rd cs))):PW P B w0 c Q st:=fun g a w hr=>
 h g a w { hr with lim:=hr.lim,size:=hr.size,boxes:=hr.boxes,maps:=hr.maps,dom:=hr.dom,tdom:=hr.tdom,tlen:=hr.tlen,glob:=hr.glob,slots:=(fun i=>by
  have h1:=hr.slots i
  by_cases e:i=s
  . subst e
    rw[hs]at h1
    rw[O5,C2 rfl]
    exact SRep.le h1 (.ref cs)
  . rw[O5,B8 e];exact h1) }
theorem KZ (hc:φ ys r) (hx:st.ev x=.d (dF P φ)) (ha:Bj st l=some ys) (hr:DT r=true) (h:YR P sq ops K rest (st.put d r)) (zz:zk ops st ⟨d,.call { callee:=.value x,args:=l.toArray,argTypes:=ts },ty,pos,af,gd⟩ .no=true:=by kernel_rfl):YR P sq ops K (⟨d,.call { callee:=.value x,args:=l.toArray,argTypes:=ts },ty,pos,af,gd⟩::rest) st:=I1 (Lq x l ts hx ha hc hr (zd zz)) (zo zz) (zw zz) h
theorem yCm (hx:AL st l=some caps) (h:YR P sq ops K rest (st.put d (.fn f caps))) (zz:zk ops st ⟨d,.makeFunc (.func f) #[] l.toArray,ty,pos,af,gd⟩ .no=true:=by kernel_rfl):YR P sq ops K (⟨d,.makeFunc (.func f) #[] l.toArray,ty,pos,af,gd⟩::rest) st:=I1 (GX f l hx (zd zz)) (zo zz) (zw zz) h
theorem yCf [HasBody P f] (hc:PCalls P f ys r) (ha:ArgF P st l ys) (hr:FM r=true) (h:YR P sq ops K rest (st.put d r)) (zz:zk ops st ⟨d,.call { callee:=.value (.func f),args:=l.toArray,argTypes:=ts },ty,pos,af,gd⟩ .no=true:=by kernel_rfl):YR P sq ops K (⟨d,.call { callee:=.value (.func f),args:=l.toArray,argTypes:=ts },ty,pos,af,gd⟩::rest) st:=I1 (Lr f l ts ha hc hr (zd zz)) (zo zz) (zw zz) h
end
def OwnF (F:Nat->Nat->Prop) (N k:Nat) (v:Value) (b o:Nat):Prop:=(F b o∨N<=b) ∧ ∀ n c,v=.slice (some ⟨b,0,none⟩) n c->o<n*k
def Ia (P:Program) (f:FuncId) (args:List DV) (E k:Nat) (es:List (List DV)):Prop:=
 ∀ (F:Nat->Nat->Prop) (w:World) (vals:List Value),vals.length=args.length->(∀ (i:Nat) v x,vals[i]? = some v->args[i]? = some x->DRep F w v x)->GlobOk F w →
  Calls P f vals.toArray w fun e w'=>∃ v xs,e=.returned v∧w'.ownsRow w.heap.size E k v es.length xs∧(∀ u∈xs,u.oneCell'=true)∧DRep (OwnF F w.heap.size k v) w' v (.sl k es)∧Below w.heap.size w w'
theorem Rep.entry {vals:List Value} {args:List DV} {m:Nat} (hn:m=n) (hl:args.length<=n) (hlim:n<=10000) (hvl:vals.length=args.length) (hv:∀ (i:Nat) v x,vals[i]? = some v->args[i]? = some x->DRep F w v x) (hgo:GlobOk F w):
 Rep w.heap.size ⟨w,gF fun b o=>F b o∨w.heap.size<=b,none,w.heap.size,D6 _⟩ (gF fun b o=>F b o∨w.heap.size<=b) ⟨n,CU 0 args,[],[]⟩ { tmps:=vals.toArray++Array.replicate (m-vals.toArray.size) undef,defers:=[] } w:=by
 subst hn
 refine { evo:=Evo.refl _ _,base:=D6 _,f0:=fun b o h=>.inr h,lim:=hlim,size:=by simp;omega,defers:=Dfr.nil _ _ _,slots:=fun i=>?_,boxes:=fun i cs hi=>(by cases hi),maps:=fun i ms hi=>(by cases hi),blk:=fun i b hi=>(by cases hi),dom:=fun i b hi=>(by cases hi),inj:=fun i j b hi=>(by cases hi),toks:=fun t T hT=>(by cases hT),tf0:=fun t T b o hT=>(by cases hT),telt:=fun t T hT=>(by cases hT),tdis:=fun t t' T T' b h1=>(by cases h1),tdom:=fun t T hT=>(by cases hT),tlen:=fun t n ht=>(by cases ht),glob:=hgo.rep (Kp.same fun b o hF=>Fx.gF (.inl hF)),gown:=hgo.own,ghp:=fun q cs hq=>(hgo q cs hq).2 }
 unfold PS.get
 simp only[CW,D4,if_true,Nat.sub_zero]
 cases hx:args[i]? with
 | none=>trivial
 | some x=>
  have hlt:i<vals.length:=by rw[hvl];exact(A6.1 hx).1
  have h1:=hv i _ x (A4 hlt) hx
  have h2:(vals.toArray++Array.replicate (m-vals.toArray.size) undef).getD i undef=vals[i]:=by
   simp[Array.getD,hlt]
   omega
  simp only[Option.map_some]
  show DRep _ w _ x
  rw[h2]
  exact h1.mono (Kp.same fun b o hF=>Fx.gF (.inl hF))
def QOwn (s t k:Nat) (es:List (List DV)):Exit->PS->Prop
 | .normal,st|.ret,st=>st.get s=.ts t k es∧st.tget t=some es.length
 | _,_=>False
theorem LT {s k:Nat} (h:st.get s=.ts t k es) (h':st.tget t=some es.length):QOwn s t k es .ret st:=⟨h,h'⟩
theorem GO {fn:Func} {s:Nat} (hrs:fn.results = #[.tmp s]) (tmps:Array Value) (w':World):(results fn tmps).run P w'=.ok (tmps.getD s undef) w':=by
 rw[show results fn tmps=(fn.results.mapM (Dy tmps) >>= fun vs=>pure (if h:vs.size=1 then vs[0]else .tuple vs))from rfl,hrs,Array.mapM_eq_mapM_toList]
 simp only[Sem.run_bind,Sem.run_map]
 rfl
theorem row_one {k N:Nat} (h:DRep F w v (.sl k es)) (ho:w.ownsRow N E k v es.length xs):∀ u∈xs,u.oneCell'=true:=by
 rcases ho.2 with⟨rfl,h0⟩|⟨gb,cap,cur,rfl,-,hg,hc,-,hsz,ht⟩
 . have:=ho.1
   rw[h0,Nat.zero_mul]at this
   rw[List.eq_nil_of_length_eq_zero this]
   simp
 . obtain⟨A,c,news,hv,-,-,-,hl,hcell,hone,-⟩:=DRep.row h
   intro u hu
   obtain⟨j,hj,rfl⟩:=List.mem_iff_getElem.1 hu
   have hxl:=ho.1
   have h0:0<es.length:=by
    rcases F7 es.length with h0|h0
    . rw[h0,Nat.zero_mul]at hxl;omega
    . exact h0
   obtain⟨b,off,q3,q4⟩:=hcell h0
   obtain⟨u',hu'⟩:∃ u',news[j]? = some u':=⟨_,A4 (by omega)⟩
   have q5:=(q4 j u' hu').1
   rw[q3]at hv
   obtain⟨hv1,-,-⟩:=Value.slice.inj hv
   cases hv1
   have q6:=T9 ho (b:=gb) rfl j _ (A4 hj)
   rw[D0,q6]at q5
   rw[G4 q5]
   exact hone u' (B2 hu')
theorem BC {f:FuncId} {fn:Func} {s k:Nat} {args:List DV} (hf:P.funcs[f]? = some fn) (hb:fn.body=some c) (hn:fn.ntmps=n) (hrs:fn.results = #[.tmp s]) (hl:args.length<=n) (hE:t / 100000=E)
 (h:∀ B w0,PW P B w0 c (QOwn s t k es) ⟨n,CU 0 args,[],[]⟩) (hlim:Nat.ble n 10000=true:=by rfl):Ia P f args E k es:=by
 intro F w vals hvl hv hgo
 refine T4 hf hb ?_
 have hrep:=Rep.entry (F:=F) (w:=w) (vals:=vals) (args:=args) hn hl (B0 hlim) hvl hv hgo
 refine wpIn_mono (h w.heap.size _ _ _ _ hrep) fun e a' w' ⟨g,st,h1,h2⟩=>?_
 have fin:(st.get s=.ts t k es∧st.tget t=some es.length)->LeavesInM Fence.wide 0 P fn a'.tmps (fun e w'=>∃ v' xs,e=.returned v'∧w'.ownsRow w.heap.size E k v' es.length xs∧(∀ u∈xs,u.oneCell'=true)∧DRep (OwnF F w.heap.size k v') w' v' (.sl k es)∧Below w.heap.size w w') a'.defers .returning w':=by
  rintro⟨h3,h4⟩
  refine X7 (st:=st) (D6 _) (fun w' h1=>?_) a'.defers w' h1
  obtain⟨T,A,cc,h5,h6⟩:=h1.tlen t _ h4
  have h7:=h1.slots s
  rw[h3]at h7
  obtain⟨h8,h9⟩:=h7
  obtain⟨hk,h10⟩:=h9 T h5
  have hv':=(h10 A _ cc h6).2 rfl
  obtain⟨⟨n',xs,h11⟩,-⟩:=h1.toks t T h5
  have hT:=h1.telt t T h5
  have hn':n'=es.length:=by
   obtain⟨A2,c2,q1,-,-⟩:=O0 h11
   rw[h6]at q1;cases q1;rfl
  subst hn'
  have hown:w'.ownsRow w.heap.size E k (a'.tmps.getD s undef) es.length xs:=by
   rw[hv',<-hk,<-hE,<-hT]
   refine⟨h11.1,?_⟩
   rcases h11.2 with q|⟨gb,cap,cur,q1,-,q2⟩
   . exact .inl q
   . refine .inr ⟨gb,cap,cur,q1,?_,q2⟩
     rcases h1.evo.tb t T gb h5 (by rw[q1];rfl)with q3|⟨i,q3⟩|⟨t',T',q3,-⟩
     . exact q3
     . cases q3
     . cases q3
  refine⟨_,GO hrs _ _,_,xs,O,hown,row_one h8 hown,h8.mono (Kp.same fun b o hf=>⟨by have:=hf.1;rw[h1.evo.f0]at this;exact this,fun n c hvc=>?_⟩),h1.evo.below⟩
  rw[<-hk];exact hf.2.2 t T n c h5 (hv' ▸ hvc)
 cases e with
 | normal=>exact fin h2
 | ret=>exact fin h2
 | _=>exact h2.elim
section
variable {ops:Array Oper} {rest:List Oper} {ty:TypeId} {pos:String} {af:Array Edge} {gd:Option (Nat×Bool)}
theorem Y1 {d:Option Nat} {f:FuncId} [hB:HasBody P f]:(execOp a.eval ⟨d,.call { callee:=.value (.func f),args:=l.toArray,argTypes:=ts },ty,pos,af,gd⟩).run P w=.ok (.enter f (l.map a.eval).toArray) w:=by
 simp only[execOp,resolve,Act.eval,Deferred.ofValue,Sem.run_bind,Sem.run_pure,C1,invoke]
 rw[hB.run]
 simp
theorem own_kp (hr:Rep B w0 g st a w) {k:Nat} (_:w'.ownsRow w.heap.size E k v n xs):Kp (OwnF (Fx g) w.heap.size k v) w' (Fx (g.sett t ⟨v,E,k⟩)) w':=by
 refine Kp.same fun b o ⟨hf,hv⟩=>?_
 have base:Fx g b o:=by
  rcases hf with hf|hf
  . exact hf
  . refine⟨hr.f0 b o (E3 hr.base hf),fun i hi=>?_,fun t' T' n' c' q3 q4=>?_⟩
    . have:=(hr.blk i b hi).2;omega
    . obtain⟨⟨n'',ys,q5⟩,-⟩:=hr.toks t' T' q3
      have:=(q5.lt b (by rw[q4];rfl)).2
      omega
 refine⟨base.1,base.2.1,fun t' T' n' c' q1 q2=>?_⟩
 simp only[Gh.sett]at q1
 by_cases e:t'=t
 . rw[C2 e]at q1;cases q1;exact hv n' c' q2
 . rw[B8 e]at q1;exact base.2.2 t' T' n' c' q1 q2
theorem Lg {k:Nat} (h:w.ownsRow B E k v n xs):w.ownsRow 0 E k v n xs:=by
 refine⟨h.1,?_⟩
 rcases h.2 with q|⟨gb,cap,cur,q1,-,q2⟩
 . exact .inl q
 . exact .inr ⟨gb,cap,cur,q1,D4 _,q2⟩
theorem yCo {k:Nat} [hB:HasBody P f] (hc:Ia P f ys E k es) (ha:Bj st l=some ys) (hE:t / 100000=E) (ht:st.tget t=none) (hno:st.noTs t=true)
 (h:YR P true ops K rest ((st.tput t es.length).put (some e) (.ts t k es))) (hd:G3 ⟨some e,.call { callee:=.value (.func f),args:=l.toArray,argTypes:=ts },ty,pos,af,gd⟩ st=true:=by kernel_rfl)
 (hw:st.want ops ⟨some e,.call { callee:=.value (.func f),args:=l.toArray,argTypes:=ts },ty,pos,af,gd⟩=some true:=by rfl) (hsm:Nat.blt (t % 100000) 10000=true:=by rfl):
 YR P true ops K (⟨some e,.call { callee:=.value (.func f),args:=l.toArray,argTypes:=ts },ty,pos,af,gd⟩::rest) st:=by
 refine .any O fun B w0 Q hQ g a w hr=>?_
 obtain⟨h1,h2⟩:=Bi ha
 have M3:=hc (Fx g) w (l.map a.eval) (by simpa using h1) (fun i v x hv hx=>by
  rw[B5,B7]at hv
  obtain⟨y,h3,rfl⟩:=hv
  exact(hr.eval y).toD (h2 i y x h3 hx)) hr.gok
 unfold wpList
 rw[C2 (H9 hr hw)]
 refine .inl ?_
 unfold Oper.wp
 rw[Y1]
 show Calls P f _ w _
 refine M3.mono ?_
 rintro e' w' ⟨v,xs,rfl,h3,-,h4,h5⟩
 obtain⟨ev,hr'⟩:=hr.newt (t:=t) h5 (fun b hb=>(h3.lt b hb).1) (Lg h3) hE (B0 hsm) ht hno
 exact h.sound hQ (hr'.put (SRep.new_ts (h4.mono (own_kp hr h3))) (some e) fun i hi=>by cases hi;exact F5 (st:=st) hd e O)
end
theorem BR (i off t k:Nat) {cs:List SV} (hi:st.bget i=some cs) (hc:cs[off]? = some (.d (.val (.slice none 0 0)))) (ht:st.tget t=none) (hno:st.noTs t=true) (h:PW P B w0 c Q ((st.bput i (cs.set off (.ts t k []))).tput t 0)) (hsm:Nat.blt (t % 100000) 10000=true:=by rfl) (hlt:Nat.blt i 500000=true:=by rfl):PW P B w0 c Q st:=fun g a w hr=>by
 obtain⟨ev,hr'⟩:=hr.newt (t:=t) (n:=0) (E:=t / 100000) (k:=k) (v:=.slice none 0 0) (xs:=[]) (Below.refl _ _) (fun b hb=>by simp[Value.ownBlock]at hb) (World.ownsRow_nil _ _ _ _) rfl (B0 hsm) ht hno
 have hlt:=B0 hlt
 refine h _ a w { hr' with lim:=hr'.lim,size:=hr'.size,slots:=hr'.slots,boxes:=fun j cs' hj hj5=>?_,maps:=fun j ms hj hge=>?_,dom:=fun j b hj=>?_,tdom:=hr'.tdom,tlen:=hr'.tlen,glob:=hr'.glob }
 . have hj':(st.bput i (cs.set off (.ts t k []))).bget j=some cs':=hj
   rw[I0]at hj'
   by_cases e:j=i
   . rw[C2 e]at hj'
     cases hj'
     subst e
     obtain⟨b,xs,T,h1,h2,h3,h4,h5⟩:=hr'.boxes j cs hi hj5
     refine⟨b,xs,T,h1,h2,by simpa using h3,fun q c hq=>?_,fun q u hq hu=>h5 q u (by simpa using hq) hu⟩
     by_cases eq:q=off
     . subst eq
       rw[List.getElem?_set_self (A6.1 hc).1]at hq
       cases hq
       obtain⟨x,h6,h7⟩:=h4 q _ hc
       have hx:x=.slice none 0 0:=DRep.val_eq h7
       exact⟨x,h6,by rw[hx];exact SRep.new_ts DRep.nil⟩
     . rw[List.getElem?_set_ne (Ne.symm eq)]at hq
       exact h4 q c hq
   . rw[B8 e]at hj'
     exact hr'.boxes j cs' hj' hj5
 . have hj':(st.bput i (cs.set off (.ts t k []))).bget j=some [.mc ms]:=hj
   rw[I0,B8 (by omega)]at hj'
   exact hr'.maps j ms hj' hge
 . show(st.bput i (cs.set off (.ts t k []))).bget j≠none
   rw[I0]
   by_cases e:j=i
   . simp[e]
   . rw[B8 e];exact hr'.dom j b hj
def SV.kill (i:Nat) (x:SV):SV:=bif x.ids.any (Nat.beq i)then .any else x
def PS.kill (i:Nat) (st:PS):PS:=⟨st.n,st.s.map fun p=>(p.1,p.2.kill i),(st.b.filter fun p=>!Nat.beq p.1 i).map fun p=>(p.1,p.2.map (SV.kill i)),st.t⟩
theorem Bd {x:SV} (h:e∈(x.kill i).ids):e∈x.ids∧e≠i:=by
 unfold SV.kill at h
 cases hb:x.ids.any (Nat.beq i) with
 | true=>rw[hb]at h;simp[SV.ids]at h
 | false=>
  rw[hb,cond_false]at h
  refine⟨h,fun e'=>?_⟩
  rw[<-Bool.not_eq_true,List.any_eq_true]at hb
  exact hb ⟨e,h,by rw[e'];exact Nat.beq_refl _⟩
theorem FZ (i:Nat) (x:SV):SVle x (x.kill i):=by
 unfold SV.kill
 cases x.ids.any (Nat.beq i) with
 | true=>exact .any _
 | false=>exact .refl _
theorem HN {β:Type} (f:α->β) (l:List (Nat×α)) (j:Nat):F8 (l.map fun p=>(p.1,f p.2)) j=(F8 l j).map f:=by
 induction l with
 | nil=>rfl
 | cons p l ih=>
  obtain⟨q,x⟩:=p
  rw[List.map_cons,I3,I3,ih]
  by_cases e:j=q<;>simp[e]
theorem Cg (l:List (Nat×α)) (i j:Nat):F8 (l.filter fun p=>!Nat.beq p.1 i) j=if j=i then none else F8 l j:=by
 induction l with
 | nil=>simp[F8]
 | cons p l ih=>
  obtain⟨q,x⟩:=p
  rw[List.filter_cons]
  by_cases e:q=i
  . subst e
    simp only[Nat.beq_refl,Bool.not_true,Bool.false_eq_true,if_false,ih,I3]
    by_cases e':j=q<;>simp[e']
  . have:Nat.beq q i=false:=by rw[<-Bool.not_eq_true];intro h;exact e (E5 h)
    simp only[this,Bool.not_false,if_true,I3,ih]
    by_cases e':j=q
    . subst e';simp[e]
    . simp[e']
theorem De (i:Nat) (st:PS) (j:Nat):(st.kill i).get j=(st.get j).kill i:=by
 unfold PS.get PS.kill
 simp only[HN]
 cases F8 st.s j<;>rfl
theorem O9 (i:Nat) (st:PS) (j:Nat):(st.kill i).bget j=if j=i then none else (st.bget j).map (List.map (SV.kill i)):=by
 unfold PS.bget PS.kill
 simp only[HN,Cg]
 by_cases e:j=i<;>simp[e]
def Gh.delb (g:Gh) (i:Nat):Gh:={ g with bl:=fun j=>if j=i then none else g.bl j }
theorem Gh.delb_bl {b:Nat} (h:(g.delb i).bl j=some b):g.bl j=some b∧j≠i:=by
 simp only[Gh.delb]at h
 split at h
 . cases h
 . rename_i e;exact⟨h,e⟩
theorem FY {cs:List SV} {ms:List (Value×DV)} (h:cs.map (SV.kill i)=[.mc ms]):cs=[.mc ms]:=by
 rw[List.map_eq_singleton_iff]at h
 obtain⟨x,rfl,h⟩:=h
 unfold SV.kill at h
 cases hb:x.ids.any (Nat.beq i) with
 | true=>rw[hb]at h;cases h
 | false=>rw[hb,cond_false]at h;rw[h]
theorem Rep.kill (h:Rep B w0 g st a w) (i:Nat):Evo g w (g.delb i) w∧Rep B w0 (g.delb i) (st.kill i) a w:=by
 have ev:Evo g w (g.delb i) w:=⟨Below.refl _ _,rfl,Kp.same fun _ _ hf=>⟨hf.1,fun j hj=>hf.2.1 j (Gh.delb_bl hj).1,hf.2.2⟩,fun _ _=>rfl,fun _ _ h=>.inl (Gh.delb_bl h).1,fun _ T h=>.inl ⟨T,h,.inl rfl⟩,fun t T _ h h'=>.inr (.inr ⟨t,T,h,h'⟩),fun _ _ _ _ _=>rfl⟩
 have srep:∀ v x,SRep g w v x->SRep (g.delb i) w v (x.kill i):=fun v x hx=>by
  refine(hx.le (FZ i x)).extp ev.fx (fun j hj b hb=>?_) (fun t k es _ T' hT'=>⟨T',hT',.inl O⟩) fun _ _ _ _=>O
  simp only[Gh.delb]
  rw[B8 (Bd hj).2]
  exact hb
 refine⟨ev,{ h with evo:=h.evo.trans ev,defers:=h.defers.evo ev,f0:=h.f0,lim:=h.lim,size:=h.size,slots:=fun j=>by rw[De];exact srep _ _ (h.slots j),glob:=fun q cs hq=>srep _ (.rd cs) (h.glob q cs hq),boxes:=fun j cs hj hlt=>?_,maps:=fun j ms hj hge=>?_,blk:=fun j b hj=>h.blk j b (Gh.delb_bl hj).1,dom:=fun j b hj=>?_,inj:=fun j k b hj hk=>h.inj j k b (Gh.delb_bl hj).1 (Gh.delb_bl hk).1,toks:=fun t T hT=>⟨(h.toks t T hT).1,fun j b hb hj=>(h.toks t T hT).2 j b hb (Gh.delb_bl hj).1⟩,tf0:=h.tf0,telt:=h.telt,tdis:=h.tdis,tdom:=h.tdom,tlen:=h.tlen }⟩
 . rw[O9]at hj
   by_cases e:j=i
   . rw[C2 e]at hj;cases hj
   . rw[B8 e,B7]at hj
     obtain⟨cs0,h1,rfl⟩:=hj
     obtain⟨b,xs,T,h2,h3,h4,h5,h6⟩:=h.boxes j cs0 h1 hlt
     refine⟨b,xs,T,by simp[Gh.delb,e,h2],h3,by simpa using h4,fun q c hq=>?_,fun q u hq hu=>h6 q u (by simpa using hq) hu⟩
     rw[B5,B7]at hq
     obtain⟨c0,h7,rfl⟩:=hq
     obtain⟨x,h8,h9⟩:=h5 q c0 h7
     exact⟨x,h8,srep _ _ h9⟩
 . rw[O9]at hj
   by_cases e:j=i
   . rw[C2 e]at hj;cases hj
   . rw[B8 e,B7]at hj
     obtain⟨cs0,h1,h2⟩:=hj
     have h3:cs0=[.mc ms]:=FY h2
     subst h3
     obtain⟨b,es,c,h4,h5,h6⟩:=h.maps j ms h1 hge
     exact⟨b,es,c,by simp[Gh.delb,e,h4],h5,h6.mono ev.fx⟩
 . obtain⟨h1,h2⟩:=Gh.delb_bl hj
   rw[O9,B8 h2]
   intro h3
   exact h.dom j b h1 (by simpa using h3)
theorem BA (h:Rep B w0 g st a w) {k:Nat} {cs:List SV} (hlt:i<500000) (hi:st.bget i=some cs) (hds:P5 cs=some ds) (hn:ds.length=n*k) (hv:SRep g w v (.bs i n E k)) (hF:∀ b o,g.bl i=some b->F b o) (hK:Kp (Fx g) w F w):DRep F w v (.sl k (J4 k n ds)):=by
 obtain⟨b,c,h1,rfl,h3,h4,h5⟩:=hv
 obtain⟨b',xs,T,h6,h7,h8,h9,h10⟩:=h.boxes i cs hi hlt
 rw[h1]at h6
 cases h6
 obtain⟨h11,h12⟩:=R0 hds
 have hlen:=M4 k n ds
 have:DRep F w (.slice (some ⟨b,0,none⟩) (J4 k n ds).length c) (.sl k (J4 k n ds)):=by
  refine DRep.of_row (xs:=xs.toList.take (n*k)) (by omega) (by unfold maxLen at h4;omega) (Ap k n ds hn) (fun _=>⟨b,0,rfl,fun j u hj=>⟨?_,hF b _ h1⟩⟩) (fun u hu=>?_) fun p q e x he hx=>?_
  rotate_left
  . obtain⟨j,hj⟩:=List.mem_iff_getElem?.1 hu
    have hjlt:j<n*k:=by
     have:=(A6.1 hj).1
     rw[F3]at this
     omega
    rw[C7 hjlt]at hj
    exact h10 j u (by omega) (by simpa using hj)
  rotate_left
  . have hjlt:j<n*k:=by
     have:=(A6.1 hj).1
     rw[F3]at this
     omega
    rw[C7 hjlt]at hj
    rw[D0]
    simp only[World.cell?,h7,Option.isSome_none,Bool.false_eq_true,if_false]
    simpa using hj
  . obtain⟨h13,-⟩:=Z6 k n ds p q e x he hx hn
    obtain⟨y,h14,h15⟩:=h12 _ _ h13
    obtain⟨u,h16,h17⟩:=h9 _ _ h14
    exact⟨u,by rw[C7 (by have:=(A6.1 h13).1;omega)];simpa using h16,(h17.toD h15).mono hK⟩
 rwa [hlen]at this
section
theorem Ag (s i:Nat) {k:Nat} {cs:List SV} (hn:ds.length=n*k) (hes:J4 k n ds=es) (hds:P5 cs=some ds) (hs:st.get s=.bs i n E k) (hi:st.bget i=some cs) (h:PW P B w0 c Q ((st.kill i).put (some s) (.d (.sl k es)))) (hlt:Nat.blt i 500000=true:=by rfl):PW P B w0 c Q st:=fun g a w hr=>by
 obtain⟨ev,hr'⟩:=hr.kill i
 subst hes
 have hv:=hr.slots s
 rw[hs]at hv
 have hd:DRep (Fx (g.delb i)) w (a.tmps.getD s undef) (.sl k (J4 k n ds)):=by
  refine BA hr (B0 hlt) hi hds hn hv (fun b o hb=>⟨(hr.blk i b hb).1 o,fun j hj=>?_,fun t T n' c' hT hTv=>?_⟩) ev.fx
  . obtain⟨h1,h2⟩:=Gh.delb_bl hj
    exact h2 (hr.inj j i b h1 hb)
  . exact F9 hb ((hr.toks t T hT).2 i b (by rw[hTv];rfl))
 refine h _ a w { hr' with lim:=hr'.lim,size:=hr'.size,boxes:=hr'.boxes,maps:=hr'.maps,dom:=hr'.dom,tdom:=hr'.tdom,tlen:=hr'.tlen,glob:=hr'.glob,slots:=fun j=>?_ }
 rw[O5]
 by_cases e:j=s
 . rw[C2 e,e];exact hd
 . rw[B8 e];exact hr'.slots j
end
theorem Jt (h:st.noTs t=true) (i:Nat):(st.get i).noTs t=true:=by
 unfold PS.noTs at h
 rw[C6,E7,E7]at h
 unfold PS.get
 cases e2:F8 st.s i with
 | none=>rfl
 | some x=>exact h.1 _ (J1 e2)
theorem Lh (h:st.noTs t=true) {cs:List SV} (hi:st.bget i=some cs) {c:SV} (hc:c∈cs):c.noTs t=true:=by
 unfold PS.noTs at h
 rw[C6,E7,E7]at h
 have h8:=h.2 _ (J1 hi)
 rw[E7]at h8
 exact h8 c hc
theorem Rep.tkb (h:Rep B w0 g st a w) {k:Nat} {cs:List SV} (hlt:i<500000) (hi:st.bget i=some cs) (hn:n*k<=cs.length) (hv:SRep g w v (.bs i n E k)) (hE:t / 100000=E) (hsm:smT t) (ht:st.tget t=none) (hno:st.noTs t=true):
 ∃ g',g'.f0=g.f0∧(∀ j,g'.bl j=(g.delb i).bl j)∧(∀ t',g'.tk t'=((g.delb i).sett t ⟨v,E,k⟩).tk t')∧Kp (Fx g) w (Fx g') w∧Rep B w0 g' ((st.kill i).tput t n) a w:=by
 obtain⟨b,c,h1,rfl,h3,h4,h5⟩:=hv
 obtain⟨b',xs,T0,h6,h7,h8,h9,h10⟩:=h.boxes i cs hi hlt
 rw[h1]at h6
 cases h6
 have hsh:T0=E∧xs.size=c*k:=by
  simp only[World.shape?,h7,Option.some.injEq,Prod.mk.injEq]at h5
  exact h5
 obtain⟨rfl,hsz⟩:=hsh
 have hown:w.ownsRow 0 T0 k (.slice (some ⟨b,0,none⟩) n c) n (xs.toList.take (n*k)):=by
  refine⟨?_,.inr ⟨b,c,xs,O,D4 _,h7,h3,h4,hsz,O⟩⟩
  rw[F3,Array.length_toList]
  omega
 have hgt:g.tk t=none:=by
  cases e:g.tk t with
  | none=>rfl
  | some T=>exact F9 ht (h.tdom t T e)
 have ev:Evo g w ((g.delb i).sett t ⟨.slice (some ⟨b,0,none⟩) n c,T0,k⟩) w:=by
  refine⟨Below.refl _ _,O,Kp.same fun b' o hf=>⟨hf.1,fun j hj=>hf.2.1 j (Gh.delb_bl hj).1,fun t' T' n' c' q1 q2=>?_⟩,fun _ _=>O,fun _ _ h=>.inl (Gh.delb_bl h).1,fun t' T' hT'=>?_,fun t' T' b' hT' hb'=>?_,fun _ _ _ _ _=>O⟩
  . simp only[Gh.sett]at q1
    by_cases e:t'=t
    . rw[C2 e]at q1;cases q1;cases q2;exact F9 h1 (hf.2.1 i)
    . rw[B8 e]at q1;exact hf.2.2 t' T' n' c' q1 q2
  . simp only[Gh.sett]at hT'
    by_cases e:t'=t
    . exact .inr (e ▸ hsm)
    . rw[B8 e]at hT';exact .inl ⟨T',hT',.inl O⟩
  . simp only[Gh.sett]at hT'
    by_cases e:t'=t
    . rw[C2 e]at hT';cases hT'
      obtain rfl:b=b':=by simpa[Value.ownBlock]using hb'
      exact .inr (.inl ⟨i,h1⟩)
    . rw[B8 e]at hT';exact .inr (.inr ⟨t',T',hT',hb'⟩)
 have srep:∀ v x,SRep g w v x->x.noTs t=true->SRep ((g.delb i).sett t ⟨.slice (some ⟨b,0,none⟩) n c,T0,k⟩) w v (x.kill i):=fun v x hx hxt=>by
  refine(hx.le (FZ i x)).extp ev.fx (fun j hj b hb=>?_) (fun t' k' es e T' hT'=>?_) fun _ _ _ _=>O
  . simp only[Gh.sett,Gh.delb]
    rw[B8 (Bd hj).2]
    exact hb
  . have hxt':(x.kill i).noTs t=true:=by
     unfold SV.kill
     cases x.ids.any (Nat.beq i) with
     | true=>rfl
     | false=>exact hxt
    simp only[Gh.sett]at hT'
    rw[B8 (JB hxt' e)]at hT'
    exact⟨T',hT',.inl O⟩
 obtain⟨-,hk⟩:=h.kill i
 refine⟨(g.delb i).sett t ⟨.slice (some ⟨b,0,none⟩) n c,T0,k⟩,O,fun _=>O,fun _=>O,ev.fx,{ hk with evo:=h.evo.trans ev,defers:=h.defers.evo ev,f0:=h.f0,lim:=h.lim,size:=h.size,glob:=fun q cs hq=>srep _ (.rd cs) (h.glob q cs hq) O,slots:=fun j=>?_,boxes:=fun j cs' hj hj5=>?_,maps:=fun j ms hj hge=>?_,blk:=hk.blk,dom:=hk.dom,inj:=hk.inj,toks:=fun t' T' hT'=>?_,tf0:=fun t' T' b' o hT' hb'=>?_,telt:=fun t' T' hT'=>?_,tdis:=fun t1 t2 T1 T2 b' q1 q2 q3 q4=>?_,tdom:=fun t' T' hT'=>?_,tlen:=fun t' n' hn'=>?_ }⟩
 . show SRep _ w _ ((st.kill i).get j)
   rw[De]
   exact srep _ _ (h.slots j) (Jt hno j)
 . have hj':(st.kill i).bget j=some cs':=hj
   rw[O9]at hj'
   by_cases e:j=i
   . rw[C2 e]at hj';cases hj'
   . rw[B8 e,B7]at hj'
     obtain⟨cs0,q1,rfl⟩:=hj'
     obtain⟨b',xs',T,q2,q3,q4,q5,q6⟩:=h.boxes j cs0 q1 hj5
     refine⟨b',xs',T,by simp[Gh.sett,Gh.delb,e,q2],q3,by simpa using q4,fun q c hq=>?_,fun q u hq hu=>q6 q u (by simpa using hq) hu⟩
     rw[B5,B7]at hq
     obtain⟨c0,q7,rfl⟩:=hq
     obtain⟨x,q8,q9⟩:=q5 q c0 q7
     exact⟨x,q8,srep _ _ q9 (Lh hno q1 (B2 q7))⟩
 . have hj':(st.kill i).bget j=some [.mc ms]:=hj
   rw[O9]at hj'
   by_cases e:j=i
   . rw[C2 e]at hj';cases hj'
   . rw[B8 e,B7]at hj'
     obtain⟨cs0,q1,q2⟩:=hj'
     have q3:=FY q2
     subst q3
     obtain⟨b',es,c',q4,q5,q6⟩:=h.maps j ms q1 hge
     exact⟨b',es,c',by simp[Gh.sett,Gh.delb,e,q4],q5,q6.mono ev.fx⟩
 . simp only[Gh.sett]at hT'
   by_cases e:t'=t
   . rw[C2 e]at hT';cases hT'
     refine⟨⟨n,_,hown⟩,fun j b' hb' hj=>?_⟩
     obtain rfl:b=b':=by simpa[Value.ownBlock]using hb'
     obtain⟨q1,q2⟩:=Gh.delb_bl hj
     exact q2 (h.inj j i b q1 h1)
   . rw[B8 e]at hT'
     exact⟨(h.toks t' T' hT').1,fun j b' hb' hj=>(h.toks t' T' hT').2 j b' hb' (Gh.delb_bl hj).1⟩
 . simp only[Gh.sett]at hT'
   by_cases e:t'=t
   . rw[C2 e]at hT';cases hT'
     obtain rfl:b=b':=by simpa[Value.ownBlock]using hb'
     exact(h.blk i b h1).1 o
   . rw[B8 e]at hT';exact h.tf0 t' T' b' o hT' hb'
 . simp only[Gh.sett]at hT'
   by_cases e:t'=t
   . rw[C2 e]at hT';cases hT';rw[e,hE]
   . rw[B8 e]at hT';exact h.telt t' T' hT'
 . simp only[Gh.sett]at q1 q2
   by_cases e1:t1=t<;>by_cases e2:t2=t
   . omega
   . rw[C2 e1]at q1;rw[B8 e2]at q2;cases q1
     obtain rfl:b=b':=by simpa[Value.ownBlock]using q3
     exact F9 h1 ((h.toks t2 T2 q2).2 i b q4)
   . rw[B8 e1]at q1;rw[C2 e2]at q2;cases q2
     obtain rfl:b=b':=by simpa[Value.ownBlock]using q4
     exact F9 h1 ((h.toks t1 T1 q1).2 i b q3)
   . rw[B8 e1]at q1;rw[B8 e2]at q2;exact h.tdis t1 t2 T1 T2 b' q1 q2 q3 q4
 . rw[Q0]
   simp only[Gh.sett]at hT'
   by_cases e:t'=t
   . simp[e]
   . rw[B8 e]at hT' ⊢;exact h.tdom t' T' hT'
 . rw[Q0]at hn'
   by_cases e:t'=t
   . rw[C2 e]at hn';cases hn'
     exact⟨⟨.slice (some ⟨b,0,none⟩) n c,T0,k⟩,some ⟨b,0,none⟩,c,by simp[Gh.sett,e],rfl⟩
   . rw[B8 e]at hn'
     obtain⟨T',A,c',q1,q2⟩:=h.tlen t' n' hn'
     exact⟨T',A,c',by simp[Gh.sett,Gh.delb,e,q1],q2⟩
section
theorem pw_tkb (s i t:Nat) {k:Nat} {cs:List SV} (hn:ds.length=n*k) (hes:J4 k n ds=es) (hds:P5 cs=some ds) (hs:st.get s=.bs i n E k) (hi:st.bget i=some cs) (hE:t / 100000=E) (ht:st.tget t=none) (hno:st.noTs t=true) (h:PW P B w0 c Q (((st.kill i).tput t n).put (some s) (.ts t k es))) (hlt:Nat.blt i 500000=true:=by rfl) (hsm:Nat.blt (t % 100000) 10000=true:=by rfl):PW P B w0 c Q st:=fun g a w hr=>by
 subst hes
 have hv:=hr.slots s
 rw[hs]at hv
 have hlt:=B0 hlt
 obtain⟨hdl,-⟩:=R0 hds
 obtain⟨g',q1,q2,q3,q4,hr'⟩:=hr.tkb hlt hi (by omega) hv hE (B0 hsm) ht hno
 have hd0:DRep (fun b o=>Fx g b o∨(g.bl i=some b∧o<n*k)) w (a.tmps.getD s undef) (.sl k (J4 k n ds)):=by
  obtain⟨b,c,h1,hvv,h3,h4,h5⟩:=hv
  obtain⟨b',xs,T,h6,h7,h8,h9,h10⟩:=hr.boxes i cs hi hlt
  rw[h1]at h6
  cases h6
  obtain⟨h11,h12⟩:=R0 hds
  have hlen:=M4 k n ds
  rw[hvv]
  have:DRep (fun b o=>Fx g b o∨(g.bl i=some b∧o<n*k)) w (.slice (some ⟨b,0,none⟩) (J4 k n ds).length c) (.sl k (J4 k n ds)):=by
   refine DRep.of_row (xs:=xs.toList.take (n*k)) (by omega) (by unfold maxLen at h4;omega) (Ap k n ds hn) (fun _=>⟨b,0,rfl,fun j u hj=>⟨?_,.inr ⟨h1,?_⟩⟩⟩) (fun u hu=>by
    obtain⟨j,hj⟩:=List.mem_iff_getElem?.1 hu
    have hjlt:j<n*k:=by
     have:=(A6.1 hj).1
     rw[F3]at this
     omega
    rw[C7 hjlt]at hj
    exact h10 j u (by omega) (by simpa using hj)) fun p q e x he hx=>?_
   . have hjlt:j<n*k:=by
      have:=(A6.1 hj).1
      rw[F3]at this
      omega
     rw[C7 hjlt]at hj
     rw[D0]
     simp only[World.cell?,h7,Option.isSome_none,Bool.false_eq_true,if_false]
     simpa using hj
   . have:=(A6.1 hj).1
     rw[F3]at this
     omega
   . obtain⟨h13,-⟩:=Z6 k n ds p q e x he hx hn
     obtain⟨y,h14,h15⟩:=h12 _ _ h13
     obtain⟨u,h16,h17⟩:=h9 _ _ h14
     refine⟨u,?_,(h17.toD h15).mono (Kp.same fun _ _ hf=>.inl hf)⟩
     rw[C7 (by have:=(A6.1 h13).1;omega)]
     simpa using h16
  rwa [hlen]at this
 have hkp:Kp (fun b o=>Fx g b o∨(g.bl i=some b∧o<n*k)) w (Fx g') w:=by
  rintro b o (hf|⟨hb,ho⟩) hs
  . exact q4 b o hf hs
  . refine⟨⟨by rw[q1];exact(hr.blk i b hb).1 o,fun j hj=>?_,fun t' T' n' c' hT hTv=>?_⟩,O⟩
    . rw[q2]at hj
      obtain⟨h1,h2⟩:=Gh.delb_bl hj
      exact h2 (hr.inj j i b h1 hb)
    . rw[q3]at hT
      simp only[Gh.sett]at hT
      by_cases e:t'=t
      . rw[C2 e]at hT;cases hT
        obtain⟨b2,c2,-,hvv,-⟩:=hv
        rw[show a.tmps.getD s undef=_ from hTv]at hvv
        obtain⟨-,e2,-⟩:=Value.slice.inj hvv
        show o<n'*k
        rw[e2];exact ho
      . rw[B8 e]at hT
        exact F9 hb ((hr.toks t' T' hT).2 i b (by rw[hTv];rfl))
 have hdd:=hd0.mono hkp
 refine h _ a w { hr' with lim:=hr'.lim,size:=hr'.size,boxes:=hr'.boxes,maps:=hr'.maps,dom:=hr'.dom,tdom:=hr'.tdom,tlen:=hr'.tlen,glob:=hr'.glob,slots:=fun j=>?_ }
 rw[O5]
 by_cases e:j=s
 . rw[C2 e,e]
   refine⟨hdd,fun T hT=>?_⟩
   rw[q3]at hT
   simp only[Gh.sett,C2]at hT
   cases hT
   refine⟨rfl,fun A n' c' h1=>?_⟩
   obtain⟨b2,c2,-,hvv,-⟩:=hv
   obtain⟨-,e2,-⟩:=Value.slice.inj (h1.symm.trans hvv)
   rw[M4]
   exact⟨by omega,fun _=>rfl⟩
 . rw[B8 e];exact hr'.slots j
end
section
variable {sq:Bool} {ops:Array Oper} {rest:List Oper} {d:Option Nat} {op:Op} {ty:TypeId} {pos:String} {af:Array Edge} {gd:Option (Nat×Bool)} {q:Nat×Bool}
theorem ls_make (T:TypeId) (x y:Operand) {n c:Int} {kx ky:IntKind} [hA:AppOf P T E 1 bytes] [hL:LitOf P T E 1 [z]] (h0:0<=n) (hnc:n<=c) (hb:c*(bytes:Int)<=140737488355328) (hc:c<=140737488355328) (hx:st.ev x=.d (.val (.int kx n))) (hy:st.ev y=.d (.val (.int ky c))) (hi:st.bget e=none) (hd:G3 ⟨some e,.makeSlice T x y,ty,pos,af,gd⟩ st=true):
 I7 P ⟨some e,.makeSlice T x y,ty,pos,af,gd⟩ st (.bs e n.toNat E 1) (.box e (List.replicate n.toNat (.d (.val z)))):=fun st2 ha=>by
 intro B w0 g a w K Q hr hK
 have h1:=hr.eval x
 rw[ha.ev x (by simp[Op.operands]),hx]at h1
 have h2:=hr.eval y
 rw[ha.ev y (by simp[Op.operands]),hy]at h2
 have h1:=DRep.val_eq h1
 have h2:=DRep.val_eq h2
 obtain⟨i,z',q1,q2,q3,q4,q5⟩:=hA.inf
 have hin:e<st2.n:=F5 (ha.dst hd) e rfl
 have hlim:st2.n<=10000:=hr.lim
 have hi2:st2.bget e=none:=ha.fresh rfl e rfl e (U0 (by omega)) hi
 have hzc:z'.cells = #[z]:=by
  obtain⟨z2,r1,r2⟩:=hL.zero w
  have:(zeroValue E).run P w=.ok z' w:=by simp[zeroValue,typeInfo,q1,q2]
  rw[this]at r1
  cases r1
  exact r2
 have hone:z.oneCell'=true:=hL.one z (by simp)
 have hrun:=run_make (P:=P) w T E i z' hA.und q1 q2 kx ky n c h0 hnc (by rw[q4,Int.mul_comm];omega) (by omega)
 rw[q3,Nat.mul_one,hzc]at hrun
 have hexec:(execOp a.eval ⟨some e,.makeSlice T x y,ty,pos,af,gd⟩).run P w=.ok (.value (.slice (some ⟨w.heap.size,0,none⟩) n.toNat c.toNat)) (w.alloc (.cells (madeCells #[z] c.toNat) E)):=by
  simp only[execOp,h1,h2,Sem.run_bind,hrun,C1,Sem.run_pure]
 have hlist:=toList_madeCells_one z c.toNat
 have hget:∀ j,j<c.toNat->(madeCells #[z] c.toNat)[j]? = some z:=fun j hj=>by
  rw[<-Array.getElem?_toList,hlist,List.getElem?_replicate,C2 hj]
 have hrep:=hr.newb e E hi2 hin (madeCells #[z] c.toNat) (List.replicate n.toNat (.d (.val z))) (by rw[List.length_replicate,size_madeCells];omega) (fun j cc hj=>by
  rw[List.getElem?_replicate]at hj
  split at hj
  . cases hj;exact⟨z,hget j (by omega),DRep.val z hone⟩
  . cases hj) (fun u hu=>by
  have:u∈(madeCells #[z] c.toNat).toList:=Array.mem_toList_iff.2 hu
  rw[hlist]at this
  rw[List.eq_of_mem_replicate this];exact hone)
 unfold Oper.wp
 rw[hexec]
 refine hK _ _ _ (hrep.put ?_ _ (F5 (st:=st2.bput e _) (ha.dst hd)))
 refine⟨w.heap.size,c.toNat,by simp[Gh.addb],rfl,by omega,by unfold maxLen;omega,?_⟩
 unfold World.shape?
 rw[heap_alloc_new]
 simp[size_madeCells]
theorem ls_litb (T:TypeId) {k:Nat} [hB:LitOf P T E k zs] (hi:st.bget e=none) (hd:G3 ⟨some e,.buildSlice T 0 ([]:List (Nat×Operand)).toArray,ty,pos,af,gd⟩ st=true):
 I7 P ⟨some e,.buildSlice T 0 ([]:List (Nat×Operand)).toArray,ty,pos,af,gd⟩ st (.bs e 0 E k) (.box e []):=fun st2 ha=>by
 intro B w0 g a w K Q hr hK
 have hin:e<st2.n:=F5 (ha.dst hd) e rfl
 have hlim:st2.n<=10000:=hr.lim
 have hi2:st2.bget e=none:=ha.fresh rfl e rfl e (U0 (by omega)) hi
 obtain⟨us,h1,h2,-⟩:=Ga (P:=P) (T:=T) (E:=E) (k:=k) (zs:=zs) (n:=0) (ps:=[]) (qs:=[]) (ys:=P1 zs 0) (es:=[]) (d:=some e) (ty:=ty) (pos:=pos) (af:=af) (gd:=gd) rfl rfl (by simp[J4]) (by omega) (by omega) hr
 have hu0:us = #[]:=by
  rw[Nat.zero_mul]at h2
  exact Array.eq_empty_of_size_eq_zero h2
 subst hu0
 have hrep:=hr.newb e E hi2 hin #[] [] (D6 _) (fun j cc hj=>by simp at hj) (fun u hu=>by simp at hu)
 unfold Oper.wp
 rw[h1]
 refine hK _ _ _ (hrep.put ?_ _ (F5 (st:=st2.bput e _) (ha.dst hd)))
 refine⟨w.heap.size,0,by simp[Gh.addb],rfl,D6 _,by unfold maxLen;omega,?_⟩
 unfold World.shape?
 rw[heap_alloc_new]
 simp
theorem yEb {k:Nat} [LitOf P T E k zs] (hi:st.bget e=none)
 (h:YR P sq ops K rest ((st.bput e []).put (some e) (.bs e 0 E k))) (zz:zk ops st ⟨some e,.buildSlice T 0 ([]:List (Nat×Operand)).toArray,ty,pos,af,gd⟩ (.box e [])=true:=by kernel_rfl):
 YR P sq ops K (⟨some e,.buildSlice T 0 ([]:List (Nat×Operand)).toArray,ty,pos,af,gd⟩::rest) st:=Bv (ls_litb T hi (zd zz)) (zo zz) (zw zz) h
theorem yMk {n c:Int} {kx ky:IntKind} [hA:AppOf P T E 1 bytes] [hL:LitOf P T E 1 [z]] (h0:0<=n) (hnc:n<=c) (hb:c*(bytes:Int)<=140737488355328) (hc:c<=140737488355328) (hx:st.ev x=.d (.val (.int kx n))) (hy:st.ev y=.d (.val (.int ky c))) (hi:st.bget e=none)
 (h:YR P sq ops K rest ((st.bput e (List.replicate n.toNat (.d (.val z)))).put (some e) (.bs e n.toNat E 1))) (hd:G3 ⟨some e,.makeSlice T x y,ty,pos,af,gd⟩ st=true:=by kernel_rfl) (hk:Cm ⟨some e,.makeSlice T x y,ty,pos,af,gd⟩ st (.box e (List.replicate n.toNat (.d (.val z))))=true:=by kernel_rfl) (hw:st.want ops ⟨some e,.makeSlice T x y,ty,pos,af,gd⟩=some true:=by rfl):
 YR P sq ops K (⟨some e,.makeSlice T x y,ty,pos,af,gd⟩::rest) st:=Bv (ls_make T x y h0 hnc hb hc hx hy hi hd) hk hw h
theorem Ln (T:TypeId) (x y:Operand) {k:Nat} [hS:SliceOf P T E' k'] (hx:st.ev x=.bs i n E k) (hkk:k'=k) (hy:st.ev y=.d (.val (.int kd m))) (h0:0<=m) (hm:m<n) (hd:G3 ⟨d,.indexAddr T x y,ty,pos,af,gd⟩ st=true):
 I7 P ⟨d,.indexAddr T x y,ty,pos,af,gd⟩ st (.bx i (m.toNat*k)) .no:=fun st2 ha=>
 OpS.value (ha.dst hd) fun _ _ g a w h=>by
  subst hkk
  have h1:=h.eval x
  rw[ha.ev x (by simp[Op.operands]),hx]at h1
  have h2:=h.eval y
  rw[ha.ev y (by simp[Op.operands]),hy]at h2
  obtain⟨b,c,q1,q2,q3,q4,q5⟩:=h1
  refine⟨.pointer (some ⟨b,m.toNat*k',none⟩),w,?_,Below.refl _ _,b,q1,O⟩
  have hn:0<=m∧m<(n:Int):=⟨h0,hm⟩
  simp only[execOp,Instr.indexAt,q2,DRep.val_eq h2,asIntOf,Sem.run_bind,Sem.run_pure,C1,hS.und,hn,and_self,if_true,hS.size,Addr.add_lit,D0]
theorem U4 {k:Nat} [SliceOf P T E' k'] (h0:0<=m) (hm:m<n) (hx:st.ev x=.bs i n E k) (hkk:k'=k) (hy:st.ev y=.d (.val (.int kd m))) (h:YR P sq ops K rest (st.put d (.bx i (m.toNat*k)))) (zz:zk ops st ⟨d,.indexAddr T x y,ty,pos,af,gd⟩ .no=true:=by kernel_rfl):
 YR P sq ops K (⟨d,.indexAddr T x y,ty,pos,af,gd⟩::rest) st:=I1 (Ln T x y hx hkk hy h0 hm (zd zz)) (zo zz) (zw zz) h
theorem KB (T:TypeId) (x:Operand) {k:Nat} [hS:SliceOf P T E' k'] (hx:st.ev x=.bs i n E k) (hd:G3 ⟨d,.call { callee:=.builtin .len,args:=#[x],argTypes:=#[T] },ty,pos,af,gd⟩ st=true):
 I7 P ⟨d,.call { callee:=.builtin .len,args:=#[x],argTypes:=#[T] },ty,pos,af,gd⟩ st (.d (.val (.int .i64 n))) .no:=fun st2 ha=>
 OpS.value (ha.dst hd) fun _ _ g a w h=>by
  have h1:=h.eval x
  rw[ha.ev x (by simp[Op.operands,Call.operands]),hx]at h1
  obtain⟨b,c,q1,q2,-⟩:=h1
  refine⟨.int .i64 n,w,?_,Below.refl _ _,DRep.val _ O⟩
  simp[execOp,resolve,invoke,builtin,Builtin.len_,q2,hS.und,goInt]
theorem yNb {k:Nat} [SliceOf P T E' k'] (hx:st.ev x=.bs i n E k) (h:YR P sq ops K rest (st.put d (.d (.val (.int .i64 n))))) (zz:zk ops st ⟨d,.call { callee:=.builtin .len,args:=#[x],argTypes:=#[T] },ty,pos,af,gd⟩ .no=true:=by kernel_rfl):
 YR P sq ops K (⟨d,.call { callee:=.builtin .len,args:=#[x],argTypes:=#[T] },ty,pos,af,gd⟩::rest) st:=I1 (KB T x hx (zd zz)) (zo zz) (zw zz) h
theorem Lo (T:TypeId) (x y:Operand) {k:Nat} [hS:SliceOf P T E' k'] (hx:st.ev x=.bs i n E k) (hy:st.ev y=.d (.val (.int kd m))) (h0:0<=m) (hm:m<=n) (hd:G3 ⟨d,.slice T x none (some y) none,ty,pos,af,gd⟩ st=true):
 I7 P ⟨d,.slice T x none (some y) none,ty,pos,af,gd⟩ st (.bs i m.toNat E k) .no:=fun st2 ha=>
 OpS.value (ha.dst hd) fun _ _ g a w h=>by
  have h1:=h.eval x
  rw[ha.ev x (by simp[Op.operands]),hx]at h1
  have h2:=h.eval y
  rw[ha.ev y (by simp[Op.operands]),hy]at h2
  obtain⟨b,c,q1,q2,q3,q4,q5⟩:=h1
  refine⟨.slice (some ⟨b,0,none⟩) m.toNat c,w,?_,Below.refl _ _,b,c,q1,O,by omega,q4,q5⟩
  have hn:0<=m∧m<=(c:Int):=⟨h0,by omega⟩
  simp only[execOp,Instr.sliceAt,Instr.slice,Instr.sliceBounds,Instr.sliceBound,q2,DRep.val_eq h2,asIntOf,Sem.run_bind,Sem.run_pure,C1,hS.und,hn,and_self,if_true,hS.size,Option.map_some,Option.map_none,Nat.sub_zero,Nat.zero_mul,Addr.add_lit,Nat.add_zero]
  simp
theorem yDb {k:Nat} [SliceOf P T E' k'] (h0:0<=m) (hm:m<=n) (hx:st.ev x=.bs i n E k) (hy:st.ev y=.d (.val (.int kd m))) (h:YR P sq ops K rest (st.put d (.bs i m.toNat E k))) (zz:zk ops st ⟨d,.slice T x none (some y) none,ty,pos,af,gd⟩ .no=true:=by kernel_rfl):
 YR P sq ops K (⟨d,.slice T x none (some y) none,ty,pos,af,gd⟩::rest) st:=I1 (Lo T x y hx hy h0 hm (zd zz)) (zo zz) (zw zz) h
theorem BK (hr:Rep B w0 g st a w) {k:Nat} (hx:asSl (st.ev x)=some (k,es)):
 ∃ A c,∃ news:List Value,a.eval x=.slice A es.length c∧news.length=es.length*k∧(0<es.length->∃ b off,A=some ⟨b,off,none⟩ ∧ ∀ j u,news[j]? = some u->w.cell? ⟨b,off+j,none⟩=some u)∧(∀ u∈news,u.oneCell'=true) ∧ ∀ (i j:Nat) e z,es[i]? = some e->e[j]? = some z->∃ u,news[i*k+j]? = some u∧DRep (Fx g) w u z:=by
 obtain⟨A,c,news,hv,-,-,-,hl,hcell,hone,hrep⟩:=DRep.row ((hr.eval x).asSl hx)
 exact⟨A,c,news,hv,hl,fun h0=>by
  obtain⟨b,off,h1,h2⟩:=hcell h0
  exact⟨b,off,h1,fun j u hj=>(h2 j u hj).1⟩,hone,hrep⟩
theorem yCp {e:Option Nat} {T2:Nat} {cs:List SV} [hS:SliceOf P T E' 1] (hds:es=ds.map fun z=>[z]) (hn:n<=es.length) (hlt0:i<500000) (hx:st.ev x=.bs i n E 1) (hi:st.bget i=some cs) (hcs:cs.length=n) (hy:asSl (st.ev y)=some (1,es))
 (h:YR P true ops K rest ((st.bput i ((ds.take n).map .d)).put e (.d (.val (.int .i64 n))))) (hd:G3 ⟨e,.call { callee:=.builtin .copy,args:=#[x,y],argTypes:=#[T,T2] },ty,pos,af,gd⟩ st=true:=by kernel_rfl) (hw:st.want ops ⟨e,.call { callee:=.builtin .copy,args:=#[x,y],argTypes:=#[T,T2] },ty,pos,af,gd⟩=some true:=by rfl):
 YR P true ops K (⟨e,.call { callee:=.builtin .copy,args:=#[x,y],argTypes:=#[T,T2] },ty,pos,af,gd⟩::rest) st:=by
 refine .any O fun B w0 Q hQ g a w hr=>?_
 have h1:=hr.eval x
 rw[hx]at h1
 obtain⟨b,c,q1,q2,q3,q4,q5⟩:=h1
 obtain⟨A,c2,news,r1,r2,r3,r4,r5⟩:=BK hr hy
 rw[Nat.mul_one]at r2
 have hdl:es.length=ds.length:=by rw[hds,D3]
 obtain⟨w',s1,s2⟩:=DN (P:=P) hlt0 q1 0 (news.take n) ((ds.take n).map .d) st w cs 0 hr hi (by simp;omega) (by simp;omega) (fun p v z hv hz=>by
  rw[B5,B7]at hz
  obtain⟨u,hu,rfl⟩:=hz
  have hp:p<n:=by have:=(A6.1 hu).1;simp at this;omega
  rw[C7 hp]at hv hu
  obtain⟨u',t1,t2⟩:=r5 p 0 [u] u (by rw[hds,B5,hu];rfl) rfl
  rw[Nat.mul_one,Nat.add_zero,hv]at t1
  cases t1
  exact t2) (fun v hv=>r4 v (List.mem_of_mem_take hv))
 have hset:AA cs (0+0) ((ds.take n).map .d)=(ds.take n).map .d:=by
  have key:∀ (xs cs pre:List SV),cs.length=xs.length->AA (pre++cs) pre.length xs=pre++xs:=by
   intro xs
   induction xs with
   | nil=>intro cs pre hl;rw[List.eq_nil_of_length_eq_zero hl];rfl
   | cons z xs ih=>
    intro cs pre hl
    match cs,hl with
    | c0::cs,hl=>
     rw[AA,List.set_append_right _ _ (D6 _),Nat.sub_self,List.set_cons_zero]
     have:=ih cs (pre++[z]) (by simpa using hl)
     simpa using this
  have:=key ((ds.take n).map .d) cs [] (by simp;omega)
  simpa using this
 rw[hset]at s2
 have hrun:(execOp a.eval ⟨e,.call { callee:=.builtin .copy,args:=#[x,y],argTypes:=#[T,T2] },ty,pos,af,gd⟩).run P w=.ok (.value (.int .i64 n)) w':=by
  have hmin:Nat.min es.length n=n:=Nat.min_eq_right hn
  have hfirst:(Builtin.firstCells 1 n (.slice A es.length c2)).run P w=.ok (news.take n).toArray w:=by
   rcases F7 n with h0|h0
   . subst h0
     cases A<;>simp[Builtin.firstCells,loadCells,loadCellsFrom]
   . obtain⟨b2,off2,rfl,t2⟩:=r3 (by omega)
     have:=S9 P w ⟨b2,off2,none⟩ (news.take n) n 0 #[] (by simp;omega) (fun j u hj=>by
      rw[D0,Addr.add_lit]
      have hj':j<n:=by have:=(A6.1 hj).1;simp at this;omega
      rw[C7 hj']at hj
      exact t2 j u hj)
     simpa[Builtin.firstCells,loadCells]using this
  simp only[execOp,resolve,invoke,builtin,Builtin.copy_,Sem.run_bind,Sem.run_pure,C1,List.map_toArray,List.map_cons,List.map_nil,q2,r1,Builtin.lenOf]
  simp[hS.und,hS.size,hfirst,s1,goInt,hmin]
 unfold wpList
 rw[C2 (H9 hr hw)]
 refine .inl ?_
 unfold Oper.wp
 rw[hrun]
 exact h.sound hQ (s2.put (x:=.d (.val (.int .i64 n))) (DRep.val _ O) _ (F5 (st:=st) hd))
theorem yCob {k:Nat} [hB:HasBody P f] (hc:Ia P f ys E k es) (h0:0<es.length) (hds:J4 k es.length (vs.map .val)=es) (hdl:vs.length=es.length*k) (ha:Bj st l=some ys) (hi:st.bget e=none)
 (h:YR P true ops K rest ((st.bput e (vs.map fun u=>.d (.val u))).put (some e) (.bs e es.length E k))) (hd:G3 ⟨some e,.call { callee:=.value (.func f),args:=l.toArray,argTypes:=ts },ty,pos,af,gd⟩ st=true:=by kernel_rfl)
 (hw:st.want ops ⟨some e,.call { callee:=.value (.func f),args:=l.toArray,argTypes:=ts },ty,pos,af,gd⟩=some true:=by rfl):
 YR P true ops K (⟨some e,.call { callee:=.value (.func f),args:=l.toArray,argTypes:=ts },ty,pos,af,gd⟩::rest) st:=by
 refine .any O fun B w0 Q hQ g a w hr=>?_
 obtain⟨h1,h2⟩:=Bi ha
 have M3:=hc (Fx g) w (l.map a.eval) (by simpa using h1) (fun i v x hv hx=>by
  rw[B5,B7]at hv
  obtain⟨y,h3,rfl⟩:=hv
  exact(hr.eval y).toD (h2 i y x h3 hx)) hr.gok
 unfold wpList
 rw[C2 (H9 hr hw)]
 refine .inl ?_
 unfold Oper.wp
 rw[Y1]
 show Calls P f _ w _
 refine M3.mono ?_
 rintro e' w' ⟨v,xs,rfl,h3,h3o,h4,h5⟩
 obtain⟨hxl,(⟨-,q0⟩|⟨gb,cap,cur,rfl,q1,q2,q3,q4,q5,q6⟩)⟩:=h3
 . omega
 have hin:e<st.n:=F5 hd e rfl
 obtain⟨A,c2,news,r1,-,-,r4,r5,r6,r7,r8⟩:=DRep.row h4
 obtain⟨b2,off2,rfl,r9⟩:=r6 h0
 obtain⟨e1,-,-⟩:=Value.slice.inj r1
 have e1':gb=b2∧off2=0:=by
  have:=G4 e1
  exact⟨H4 Addr.block this,(H4 Addr.off this).symm⟩
 obtain⟨rfl,rfl⟩:=e1'
 have hcur:∀ (j:Nat) (u:Value),vs[j]? = some u->cur[j]? = some u∧u.oneCell'=true:=fun j u hj=>by
  have hjl:j<es.length*k:=by rw[<-hdl];exact(A6.1 hj).1
  have hk0:0<k:=by
   rcases F7 k with h|h
   . rw[h,Nat.mul_zero]at hjl;omega
   . exact h
  have hq:j / k<es.length:=Nat.div_lt_of_lt_mul (by rw[Nat.mul_comm];exact hjl)
  have hr':j % k<k:=Nat.mod_lt _ hk0
  have he:=A4 hq
  have hx:=A4 (l:=es[j / k]) (i:=j % k) (by rw[r4 _ (List.getElem_mem hq)];exact hr')
  obtain⟨u',t1,t2⟩:=r8 _ _ _ _ he hx
  have t3:=Z6 k es.length (vs.map .val) (j / k) (j % k) es[j / k] _ (by rw[hds];exact he) hx (by simpa using hdl)
  rw[Nat.mul_comm,Nat.div_add_mod]at t1
  have t4:=t3.1
  rw[Nat.mul_comm (j / k),Nat.div_add_mod,B5,hj]at t4
  have t5:=G4 t4
  rw[<-t5]at t2
  have t6:=DRep.val_eq t2
  subst t6
  refine⟨?_,r7 u' (B2 t1)⟩
  have:=(r9 j u' t1).1
  rw[D0]at this
  simpa[World.cell?,q2]using this
 have hvl:vs.length<=cur.size:=by
  rw[hdl,q5];exact Nat.mul_le_mul_right _ q3
 obtain⟨ev,hr'⟩:=hr.adopt e gb E hi hin h5 q1 cur q2 (vs.map fun u=>.d (.val u)) (by simpa using hvl) (fun _ j c hj=>by
  rw[B5,B7]at hj
  obtain⟨u,hu,rfl⟩:=hj
  obtain⟨t1,t2⟩:=hcur j u hu
  exact⟨u,t1,DRep.val u t2⟩) (fun j u hj hu=>by
  obtain⟨t1,t2⟩:=hcur j _ (A4 (by simpa using hj))
  rw[hu]at t1
  cases t1
  exact t2)
 refine h.sound hQ (hr'.put ?_ (some e) fun i hi=>by cases hi;exact hin)
 refine⟨gb,cap,by simp[Gh.addb],rfl,q3,q4,?_⟩
 simp[World.shape?,q2,q5]
def PRow (P:Program) (f:FuncId) (E k:Nat) (args:List Value) (vs vs':List Value):Prop:=
 ∀ (w:World) (v:Value) (n:Nat),w.ownsRow 0 E k v n vs->(∀ u∈vs,u.oneCell'=true)->Calls P f (v::args).toArray w fun e w'=>e=.returned (.tuple #[])∧w'.ownsRow 0 E k v n vs'∧(∀ u∈vs',u.oneCell'=true)∧w.grownBy w' v.ownBlock
theorem yRb {k:Nat} {e:Option Nat} {args vs':List Value} [hB:HasBody P f] (hc:PRow P f E k args vs vs') (hn:vs.length=n*k) (hx:st.ev x=.bs i n E k) (hi:st.bget i=some (vs.map fun u=>.d (.val u))) (ha:X9 st l=some args)
 (h:YR P true ops K rest ((st.bput i (vs'.map fun u=>.d (.val u))).put e (.tup []))) (hd:G3 ⟨e,.call { callee:=.value (.func f),args:=(x::l).toArray,argTypes:=ts },ty,pos,af,gd⟩ st=true:=by kernel_rfl)
 (hw:st.want ops ⟨e,.call { callee:=.value (.func f),args:=(x::l).toArray,argTypes:=ts },ty,pos,af,gd⟩=some true:=by rfl) (hlt:Nat.blt i 500000=true:=by rfl):
 YR P true ops K (⟨e,.call { callee:=.value (.func f),args:=(x::l).toArray,argTypes:=ts },ty,pos,af,gd⟩::rest) st:=by
 refine .any O fun B w0 Q hQ g a w hr=>?_
 have h1:=hr.eval x
 rw[hx]at h1
 obtain⟨b,c,q1,q2,q3,q4,q5⟩:=h1
 have hlt:=B0 hlt
 obtain⟨b',xs,T,q6,q7,q8,q9,q10⟩:=hr.boxes i _ hi hlt
 rw[q1]at q6
 cases q6
 have hsh:T=E∧xs.size=c*k:=by
  simp only[World.shape?,q7,Option.some.injEq,Prod.mk.injEq]at q5
  exact q5
 obtain⟨rfl,hsz⟩:=hsh
 rw[D3]at q8 q10
 have hxv:∀ (j:Nat) u,vs[j]? = some u->xs[j]? = some u∧u.oneCell'=true:=fun j u hj=>by
  obtain⟨u',t1,t2⟩:=q9 j (.d (.val u)) (by rw[B5,hj];rfl)
  have t3:=DRep.val_eq t2
  subst t3
  exact⟨t1,q10 j u' (A6.1 hj).1 t1⟩
 have hone:∀ u∈vs,u.oneCell'=true:=fun u hu=>by
  obtain⟨j,hj⟩:=List.mem_iff_getElem?.1 hu
  exact(hxv j u hj).2
 have hown:w.ownsRow 0 T k (a.eval x) n vs:=by
  rw[q2]
  refine⟨hn,.inr ⟨b,c,xs,O,D4 _,q7,q3,q4,hsz,?_⟩⟩
  refine List.ext_getElem? fun j=>?_
  by_cases hj:j<n*k
  . rw[C7 hj]
    have hjv:=A4 (l:=vs) (i:=j) (by omega)
    rw[hjv]
    simpa using (hxv j _ hjv).1
  . rw[E9 (by simp;omega),E9 (by omega)]
 have M3:=hc w (a.eval x) n hown hone
 have hargs:((x::l).map a.eval).toArray=(a.eval x::args).toArray:=by
  rw[List.map_cons,Dm ha hr]
 unfold wpList
 rw[C2 (H9 hr hw)]
 refine .inl ?_
 unfold Oper.wp
 rw[Y1]
 show Calls P f _ w _
 rw[hargs]
 refine M3.mono ?_
 rintro e' w' ⟨rfl,h3,h4,h5⟩
 rw[q2]at h3 h5
 obtain⟨hvl',(⟨t0,-⟩|⟨gb,cap,cur,t1,-,t2,t3,t4,t5,t6⟩)⟩:=h3
 . cases t0
 cases t1
 have hvs':∀ (j:Nat) u,vs'[j]? = some u->cur[j]? = some u:=fun j u hj=>by
  rw[<-t6]at hj
  have hj':j<n*k:=by have:=(A6.1 hj).1;rw[F3]at this;omega
  rw[C7 hj']at hj
  simpa using hj
 have hr':Rep B w0 g (st.bput i (vs'.map fun u=>.d (.val u))) a w':=by
  refine hr.seto i b _ q1 ⟨h5.os,h5.tape,h5.output,h5.size,fun k hk=>by omega⟩ (fun k hk hne=>h5.block k hk (fun e=>hne (by simpa[Value.ownBlock]using e))) ?_ (fun _ _=>⟨cur,T,t2,?_,fun j c hj=>?_,fun j u hj hu=>?_⟩) fun _ hge=>by omega
  . simp[World.shape?,t2,q7,t5,hsz]
  . rw[D3,hvl',t5];exact Nat.mul_le_mul_right _ q3
  . rw[B5,B7]at hj
    obtain⟨u,hu,rfl⟩:=hj
    exact⟨u,hvs' j u hu,DRep.val u (h4 u (B2 hu))⟩
  . have hjv:=A4 (l:=vs') (i:=j) (by simpa using hj)
    have:=hvs' j _ hjv
    rw[hu]at this
    cases this
    exact h4 _ (List.getElem_mem _)
 exact h.sound hQ (hr'.put (x:=.tup []) ⟨[],O,O,fun i y x hy=>by simp at hy⟩ _ (F5 (st:=st) hd))
end
def SV.sh:SV->SV
 | .bx i o=>.bx (i+10000) o
 | .ts t k es=>.ts (t+10000) k es
 | .fn f caps=>.fn f (caps.map (· + 10000))
 | .fb f i o=>.fb f (i+10000) o
 | .bs i n E k=>.bs (i+10000) n E k
 | .mb i=>.mb (i+10000)
 | .tx i T n=>.tx (i+10000) T n
 | x=>x
def SV.fit (is ts:List Nat) (x:SV):Bool:=x.ids.all (fun i=>is.contains i)&&(match x with|.ts t _ _=>ts.contains t|_=>true)
def okB (i:Nat):Bool:=Nat.ble (i % 500000+10000) 490000
def okT (t:Nat):Bool:=Nat.ble (t % 100000+10000) 90000
def Gh.pass (g:Gh) (F:Nat->Nat->Prop) (is ts:List Nat):Gh:=⟨F,fun j=>if 10000<=j∧(j-10000)∈is then g.bl (j-10000)else none,fun t=>if 10000<=t∧(t-10000)∈ts then g.tk (t-10000)else none⟩
def Z2 (g:Gh) (w:World) (is ts:List Nat) (b o:Nat):Prop:=Fx g b o∨w.heap.size<=b∨(∃ i∈is,g.bl i=some b) ∨ ∃ t∈ts,∃ T,g.tk t=some T∧T.v.ownBlock=some b
theorem Q8 {is ts:List Nat} {b:Nat} (h:(g.pass F is ts).bl j=some b):10000<=j∧(j-10000)∈is∧g.bl (j-10000)=some b:=by
 simp only[Gh.pass]at h
 split at h
 . rename_i h1;exact⟨h1.1,h1.2,h⟩
 . cases h
theorem O4 {is ts:List Nat} {T:Tk} (h:(g.pass F is ts).tk t=some T):10000<=t∧(t-10000)∈ts∧g.tk (t-10000)=some T:=by
 simp only[Gh.pass]at h
 split at h
 . rename_i h1;exact⟨h1.1,h1.2,h⟩
 . cases h
theorem Aq {is ts:List Nat} (hi:i∈is):(g.pass F is ts).bl (i+10000)=g.bl i:=by
 simp only[Gh.pass,Nat.add_sub_cancel]
 rw[C2 ⟨by omega,hi⟩]
theorem Ij {is ts:List Nat} (ht:t∈ts):(g.pass F is ts).tk (t+10000)=g.tk t:=by
 simp only[Gh.pass,Nat.add_sub_cancel]
 rw[C2 ⟨by omega,ht⟩]
theorem FS (h:okB i=true):¬ Ka (i+10000):=by
 have:=B0 h
 unfold Ka
 omega
theorem FR (h:okT t=true):¬ smT (t+10000)∧(t+10000) / 100000=t / 100000:=by
 have:=B0 h
 unfold smT
 omega
theorem DA (g:Gh) (w:World) (is ts:List Nat):Kp (Fx g) w (Fx (g.pass (Z2 g w is ts) is ts)) w:=Kp.same fun _ _ hf=>
 ⟨.inl hf,fun _ hj=>hf.2.1 _ (Q8 hj).2.2,fun _ T n c hT hv=>hf.2.2 _ T n c (O4 hT).2.2 hv⟩
theorem EN {is ts:List Nat} {x:SV} (h:SRep g w v x) (hf:x.fit is ts=true):SRep (g.pass (Z2 g w is ts) is ts) w v x.sh:=by
 have kp:=DA g w is ts
 simp only[SV.fit,C6,E7,List.contains_iff_mem]at hf
 have hb:∀ i∈x.ids,∀ b,g.bl i=some b->(g.pass (Z2 g w is ts) is ts).bl (i+10000)=some b:=fun i hi b hb=>by rw[Aq (hf.1 i hi)];exact hb
 cases x with
 | any=>trivial
 | d x=>exact DRep.mono h kp
 | ts t k es=>
  refine⟨DRep.mono h.1 kp,fun T hT=>h.2 T ?_⟩
  obtain⟨-,-,h3⟩:=O4 hT
  simpa using h3
 | bx i off=>obtain⟨b,h1,h2⟩:=h;exact⟨b,hb i (by simp[SV.ids]) b h1,h2⟩
 | rd cs=>
  obtain⟨b,off,f,h1,h2⟩:=h
  refine⟨b,off,f,h1,fun j x hj=>?_⟩
  obtain⟨h3,h4,h5',h5⟩:=h2 j x hj
  obtain⟨h6,h7⟩:=kp.cell h4 h3
  exact⟨h7,h6,h5',h5.mono kp⟩
 | tup xs=>
  obtain⟨vs,h1,h2,h3⟩:=h
  exact⟨vs,h1,h2,fun i y x hy hx=>(h3 i y x hy hx).mono kp⟩
 | fn f caps=>
  obtain⟨bs,h1,h2,h3⟩:=h
  refine⟨bs,h1,by simpa using h2,fun i b c hbi hc=>?_⟩
  rw[B5,B7]at hc
  obtain⟨c0,h4,rfl⟩:=hc
  exact hb c0 (by simpa[SV.ids]using B2 h4) b (h3 i b c0 hbi h4)
 | fb f i off=>obtain⟨b,h1,h2⟩:=h;exact⟨b,hb i (by simp[SV.ids]) b h1,h2⟩
 | bs i n E k=>obtain⟨b,c,h1,h2⟩:=h;exact⟨b,c,hb i (by simp[SV.ids]) b h1,h2⟩
 | mb i=>obtain⟨b,h1,h2⟩:=h;exact⟨b,hb i (by simp[SV.ids]) b h1,h2⟩
 | tx i T n=>obtain⟨b,h1,h2⟩:=h;exact⟨b,hb i (by simp[SV.ids]) b h1,h2⟩
 | mc ms=>exact h
def IU:Nat->List SV->List (Nat×SV)
 | _,[]=>[]
 | i,x::l=>(i,x)::IU (i+1) l
theorem KX (i j:Nat) (l:List SV):F8 (IU i l) j=if i<=j then l[j-i]? else none:=by
 induction l generalizing i with
 | nil=>simp[IU,F8]
 | cons x l ih=>
  rw[IU,I3,ih]
  by_cases h:j=i
  . simp[h]
  . rw[B8 h]
    by_cases h2:i<=j
    . rw[C2 h2,C2 (by omega),show j-i=(j-(i+1))+1 by omega];simp
    . rw[B8 h2,B8 (by omega)]
def Hl (bs:List (Nat×List SV)):List (Nat×List SV):=bs.map fun p=>(p.1+10000,p.2.map SV.sh)
def Jo (ts:List (Nat×Nat)):List (Nat×Nat):=ts.map fun p=>(p.1+10000,p.2)
theorem Bq (bs:List (Nat×List SV)) (j:Nat):F8 (Hl bs) j=if 10000<=j then (F8 bs (j-10000)).map (List.map SV.sh)else none:=by
 induction bs with
 | nil=>simp[Hl,F8]
 | cons p bs ih=>
  obtain⟨i,cs⟩:=p
  have:Hl ((i,cs)::bs)=(i+10000,cs.map SV.sh)::Hl bs:=rfl
  rw[this,I3,ih,I3]
  by_cases h1:j=i+10000
  . subst h1;simp
  . rw[B8 h1]
    by_cases h2:10000<=j
    . rw[C2 h2,C2 h2,B8 (by omega)]
    . rw[B8 h2,B8 h2]
theorem Dt (ts:List (Nat×Nat)) (j:Nat):F8 (Jo ts) j=if 10000<=j then F8 ts (j-10000)else none:=by
 induction ts with
 | nil=>simp[Jo,F8]
 | cons p ts ih=>
  obtain⟨i,n⟩:=p
  have:Jo ((i,n)::ts)=(i+10000,n)::Jo ts:=rfl
  rw[this,I3,ih,I3]
  by_cases h1:j=i+10000
  . subst h1;simp
  . rw[B8 h1]
    by_cases h2:10000<=j
    . rw[C2 h2,C2 h2,B8 (by omega)]
    . rw[B8 h2,B8 h2]
structure Fit (st:PS) (bs:List (Nat×List SV)) (ts:List (Nat×Nat)):Prop where
 b:∀ i cs,F8 bs i=some cs->st.bget i=some cs
 t:∀ t n,F8 ts t=some n->st.tget t=some n
 ok:∀ p∈bs,okB p.1=true ∧ ∀ c∈p.2,c.fit (bs.map (·.1)) (ts.map (·.1))=true
 okt:∀ p∈ts,okT p.1=true
theorem K5 {l:List (Nat×α)} (h:i∈l.map (·.1)):∃ x,F8 l i=some x:=by
 induction l with
 | nil=>simp at h
 | cons p l ih=>
  obtain⟨j,x⟩:=p
  rw[I3]
  by_cases e:i=j
  . exact⟨x,by rw[C2 e]⟩
  . rw[B8 e]
    exact ih (by simpa[e]using h)
theorem U9 {l:List (Nat×α)} {x:α} (h:F8 l i=some x):i∈l.map (·.1):=H5.2 ⟨_,J1 h,rfl⟩
theorem Rep.not_own (h:Rep B w0 g st a w) {q:Nat} {cs:List DV} (hq:F8 gs q=some cs):¬ P7 g w q:=fun ho=>by
 have hn:=h.gown q cs hq
 rcases ho with h1|⟨i,h1⟩|⟨t,T,h1,h2⟩
 . obtain⟨vs,-,T,z,h2⟩:=(h.gok q cs hq).2
   have h3:=(D5.1 h2).1
   omega
 . rcases h.evo.bl i q h1 with h2|h2
   . exact hn (.inr (.inl ⟨i,h2⟩))
   . exact hn h2.2
 . exact hn (h.evo.tb t T q h1 h2)
theorem Lf {is ts:List Nat} {b:Nat} (h:P7 (g.pass F is ts) w b):P7 g w b:=by
 rcases h with h1|⟨i,h1⟩|⟨t,T,h1,h2⟩
 . exact .inl h1
 . exact .inr (.inl ⟨_,(Q8 h1).2.2⟩)
 . exact .inr (.inr ⟨_,T,(O4 h1).2.2,h2⟩)
theorem Rep.pass (h:Rep B w0 g st a w) {ts:List (Nat×Nat)} (hfit:Fit st bs ts) {vals:List Value} {args:List SV} {m:Nat} (hn:m=n) (hl:args.length<=n) (hlim:n<=10000) (hvl:vals.length=args.length)
 (hv:∀ (i:Nat) v x,vals[i]? = some v->args[i]? = some x->SRep g w v x) (ha:∀ x∈args,x.fit (bs.map (·.1)) (ts.map (·.1))=true):
 Rep w.heap.size ⟨w,g.pass (Z2 g w (bs.map (·.1)) (ts.map (·.1))) (bs.map (·.1)) (ts.map (·.1)),none,w.heap.size,D6 _⟩ (g.pass (Z2 g w (bs.map (·.1)) (ts.map (·.1))) (bs.map (·.1)) (ts.map (·.1))) ⟨n,IU 0 (args.map SV.sh),Hl bs,Jo ts⟩ { tmps:=vals.toArray++Array.replicate (m-vals.toArray.size) undef,defers:=[] } w:=by
 subst hn
 refine { evo:=Evo.refl _ _,base:=D6 _,f0:=fun b o h=>.inr (.inl h),lim:=hlim,size:=by simp;omega,defers:=Dfr.nil _ _ _,slots:=fun i=>?_,boxes:=fun i cs hi hlt=>?_,maps:=fun i ms hi hge=>?_,blk:=fun i b hi=>?_,dom:=fun i b hi=>?_,inj:=fun i j b hi hj=>?_,toks:=fun t T hT=>?_,tf0:=fun t T b o hT hb=>?_,telt:=fun t T hT=>?_,tdis:=fun t t' T T' b h1 h2 h3 h4=>?_,tdom:=fun t T hT=>?_,tlen:=fun t n ht=>?_,glob:=h.gok.rep (DA g w _ _),gown:=fun q cs hq ho=>h.not_own hq (Lf ho),ghp:=fun q cs hq=>(h.gok q cs hq).2 }
 . unfold PS.get
   simp only[KX,D4,if_true,Nat.sub_zero,B5]
   cases hx:args[i]? with
   | none=>trivial
   | some x=>
    have hlt:i<vals.length:=by rw[hvl];exact(A6.1 hx).1
    have h1:=hv i _ x (A4 hlt) hx
    have h2:(vals.toArray++Array.replicate (m-vals.toArray.size) undef).getD i undef=vals[i]:=by
     simp[Array.getD,hlt]
     omega
    simp only[Option.map_some]
    rw[h2]
    exact EN h1 (ha x (B2 hx))
 . have hi':F8 (Hl bs) i=some cs:=hi
   rw[Bq]at hi'
   split at hi'
   . rename_i hge
     rw[B7]at hi'
     obtain⟨cs0,h1,rfl⟩:=hi'
     obtain⟨b,xs,T,h2,h3,h4,h5,h6⟩:=h.boxes _ cs0 (hfit.b _ _ h1) (by omega)
     have hmem:=U9 h1
     refine⟨b,xs,T,?_,h3,by simpa using h4,fun j c hj=>?_,fun j u hj hu=>h6 j u (by simpa using hj) hu⟩
     . have:=Aq (g:=g) (F:=Z2 g w (bs.map (·.1)) (ts.map (·.1))) (ts:=ts.map (·.1)) hmem
       rw[Nat.sub_add_cancel hge]at this
       rw[this];exact h2
     . rw[B5,B7]at hj
       obtain⟨c0,h7,rfl⟩:=hj
       obtain⟨x,h8,h9⟩:=h5 j c0 h7
       exact⟨x,h8,EN h9 ((hfit.ok _ (J1 h1)).2 c0 (B2 h7))⟩
   . cases hi'
 . have hi':F8 (Hl bs) i=some [.mc ms]:=hi
   rw[Bq,C2 (by omega),B7]at hi'
   obtain⟨cs0,h1,h2⟩:=hi'
   have h3:cs0=[.mc ms]:=by
    rw[List.map_eq_singleton_iff]at h2
    obtain⟨x,rfl,h2⟩:=h2
    cases x<;>cases h2
    rfl
   subst h3
   have hok:=B0 (hfit.ok _ (J1 h1)).1
   simp only at hok
   obtain⟨b,es,c,h4,h5,h6⟩:=h.maps _ ms (hfit.b _ _ h1) (by omega)
   refine⟨b,es,c,?_,h5,h6.mono (DA g w _ _)⟩
   have:=Aq (g:=g) (F:=Z2 g w (bs.map (·.1)) (ts.map (·.1))) (ts:=ts.map (·.1)) (U9 h1)
   rw[Nat.sub_add_cancel (by omega)]at this
   rw[this];exact h4
 . obtain⟨h1,h2,h3⟩:=Q8 hi
   exact⟨fun o=>.inr (.inr (.inl ⟨_,h2,h3⟩)),(h.blk _ b h3).2⟩
 . obtain⟨h1,h2,h3⟩:=Q8 hi
   show F8 (Hl bs) i≠none
   obtain⟨x,hx⟩:=K5 h2
   rw[Bq,C2 h1,hx]
   simp
 . obtain⟨h1,h2,h3⟩:=Q8 hi
   obtain⟨h4,h5,h6⟩:=Q8 hj
   have:=h.inj _ _ b h3 h6
   omega
 . obtain⟨h1,h2,h3⟩:=O4 hT
   obtain⟨h4,h5⟩:=h.toks _ T h3
   exact⟨h4,fun i b hb hi=>h5 _ b hb (Q8 hi).2.2⟩
 . obtain⟨h1,h2,h3⟩:=O4 hT
   exact .inr (.inr (.inr ⟨_,h2,T,h3,hb⟩))
 . obtain⟨h1,h2,h3⟩:=O4 hT
   obtain⟨x,hx⟩:=K5 h2
   have:=(FR (hfit.okt _ (J1 hx))).2
   rw[Nat.sub_add_cancel h1]at this
   rw[h.telt _ T h3,this]
 . obtain⟨q1,q2,q3⟩:=O4 h1
   obtain⟨q4,q5,q6⟩:=O4 h2
   have:=h.tdis _ _ T T' b q3 q6 h3 h4
   omega
 . obtain⟨h1,h2,h3⟩:=O4 hT
   show F8 (Jo ts) t≠none
   obtain⟨x,hx⟩:=K5 h2
   rw[Dt,C2 h1,hx]
   simp
 . have ht':F8 (Jo ts) t=some n:=ht
   rw[Dt]at ht'
   split at ht'
   . rename_i hge
     obtain⟨T,A,c,h1,h2⟩:=h.tlen _ n (hfit.t _ _ ht')
     refine⟨T,A,c,?_,h2⟩
     have:=Ij (g:=g) (F:=Z2 g w (bs.map (·.1)) (ts.map (·.1))) (is:=bs.map (·.1)) (U9 ht')
     rw[Nat.sub_add_cancel hge]at this
     rw[this];exact h1
   . cases ht'
theorem Ch (l l':List (Nat×α)) (i:Nat):F8 (l++l') i=(F8 l i).or (F8 l' i):=by
 induction l with
 | nil=>rfl
 | cons p l ih=>
  obtain⟨j,x⟩:=p
  rw[List.cons_append,I3,I3,ih]
  by_cases e:i=j<;>simp[e]
theorem Ej {l:List (Nat×α)} (h:i ∉ l.map (·.1)):F8 l i=none:=by
 cases e:F8 l i with
 | none=>rfl
 | some x=>exact F9 (U9 e) h
theorem Jn {G:Gh} {is ts:List Nat} {x:SV} (kp:Kp (Fx g') w' (Fx G) w') (hb:∀ i∈is,g'.bl (i+10000)=G.bl i) (ht:∀ t∈ts,g'.tk (t+10000)=G.tk t) (h:SRep g' w' v x.sh) (hf:x.fit is ts=true):SRep G w' v x:=by
 simp only[SV.fit,C6,E7,List.contains_iff_mem]at hf
 have hb:∀ i∈x.ids,∀ b,g'.bl (i+10000)=some b->G.bl i=some b:=fun i hi b h1=>by rw[<-hb i (hf.1 i hi)];exact h1
 cases x with
 | any=>trivial
 | d x=>exact DRep.mono h kp
 | ts t k es=>
  refine⟨DRep.mono h.1 kp,fun T hT=>h.2 T ?_⟩
  rw[ht t (by simpa using hf.2)]
  exact hT
 | bx i off=>obtain⟨b,h1,h2⟩:=h;exact⟨b,hb i (by simp[SV.ids]) b h1,h2⟩
 | rd cs=>
  obtain⟨b,off,f,h1,h2⟩:=h
  refine⟨b,off,f,h1,fun j x hj=>?_⟩
  obtain⟨h3,h4,h5',h5⟩:=h2 j x hj
  obtain⟨h6,h7⟩:=kp.cell h4 h3
  exact⟨h7,h6,h5',h5.mono kp⟩
 | tup xs=>
  obtain⟨vs,h1,h2,h3⟩:=h
  exact⟨vs,h1,h2,fun i y x hy hx=>(h3 i y x hy hx).mono kp⟩
 | fn f caps=>
  obtain⟨bs,h1,h2,h3⟩:=h
  refine⟨bs,h1,by simpa using h2,fun i b c hbi hc=>?_⟩
  exact hb c (by simpa[SV.ids]using B2 hc) b (h3 i b (c+10000) hbi (by rw[B5,hc];rfl))
 | fb f i off=>obtain⟨b,h1,h2⟩:=h;exact⟨b,hb i (by simp[SV.ids]) b h1,h2⟩
 | bs i n E k=>obtain⟨b,c,h1,h2⟩:=h;exact⟨b,c,hb i (by simp[SV.ids]) b h1,h2⟩
 | mb i=>obtain⟨b,h1,h2⟩:=h;exact⟨b,hb i (by simp[SV.ids]) b h1,h2⟩
 | tx i T n=>obtain⟨b,h1,h2⟩:=h;exact⟨b,hb i (by simp[SV.ids]) b h1,h2⟩
 | mc ms=>exact h
def PS.puts (st:PS) (bn:List (Nat×List SV)) (tn:List (Nat×Nat)):PS:=⟨st.n,st.s,bn++st.b,tn++st.t⟩
theorem Rep.back (h:Rep B w0 g st a w) {ts:List (Nat×Nat)} (hfit:Fit st bs ts) {st':PS} {a':Act} 
 (hc:Rep w.heap.size ⟨w,g.pass (Z2 g w (bs.map (·.1)) (ts.map (·.1))) (bs.map (·.1)) (ts.map (·.1)),none,w.heap.size,D6 _⟩ g' st' a' w') (bn:List (Nat×List SV)) (tn:List (Nat×Nat)) (hbk:bn.map (·.1)=bs.map (·.1)) (htk:tn.map (·.1)=ts.map (·.1))
 (hbn:∀ i cs,F8 bn i=some cs->st'.bget (i+10000)=some (cs.map SV.sh)) (htn:∀ t n,F8 tn t=some n->st'.tget (t+10000)=some n) (hok:∀ p∈bn,∀ c∈p.2,c.fit (bs.map (·.1)) (ts.map (·.1))=true) (hmc:∀ i cs,F8 bn i=some cs->490000<=i->∃ ms,cs=[.mc ms]):
 ∃ G,Evo g w G w'∧Kp (Fx g') w' (Fx G) w'∧Rep B w0 G (st.puts bn tn) a w':=by
 obtain⟨is,his⟩:=H1 (bs.map (·.1))
 obtain⟨tl,htl⟩:=H1 (ts.map (·.1))
 rw[<-his]at hbk hok hc
 rw[<-htl]at htk hok hc
 have hev:=hc.evo
 simp only at hev
 have hokB:∀ i∈is,okB i=true:=fun i hi=>by
  rw[his]at hi
  obtain⟨cs,hcs⟩:=K5 hi
  exact(hfit.ok _ (J1 hcs)).1
 have hokT:∀ t∈tl,okT t=true:=fun t ht=>by
  rw[htl]at ht
  obtain⟨n,hn⟩:=K5 ht
  exact hfit.okt (t,n) (J1 hn)
 have hbl:∀ i∈is,g'.bl (i+10000)=g.bl i:=fun i hi=>by
  obtain⟨cs,hcs⟩:=K5 (l:=bn) (i:=i) (by rw[hbk];exact hi)
  have h1:=hbn i cs hcs
  have h2:∃ b,g'.bl (i+10000)=some b:=by
   by_cases hlt:i+10000<500000
   . obtain⟨b,xs,T,q1,-⟩:=hc.boxes _ _ h1 hlt
     exact⟨b,q1⟩
   . obtain⟨ms,hms⟩:=hmc i cs hcs (by omega)
     rw[hms]at h1
     obtain⟨b,es,c,q1,-⟩:=hc.maps _ ms h1 (by omega)
     exact⟨b,q1⟩
  obtain⟨b,hb⟩:=h2
  rcases hev.bl _ _ hb with h3|h3
  . exact hb.trans ((Aq hi).symm.trans h3).symm
  . exact F9 h3.1 (FS (hokB i hi))
 have hOwn:∀ b,P7 (g.pass (Z2 g w is tl) is tl) w b->P7 g w b:=fun b hb=>by
  rcases hb with h1|⟨i,h1⟩|⟨t,T,h1,h2⟩
  . exact .inl h1
  . exact .inr (.inl ⟨_,(Q8 h1).2.2⟩)
  . exact .inr (.inr ⟨_,T,(O4 h1).2.2,h2⟩)
 have hfar:∀ i b,i ∉ is->g.bl i=some b->¬ P7 (g.pass (Z2 g w is tl) is tl) w b:=fun i b hi hb hO=>by
  rcases hO with h1|⟨j,h1⟩|⟨t,T,h1,h2⟩
  . have:=(h.blk i b hb).2;omega
  . obtain⟨-,q2,q3⟩:=Q8 h1
    exact hi (h.inj i _ b hb q3 ▸ q2)
  . exact(h.toks _ T (O4 h1).2.2).2 i b h2 hb
 have htfar:∀ t T b,t ∉ tl->g.tk t=some T->T.v.ownBlock=some b->¬ P7 (g.pass (Z2 g w is tl) is tl) w b:=fun t T b ht hT hb hO=>by
  obtain⟨⟨n,xs,q0⟩,q0'⟩:=h.toks t T hT
  rcases hO with h1|⟨j,h1⟩|⟨t',T',h1,h2⟩
  . have:=(q0.lt b hb).2;omega
  . exact q0' _ b hb (Q8 h1).2.2
  . obtain⟨-,q2,q3⟩:=O4 h1
    exact ht (h.tdis t _ T T' b hT q3 hb h2 ▸ q2)
 obtain⟨G,hG⟩:∃ G:Gh,G=⟨g.f0,g.bl,fun t=>if t∈tl then g'.tk (t+10000)else g.tk t⟩:=⟨_,rfl⟩
 have hGf:G.f0=g.f0:=by rw[hG]
 have hGb:G.bl=g.bl:=by rw[hG]
 have hGt:∀ t∈tl,g'.tk (t+10000)=G.tk t:=fun t ht=>by rw[hG];simp[ht]
 have hGn:∀ t,t ∉ tl->G.tk t=g.tk t:=fun t ht=>by rw[hG];simp[ht]
 have hle:∀ t T',t∈tl->G.tk t=some T'->∃ T,g.tk t=some T∧HQ T T':=fun t T' ht hT'=>by
  rw[<-hGt t ht]at hT'
  rcases hev.tk _ _ hT' with⟨T,q1,q2⟩|q1
  . exact⟨T,by rw[<-Ij ht];exact q1,q2⟩
  . exact F9 q1 (FR (hokT t ht)).1
 have kp:Kp (Fx g') w' (Fx G) w':=Kp.same fun b o hf=>by
  have hF:Z2 g w is tl b o:=by have:=hf.1;rw[hev.f0]at this;exact this
  refine⟨?_,fun i hi=>?_,fun t T n c hT hv=>?_⟩
  . rw[hGf]
    rcases hF with q|q|⟨i,q1,q2⟩|⟨t,q1,T,q2,q3⟩
    . exact q.1
    . exact h.f0 b o (E3 h.base q)
    . exact(h.blk i b q2).1 o
    . exact h.tf0 t T b o q2 q3
  . rw[hGb]at hi
    by_cases hm:i∈is
    . exact hf.2.1 _ (by rw[hbl i hm];exact hi)
    . rcases hF with q|q|⟨j,q1,q2⟩|⟨t,q1,T,q2,q3⟩
      . exact q.2.1 i hi
      . have:=(h.blk i b hi).2;omega
      . exact hm (h.inj i j b hi q2 ▸ q1)
      . exact(h.toks t T q2).2 i b q3 hi
  . by_cases hm:t∈tl
    . rw[<-hGt t hm]at hT;exact hf.2.2 _ T n c hT hv
    . rw[hGn t hm]at hT
      have hb:T.v.ownBlock=some b:=by rw[hv];rfl
      rcases hF with q|q|⟨j,q1,q2⟩|⟨t',q1,T',q2,q3⟩
      . exact q.2.2 t T n c hT hv
      . obtain⟨⟨n',xs,q0⟩,-⟩:=h.toks t T hT
        have:=(q0.lt b hb).2;omega
      . exact F9 q2 ((h.toks t T hT).2 j b hb)
      . exact F9 (h.tdis t t' T T' b hT q2 hb q3 ▸ q1) hm
 have kp0:=(DA g w is tl).trans hev.fx
 have hsize:=hev.bel.size
 have ev:Evo g w G w':=by
  refine⟨hev.bel,hGf,kp0.trans kp,fun b hb=>hev.heap b fun hO=>hb (hOwn b hO),fun i b hi=>.inl (by rw[hGb]at hi;exact hi),fun t T' hT'=>?_,fun t T' b hT' hb=>?_,fun i b _ hi _=>?_⟩
  . by_cases hm:t∈tl
    . exact .inl (hle t T' hm hT')
    . rw[hGn t hm]at hT';exact .inl ⟨T',hT',.inl O⟩
  . by_cases hm:t∈tl
    . rw[<-hGt t hm]at hT'
      exact hOwn b (hev.tb _ T' b hT' hb)
    . rw[hGn t hm]at hT';exact .inr (.inr ⟨t,T',hT',hb⟩)
  . by_cases hm:i∈is
    . exact hev.sh (i+10000) b (FS (hokB i hm)) (by rw[Aq hm];exact hi) (by rw[hbl i hm];exact hi)
    . exact G5 (hev.heap b (hfar i b hm hi))
 have e:Ext g w G w':=by
  refine⟨ev.fx,fun i b hi=>by rw[hGb];exact hi,fun t T' hT'=>?_,fun i b hi=>?_⟩
  . by_cases hm:t∈tl
    . exact hle t T' hm hT'
    . rw[hGn t hm]at hT';exact⟨T',hT',.inl O⟩
  . by_cases hm:i∈is
    . exact hev.sh (i+10000) b (FS (hokB i hm)) (by rw[Aq hm];exact hi) (by rw[hbl i hm];exact hi)
    . exact G5 (hev.heap b (hfar i b hm hi))
 have hbget:∀ i,(st.puts bn tn).bget i=if i∈is then F8 bn i else st.bget i:=fun i=>by
  show F8 (bn++st.b) i=_
  rw[Ch]
  by_cases hm:i∈is
  . obtain⟨x,hx⟩:=K5 (l:=bn) (i:=i) (by rw[hbk];exact hm)
    rw[C2 hm,hx];rfl
  . rw[B8 hm,Ej (by rw[hbk];exact hm)];rfl
 have htget:∀ t,(st.puts bn tn).tget t=if t∈tl then F8 tn t else st.tget t:=fun t=>by
  show F8 (tn++st.t) t=_
  rw[Ch]
  by_cases hm:t∈tl
  . obtain⟨x,hx⟩:=K5 (l:=tn) (i:=t) (by rw[htk];exact hm)
    rw[C2 hm,hx];rfl
  . rw[B8 hm,Ej (by rw[htk];exact hm)];rfl
 have hback:∀ v x,SRep g' w' v x.sh->x.fit is tl=true->SRep G w' v x:=fun v x hx hf=>Jn kp (fun i hi=>by rw[hGb];exact hbl i hi) hGt hx hf
 refine⟨G,ev,kp,{ evo:=h.evo.trans ev,base:=E3 h.base hsize,f0:=by rw[hGf];exact h.f0,lim:=h.lim,size:=h.size,defers:=h.defers.evo ev,slots:=fun i=>(h.slots i).ext e,glob:=fun q cs hq=>(h.glob q cs hq).ext e,gown:=h.gown,ghp:=h.ghp,boxes:=fun i cs hi hlt=>?_,maps:=fun i ms hi hge=>?_,blk:=fun i b hi=>?_,dom:=fun i b hi=>?_,inj:=by rw[hGb];exact h.inj,toks:=fun t T hT=>?_,tf0:=fun t T b o hT hb=>?_,telt:=fun t T hT=>?_,tdis:=fun t t' T T' b q1 q2 q3 q4=>?_,tdom:=fun t T hT=>?_,tlen:=fun t n ht=>?_ }⟩
 . rw[hbget]at hi
   by_cases hm:i∈is
   . rw[C2 hm]at hi
     have hok':=B0 (hokB i hm)
     obtain⟨b,xs,T,q1,q2,q3,q4,q5⟩:=hc.boxes _ _ (hbn i cs hi) (by omega)
     refine⟨b,xs,T,by rw[hGb,<-hbl i hm];exact q1,q2,by simpa using q3,fun j c hj=>?_,fun j u hj hu=>q5 j u (by simpa using hj) hu⟩
     obtain⟨x,q6,q7⟩:=q4 j c.sh (by rw[B5,hj];rfl)
     exact⟨x,q6,hback _ _ q7 (hok _ (J1 hi) c (B2 hj))⟩
   . rw[B8 hm]at hi
     obtain⟨b,xs,T,q1,q2,q3,q4,q5⟩:=h.boxes i cs hi hlt
     refine⟨b,xs,T,by rw[hGb];exact q1,(hev.heap b (hfar i b hm q1)).trans q2,q3,fun j c hj=>?_,q5⟩
     obtain⟨x,q6,q7⟩:=q4 j c hj
     exact⟨x,q6,q7.ext e⟩
 . rw[hbget]at hi
   by_cases hm:i∈is
   . rw[C2 hm]at hi
     obtain⟨b,es,c,q1,q2,q3⟩:=hc.maps (i+10000) ms (hbn i _ hi) (by omega)
     exact⟨b,es,c,by rw[hGb,<-hbl i hm];exact q1,q2,q3.mono kp⟩
   . rw[B8 hm]at hi
     obtain⟨b,es,c,q1,q2,q3⟩:=h.maps i ms hi hge
     exact⟨b,es,c,by rw[hGb];exact q1,(hev.heap b (hfar i b hm q1)).trans q2,q3.mono e.fx⟩
 . rw[hGb]at hi
   rw[hGf]
   exact⟨(h.blk i b hi).1,G2 (h.blk i b hi).2 hsize⟩
 . rw[hGb]at hi
   rw[hbget]
   by_cases hm:i∈is
   . rw[C2 hm]
     obtain⟨x,hx⟩:=K5 (l:=bn) (i:=i) (by rw[hbk];exact hm)
     rw[hx];simp
   . rw[B8 hm];exact h.dom i b hi
 . by_cases hm:t∈tl
   . rw[<-hGt t hm]at hT
     obtain⟨q1,q2⟩:=hc.toks _ T hT
     refine⟨q1,fun i b hb hi=>?_⟩
     rw[hGb]at hi
     by_cases hm':i∈is
     . exact q2 _ b hb (by rw[hbl i hm'];exact hi)
     . exact hfar i b hm' hi (hev.tb _ T b hT hb)
   . rw[hGn t hm]at hT
     obtain⟨⟨n,xs,q1⟩,q2⟩:=h.toks t T hT
     refine⟨⟨n,xs,H8 q1 fun b hb=>hev.heap b (htfar t T b hm hT hb)⟩,fun i b hb hi=>q2 i b hb (by rw[hGb]at hi;exact hi)⟩
 . rw[hGf]
   by_cases hm:t∈tl
   . rw[<-hGt t hm]at hT
     rcases hOwn b (hev.tb _ T b hT hb)with q|⟨i,q⟩|⟨t',T',q1,q2⟩
     . exact h.f0 b o (E3 h.base q)
     . exact(h.blk i b q).1 o
     . exact h.tf0 t' T' b o q1 q2
   . rw[hGn t hm]at hT;exact h.tf0 t T b o hT hb
 . by_cases hm:t∈tl
   . rw[<-hGt t hm]at hT
     rw[hc.telt _ T hT,(FR (hokT t hm)).2]
   . rw[hGn t hm]at hT;exact h.telt t T hT
 . by_cases hm:t∈tl<;>by_cases hm':t'∈tl
   . rw[<-hGt t hm]at q1
     rw[<-hGt t' hm']at q2
     have:=hc.tdis _ _ T T' b q1 q2 q3 q4
     omega
   . rw[<-hGt t hm]at q1
     rw[hGn t' hm']at q2
     exact F9 (hev.tb _ T b q1 q3) (htfar t' T' b hm' q2 q4)
   . rw[hGn t hm]at q1
     rw[<-hGt t' hm']at q2
     exact F9 (hev.tb _ T' b q2 q4) (htfar t T b hm q1 q3)
   . rw[hGn t hm]at q1
     rw[hGn t' hm']at q2
     exact h.tdis t t' T T' b q1 q2 q3 q4
 . rw[htget]
   by_cases hm:t∈tl
   . rw[C2 hm]
     obtain⟨x,hx⟩:=K5 (l:=tn) (i:=t) (by rw[htk];exact hm)
     rw[hx];simp
   . rw[B8 hm]
     rw[hGn t hm]at hT
     exact h.tdom t T hT
 . rw[htget]at ht
   by_cases hm:t∈tl
   . rw[C2 hm]at ht
     obtain⟨T,A,c,q1,q2⟩:=hc.tlen _ n (htn t n ht)
     exact⟨T,A,c,by rw[<-hGt t hm];exact q1,q2⟩
   . rw[B8 hm]at ht
     obtain⟨T,A,c,q1,q2⟩:=h.tlen t n ht
     exact⟨T,A,c,by rw[hGn t hm];exact q1,q2⟩
def Fe (st:PS):List (Nat×List SV)->Prop
 | []=>True
 | (i,cs)::l=>st.bget i=some cs∧Fe st l
def Fd (st:PS):List (Nat×Nat)->Prop
 | []=>True
 | (t,n)::l=>st.tget t=some n∧Fd st l
theorem Gj {l:List (Nat×List SV)} (h:Fe st l) {cs:List SV} (hi:F8 l i=some cs):st.bget i=some cs:=by
 have:=J1 hi
 clear hi
 induction l with
 | nil=>cases this
 | cons p l ih=>
  rcases List.mem_cons.1 this with e|e
  . rw[<-e]at h;exact h.1
  . exact ih h.2 e
theorem Gi {l:List (Nat×Nat)} (h:Fd st l) (ht:F8 l t=some n):st.tget t=some n:=by
 have:=J1 ht
 clear ht
 induction l with
 | nil=>cases this
 | cons p l ih=>
  rcases List.mem_cons.1 this with e|e
  . rw[<-e]at h;exact h.1
  . exact ih h.2 e
def isMc:List SV->Bool
 | [.mc _]=>true
 | _=>false
def fitX (args:List SV) (bs:List (Nat×List SV)) (ts:List (Nat×Nat)) (bn:List (Nat×List SV)):Bool:=
 bs.all (fun p=>okB p.1&&p.2.all (SV.fit (bs.map (·.1)) (ts.map (·.1))))&&ts.all (fun p=>okT p.1)&&args.all (SV.fit (bs.map (·.1)) (ts.map (·.1)))&&bn.all fun p=>p.2.all (SV.fit (bs.map (·.1)) (ts.map (·.1)))&&(Nat.blt p.1 490000||isMc p.2)
def QX (P:Program) (rs:List ResultVar) (r:SV) (bn:List (Nat×List SV)) (tn:List (Nat×Nat)):Exit->PS->Prop
 | .normal,st|.ret,st=>(∃ xs,ResV P st rs xs∧r=P2 xs)∧Fe st (Hl bn)∧Fd st (Jo tn)
 | _,_=>False
theorem q_x (xs:List DV) (h:ResV P st rs xs) (hr:r=P2 xs) (hb:Fe st (Hl bn)) (ht:Fd st (Jo tn)):QX P rs r bn tn .ret st:=⟨⟨xs,h,hr⟩,hb,ht⟩
theorem q_xe (xs:List DV) (h:ResV P st rs xs) (hr:r=P2 xs) (hb:Fe st (Hl bn)) (ht:Fd st (Jo tn)):QX P rs r bn tn .normal st:=⟨⟨xs,h,hr⟩,hb,ht⟩
def Md (P:Program) (f:FuncId) (args:List SV) (bs:List (Nat×List SV)) (ts:List (Nat×Nat)) (r:SV) (bn:List (Nat×List SV)) (tn:List (Nat×Nat)):Prop:=
 ∃ fn c rs n,P.funcs[f]? = some fn∧fn.body=some c∧fn.ntmps=n∧fn.results=rs.toArray∧args.length<=n∧n<=10000 ∧ ∀ B w0,PW P B w0 c (QX P rs r bn tn) ⟨n,IU 0 (args.map SV.sh),Hl bs,Jo ts⟩
theorem Q3 {f:FuncId} {fn:Func} {args:List SV} {ts:List (Nat×Nat)} (hf:P.funcs[f]? = some fn) (hb:fn.body=some c) (hn:fn.ntmps=n) (hrs:fn.results=rs.toArray) (hl:args.length<=n)
 (h:∀ B w0,PW P B w0 c (QX P rs r bn tn) ⟨n,IU 0 (args.map SV.sh),Hl bs,Jo ts⟩) (hlim:Nat.ble n 10000=true:=by rfl):Md P f args bs ts r bn tn:=⟨fn,c,rs,n,hf,hb,hn,hrs,hl,B0 hlim,h⟩
theorem callX {f:FuncId} (hr:Rep B w0 g st a w) {args:List SV} {ts:List (Nat×Nat)} (hc:Md P f args bs ts r bn tn) (hbs:Fe st bs) (hts:Fd st ts) (hbk:bn.map (·.1)=bs.map (·.1)) (htk:tn.map (·.1)=ts.map (·.1)) (hfit:fitX args bs ts bn=true)
 {vals:List Value} (hvl:vals.length=args.length) (hv:∀ (i:Nat) v x,vals[i]? = some v->args[i]? = some x->SRep g w v x):
 Calls P f vals.toArray w fun e w'=>∃ v G,e=.returned v∧SRep G w' v r∧Rep B w0 G (st.puts bn tn) a w':=by
 obtain⟨fn,c,rs,n,hf,hb,hn,hrs,hl,hlim,hpw⟩:=hc
 unfold fitX at hfit
 simp only[C6,E7]at hfit
 obtain⟨⟨⟨f1,f2⟩,f3⟩,f4⟩:=hfit
 have hF:Fit st bs ts:=⟨fun i cs hi=>Gj hbs hi,fun t n ht=>Gi hts ht,fun p hp=>f1 p hp,fun p hp=>f2 p hp⟩
 refine T4 hf hb ?_
 have hrep:=hr.pass hF (vals:=vals) (args:=args) hn hl hlim hvl hv f3
 refine wpIn_mono (hpw _ _ _ _ _ hrep) fun e a' w' ⟨g',st',h1,h2⟩=>?_
 have fin:((∃ xs,ResV P st' rs xs∧r=P2 xs)∧Fe st' (Hl bn)∧Fd st' (Jo tn))->LeavesInM Fence.wide 0 P fn a'.tmps (fun e w'=>∃ v' G,e=.returned v'∧SRep G w' v' r∧Rep B w0 G (st.puts bn tn) a w') a'.defers .returning w':=by
  rintro⟨⟨xs,h3,rfl⟩,h3b,h3t⟩
  refine X7 (st:=st') (D6 _) (fun w' h1=>?_) a'.defers w' h1
  obtain⟨vs,h4,h5,h6⟩:=Ad h1 h3
  have hrun:(results fn a'.tmps).run P w'=.ok (if h:vs.toArray.size=1 then vs.toArray[0]else .tuple vs.toArray) w':=by
   rw[show results fn a'.tmps=(fn.results.mapM (Dy a'.tmps) >>= fun vs=>pure (if h:vs.size=1 then vs[0]else .tuple vs))from rfl,hrs,Array.mapM_eq_mapM_toList]
   simp only[Sem.run_bind,Sem.run_map]
   rw[h4]
   rfl
  obtain⟨G,-,kp,hR⟩:=hr.back hF h1 bn tn hbk htk (fun i cs hi=>Gj h3b (by rw[Bq,C2 (by omega),Nat.add_sub_cancel,hi];rfl)) (fun t n ht=>Gi h3t (by rw[Dt,C2 (by omega),Nat.add_sub_cancel,ht])) (fun p hp=>(f4 p hp).1) (fun i cs hi hge=>by
   have h7:=(f4 _ (J1 hi)).2
   rw[Bool.or_eq_true]at h7
   rcases h7 with h7|h7
   . have:=B0 h7;simp only at this;omega
   . simp only at h7
     unfold isMc at h7
     split at h7
     . rename_i ms;exact⟨ms,O⟩
     . cases h7)
  have h7:∀ (i:Nat) v x,vs[i]? = some v->xs[i]? = some x->DRep (Fx G) w' v x:=fun i v x hv hx=>(h6 i v x hv hx).mono kp
  refine⟨_,hrun,_,G,O,?_,hR⟩
  match vs,xs,h5,h7 with
  | [],[],_,_=>exact⟨[],O,O,fun i y x hy=>by simp at hy⟩
  | [v],[x],_,h7=>exact h7 0 v x O O
  | v::v'::vs,x::x'::xs,h5,h7=>exact⟨v::v'::vs,by simp,h5,h7⟩
 cases e with
 | normal=>exact fin h2
 | ret=>exact fin h2
 | _=>exact h2.elim
section
variable {ops:Array Oper} {rest:List Oper} {ty:TypeId} {pos:String} {af:Array Edge} {gd:Option (Nat×Bool)}
theorem yCx {e:Option Nat} {args:List SV} {tt:List (Nat×Nat)} [hB:HasBody P f] (hc:Md P f args bs tt r bn tn) (ha:l.map st.ev=args) (hbs:Fe st bs) (hts:Fd st tt)
 (h:YR P true ops K rest ((st.puts bn tn).put e r)) (hbk:bn.map (·.1)=bs.map (·.1):=by rfl) (htk:tn.map (·.1)=tt.map (·.1):=by rfl) (hfit:fitX args bs tt bn=true:=by rfl) (hd:G3 ⟨e,.call { callee:=.value (.func f),args:=l.toArray,argTypes:=ts },ty,pos,af,gd⟩ st=true:=by kernel_rfl)
 (hw:st.want ops ⟨e,.call { callee:=.value (.func f),args:=l.toArray,argTypes:=ts },ty,pos,af,gd⟩=some true:=by rfl):
 YR P true ops K (⟨e,.call { callee:=.value (.func f),args:=l.toArray,argTypes:=ts },ty,pos,af,gd⟩::rest) st:=by
 refine .any O fun B w0 Q hQ g a w hr=>?_
 have M3:=callX hr hc hbs hts hbk htk hfit (vals:=l.map a.eval) (by rw[<-ha];simp) (fun i v x hv hx=>by
  rw[<-ha,B5,B7]at hx
  obtain⟨y,h1,rfl⟩:=hx
  rw[B5,h1]at hv
  cases hv
  exact hr.eval y)
 unfold wpList
 rw[C2 (H9 hr hw)]
 refine .inl ?_
 unfold Oper.wp
 rw[Y1]
 show Calls P f _ w _
 refine M3.mono ?_
 rintro e' w' ⟨v,G,rfl,h3,h4⟩
 exact h.sound hQ (h4.put h3 _ (F5 (st:=st) hd))
end
end Go.Proofs.YtdkpmnefoobipaaGreatDoor.Px