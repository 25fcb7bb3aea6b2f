/- The logic of pure states: a region that draws its order comes to what the order of the text comes to. -/
import Derived.Test.YtddfimjiihggmaaGreatDoorB1
set_option maxHeartbeats 16000000
set_option maxRecDepth 20000
namespace Go.Proofs.YtddfimjiihggmaaGreatDoor.Px
open Go.RowKit
/-! the last of the writes that have been done -/
variable {es:List (List DV)} {w:World} {F:Nat->Nat->Prop} {y x:Operand} {ys ds args:List DV} {l:List Operand} {Q:Exit->PS->Prop} {B i T t j e E f n off id bytes E' k':Nat} {w0:Cx} {zs vs xs:List Value} {qs:List (Nat×List DV)} {v u z:Value} {D L:Nat->Bool} {φ:List DV->SV->Prop} {P:Program} {g:Gh} {st st2:PS} {a:Act} {ts:Array TypeId} {ps:List (Nat×Operand)} {kd:IntKind} {o:Oper} {α:Type} {places:List (Nat×Nat)} {K:PS->Prop} {r:SV} {ef:Ef} {listed:Array Bool} {c:Code} {m:Int} {ops:Array Oper} {A:Option Addr} {caps:List Nat} {op:BinOp}
def S2 {α:Type} (L:Nat->Bool):Nat->List (Option α)->Option α
 | _,[]=>none
 | k,u::us=>match S2 L (k+1) us with
  | some v=>some v
  | none=>bif L k then u else none
theorem O0 {L':Nat->Bool} (us:List (Option α)) (k:Nat) (h:∀ j v,us[j]? = some (some v)->L (k+j)=L' (k+j)):S2 L k us=S2 L' k us:=by
 induction us generalizing k with
 | nil=>rfl
 | cons u us ih=>
  simp only[S2]
  rw[ih (k+1) fun j v hj=>by have:=h (j+1) v (by simpa using hj);rw[show k+1+j=k+(j+1)by omega];exact this]
  cases u with
  | none=>cases L k<;>cases L' k<;>rfl
  | some v=>rw[show L k=L' k from h 0 v rfl]
theorem Q8 (us:List (Option α)) (k:Nat) (h:∀ j v,us[j]? = some (some v)->L (k+j)=false):S2 L k us=none:=by
 induction us generalizing k with
 | nil=>rfl
 | cons u us ih=>
  simp only[S2]
  rw[ih (k+1) fun j v hj=>by have:=h (j+1) v (by simpa using hj);rw[show k+1+j=k+(j+1)by omega];exact this]
  cases u with
  | none=>cases L k<;>rfl
  | some v=>rw[show L k=false from h 0 v rfl];rfl
theorem MS (us:List (Option α)) (k:Nat) {v:α} (h:S2 L k us=some v):∃ j,us[j]? = some (some v)∧L (k+j)=true:=by
 induction us generalizing k with
 | nil=>cases h
 | cons u us ih=>
  simp only[S2]at h
  split at h
  . rename_i v' h1
    cases h
    obtain⟨j,h2,h3⟩:=ih (k+1) h1
    exact⟨j+1,by simpa using h2,by rw[show k+(j+1)=k+1+j by omega];exact h3⟩
  . cases hL:L k with
    | false=>rw[hL]at h;cases h
    | true=>rw[hL]at h;exact⟨0,by simpa using h,hL⟩
theorem HO (us:List (Option α)) (k i:Nat) {v:α} (hi:us[i]? = some (some v)) (hL:L (k+i)=true) (h:∀ j u,i<j->us[j]? = some (some u)->L (k+j)=false):S2 L k us=some v:=by
 induction us generalizing k i with
 | nil=>simp at hi
 | cons u us ih=>
  simp only[S2]
  cases i with
  | zero=>
   simp at hi
   subst hi
   rw[Q8 us (k+1) fun j v hj=>by have:=h (j+1) v (by omega) (by simpa using hj);rw[show k+1+j=k+(j+1)by omega];exact this]
   rw[show L k=true from hL]
   rfl
  | succ i=>
   rw[ih (k+1) i (by simpa using hi) (by rw[show k+1+i=k+(i+1)by omega];exact hL) fun j u hj hu=>by
    have:=h (j+1) u (by omega) (by simpa using hu);rw[show k+1+j=k+(j+1)by omega];exact this]
theorem Eo (us:List (Option α)) (k i:Nat) {v:α} (hi:us[i]? = some (some v)) (hL:L (k+i)=true):S2 L k us≠none:=by
 induction us generalizing k i with
 | nil=>simp at hi
 | cons u us ih=>
  simp only[S2]
  cases i with
  | zero=>
   simp at hi
   subst hi
   split
   . simp
   . rw[show L k=true from hL];simp
  | succ i=>
   have:=ih (k+1) i (by simpa using hi) (by rw[show k+1+i=k+(i+1)by omega];exact hL)
   split
   . simp
   . contradiction
abbrev Mu:=List (SV×Ef)
variable {tr:Mu}
def usS (t:Nat):List Oper->Mu->List (Option SV)
 | o::l,(x,_)::tr=>(if o.dst=some t then some x else none)::usS t l tr
 | _,_=>[]
def bOf (e:Nat):Ef->Option (List SV)
 | .box i cs=>if e=i then some cs else none
 | _=>none
def tOf (e:Nat):Ef->Option Nat
 | .tok i n=>if e=i then some n else none
 | _=>none
def Ea (e:Nat):List Oper->Mu->List (Option (List SV))
 | _::l,(_,ef)::tr=>bOf e ef::Ea e l tr
 | _,_=>[]
def Qd (e:Nat):List Oper->Mu->List (Option Nat)
 | _::l,(_,ef)::tr=>tOf e ef::Qd e l tr
 | _,_=>[]
def Q6 (L:Nat->Bool):Nat->List Oper->Mu->PS->PS
 | k,o::l,(x,ef)::tr,st=>Q6 L (k+1) l tr (bif L k then (st.eff ef).put o.dst x else st)
 | _,_,_,st=>st
theorem OB (st:PS) (ef:Ef) (i:Nat):(st.eff ef).get i=st.get i:=by cases ef<;>rfl
theorem NV (st:PS) (d:Option Nat) (x:SV) (t:Nat):(st.put d x).get t=if d=some t then x else st.get t:=by
 cases d with
 | none=>simp[PS.put]
 | some d=>
  rw[Q5]
  by_cases h:t=d
  . simp[h]
  . simp[h,Ne.symm h]
theorem LH (st:PS) (ef:Ef) (e:Nat):(st.eff ef).bget e=(bOf e ef).or (st.bget e):=by
 cases ef with
 | box i cs=>simp only[PS.eff,K7,bOf];by_cases h:e=i<;>simp[h]
 | _=>rfl
theorem LG (st:PS) (ef:Ef) (e:Nat):(st.eff ef).tget e=(tOf e ef).or (st.tget e):=by
 cases ef with
 | tok i n=>simp only[PS.eff,Z2,tOf];by_cases h:e=i<;>simp[h]
 | _=>rfl
theorem AB (L:Nat->Bool) (k:Nat) (l:List Oper) (tr:Mu) (st:PS):(Q6 L k l tr st).n=st.n:=by
 induction l generalizing k tr st with
 | nil=>rfl
 | cons o l ih=>
  cases tr with
  | nil=>rfl
  | cons p tr=>
   obtain⟨x,ef⟩:=p
   rw[Q6,ih]
   cases L k
   . rfl
   . cases ef<;>cases o.dst<;>rfl
theorem U5 (L:Nat->Bool) (k:Nat) (l:List Oper) (tr:Mu) (st:PS) (t:Nat):(Q6 L k l tr st).get t=(S2 L k (usS t l tr)).getD (st.get t):=by
 induction l generalizing k tr st with
 | nil=>rfl
 | cons o l ih=>
  cases tr with
  | nil=>rfl
  | cons p tr=>
   obtain⟨x,ef⟩:=p
   simp only[Q6,usS,S2]
   rw[ih]
   cases h:S2 L (k+1) (usS t l tr) with
   | some v=>rfl
   | none=>
    cases hL:L k
    . simp
    . simp only[cond_true,Option.getD_none,NV,OB]
      by_cases hd:o.dst=some t<;>simp[hd]
theorem P6 (L:Nat->Bool) (k:Nat) (l:List Oper) (tr:Mu) (st:PS) (e:Nat):(Q6 L k l tr st).bget e=(S2 L k (Ea e l tr)).or (st.bget e):=by
 induction l generalizing k tr st with
 | nil=>rfl
 | cons o l ih=>
  cases tr with
  | nil=>rfl
  | cons p tr=>
   obtain⟨x,ef⟩:=p
   simp only[Q6,Ea,S2]
   rw[ih]
   cases h:S2 L (k+1) (Ea e l tr) with
   | some v=>rfl
   | none=>
    cases hL:L k
    . simp
    . simp only[cond_true,Option.none_or,Hl,LH]
theorem U1 (L:Nat->Bool) (k:Nat) (l:List Oper) (tr:Mu) (st:PS) (e:Nat):(Q6 L k l tr st).tget e=(S2 L k (Qd e l tr)).or (st.tget e):=by
 induction l generalizing k tr st with
 | nil=>rfl
 | cons o l ih=>
  cases tr with
  | nil=>rfl
  | cons p tr=>
   obtain⟨x,ef⟩:=p
   simp only[Q6,Qd,S2]
   rw[ih]
   cases h:S2 L (k+1) (Qd e l tr) with
   | some v=>rfl
   | none=>
    cases hL:L k
    . simp
    . simp only[cond_true,Option.none_or,KL,LG]
def Sz (P:Program) (ops:Array Oper) (o:Oper) (st:PS) (x:SV) (ef:Ef):Prop:=
 (M6 P o st x ef∧Dz o st ef=true∧st.want ops o=some true)∨(x=.tup []∧ef=.no∧I1 o st=true∧st.want ops o=some false)
structure TrOk (P:Program) (l:List Oper) (tr:Mu) (st:PS):Prop where
 step:∀ (i:Nat) o x ef,l[i]? = some o->tr[i]? = some (x,ef)->Sz P l.toArray o (Q6 (fun k=>Nat.blt k i) 0 l tr st) x ef
theorem Qo (l:List Oper) (tr:Mu) (k i:Nat) (hk:i<=k) (st:PS):Q6 (fun k=>Nat.blt k i) k l tr st=st:=by
 induction l generalizing tr k with
 | nil=>rfl
 | cons o l ih=>
  cases tr with
  | nil=>rfl
  | cons p tr=>
   obtain⟨x,ef⟩:=p
   have:Nat.blt k i=false:=by
    rw[<-Bool.not_eq_true];intro e;have:=C0 e;omega
   rw[Q6]
   simp only[this,cond_false]
   exact ih tr (k+1) (by omega)
theorem YR.trace {l:List Oper} (h:YR P false ops K l st):∀ k,∃ tr:Mu,tr.length=l.length ∧
 (∀ (i:Nat) o x ef,l[i]? = some o->tr[i]? = some (x,ef)->Sz P ops o (Q6 (fun j=>Nat.blt j (k+i)) k l tr st) x ef)∧K (Q6 (fun _=>true) k l tr st):=by
 induction h with
 | nil h=>exact fun k=>⟨[],C,fun i o x ef hi=>by simp at hi,h⟩
 | @op o rest st x ef hs hk hw _ ih=>
  intro k
  obtain⟨tr,h1,h2,h3⟩:=ih (k+1)
  refine⟨(x,ef)::tr,by simp[h1],fun i o' x' ef' hi ht=>?_,h3⟩
  cases i with
  | zero=>
   simp at hi ht
   obtain⟨rfl,rfl⟩:=ht
   subst hi
   rw[Qo _ _ _ _ (by omega)]
   exact .inl ⟨hs,hk,hw⟩
  | succ i=>
   have:=h2 i o' x' ef' (by simpa using hi) (by simpa using ht)
   have hb:Nat.blt k (k+(i+1))=true:=Nat.ble_eq_true_of_le (by omega)
   rw[Q6]
   simp only[hb,cond_true]
   rw[show k+(i+1)=k+1+i by omega]
   exact this
 | @skip o rest st hd hw _ ih=>
  intro k
  obtain⟨tr,h1,h2,h3⟩:=ih (k+1)
  refine⟨(.tup [],.no)::tr,by simp[h1],fun i o' x' ef' hi ht=>?_,h3⟩
  cases i with
  | zero=>
   simp at hi ht
   obtain⟨rfl,rfl⟩:=ht
   subst hi
   rw[Qo _ _ _ _ (by omega)]
   exact .inr ⟨rfl,C,hd,hw⟩
  | succ i=>
   have:=h2 i o' x' ef' (by simpa using hi) (by simpa using ht)
   have hb:Nat.blt k (k+(i+1))=true:=Nat.ble_eq_true_of_le (by omega)
   rw[Q6]
   simp only[hb,cond_true]
   rw[show k+(i+1)=k+1+i by omega]
   exact this
 | any hq=>cases hq
def Kd (l:List Oper):Nat->Nat->Nat->Bool
 | 0,_,_=>false
 | n+1,j,i=>match l[i]? with
  | some o=>o.after.toList.any fun e=>Region.binds .any e&&(Nat.beq e.on j||Kd l n j e.on)
  | none=>false
def Fu (l:List Oper) (D:Nat->Bool):Prop:=∀ (i:Nat) o,l[i]? = some o->D i=true->∀ e∈o.after,Region.binds .any e=true->D e.on=true
theorem JR {l:List Oper} (hD:Fu l D) (n:Nat):∀ (j i:Nat),Kd l n j i=true->(∀ o,l[i]? = some o->∀ e∈o.after,Region.binds .any e=true->D e.on=true)->D j=true:=by
 induction n with
 | zero=>intro j i h;cases h
 | succ n ih=>
  intro j i h hi
  simp only[Kd]at h
  split at h
  . rename_i o ho
    rw[List.any_eq_true]at h
    obtain⟨e,he,h1⟩:=h
    rw[D1,Bool.or_eq_true]at h1
    have h2:=hi o ho e (Array.mem_toList_iff.1 he) h1.1
    rcases h1.2 with h3|h3
    . rw[<-F8 h3];exact h2
    . exact ih j e.on h3 fun o' ho' e' he' hb'=>hD e.on o' ho' h2 e' he' hb'
  . cases h
def Dy (l:List Oper) (i j:Nat):Bool:=bif Nat.blt i j then Kd l l.length i j else Kd l l.length j i
theorem Is (h:i<j):Nat.blt i j=true:=Nat.ble_eq_true_of_le h
theorem It (h:¬ i<j):Nat.blt i j=false:=by rw[<-Bool.not_eq_true];intro e;exact h (C0 e)
theorem IW {l:List Oper} (hij:i≠j) (h:Dy l i j=true):Dy l j i=true:=by
 unfold Dy at h ⊢
 rcases Nat.lt_or_gt_of_ne hij with h1|h1
 . rw[Is h1,cond_true]at h
   rw[It (by omega),cond_false]
   exact h
 . rw[It (by omega),cond_false]at h
   rw[Is h1,cond_true]
   exact h
def Ku (o:Op):Bool:=CB o||FJ o
def Nc (l:List Oper) (i j:Nat) (oi oj:Oper):Bool:=
 Nat.beq i j||((!(match oj.dst with|some t=>(oi.looksAt l.toArray).any (Nat.beq t)||(match oi.dst with|some t'=>Nat.beq t t'|none=>false)|none=>false) && !(Ku oi.op&&Ld oj.op))||Dy l i j)
def Aq {α:Type} (f:Nat->α->Bool):Nat->List α->Bool
 | _,[]=>true
 | k,x::l=>f k x&&Aq f (k+1) l
theorem Q9 {f:Nat->α->Bool} {l:List α} {k:Nat} (h:Aq f k l=true) (i:Nat) (x:α) (hi:l[i]? = some x):f (k+i) x=true:=by
 induction l generalizing k i with
 | nil=>simp at hi
 | cons y l ih=>
  simp only[Aq,D1]at h
  cases i with
  | zero=>simp at hi;subst hi;exact h.1
  | succ i=>have:=ih h.2 i (by simpa using hi);rw[show k+(i+1)=k+1+i by omega];exact this
def OC (l:List Oper):Bool:=
 Aq (fun i o=>o.after.toList.all fun e=>!Region.binds .any e||Nat.blt e.on i) 0 l &&
 Aq (fun i oi=>Aq (fun j oj=>Nc l i j oi oj) 0 l) 0 l
def MC (l:List Oper) (i j:Nat) (oi oj:Oper):Bool:=
 Nat.beq i j||((!(match oj.dst with|some t=>(oi.looksAt l.toArray).any (Nat.beq t)||(match oi.dst with|some t'=>Nat.beq t t'|none=>false)|none=>false) && !(FJ oi.op&&Ld oj.op))||Dy l i j)
def Hh (l:List Oper):Bool:=
 Aq (fun i o=>o.after.toList.all fun e=>!Region.binds .any e||Nat.blt e.on i) 0 l &&
 Aq (fun i oi=>Aq (fun j oj=>MC l i j oi oj) 0 l) 0 l
def NL (l:List Oper) (j:Nat) (o:Oper):Bool:=o.op.operands.all fun y=>match y with
 | .tmp t=>Aq (fun k ok=>Nat.blt k j || !(match ok.dst with|some d=>Nat.beq d t|none=>false)) 0 l
 | _=>true
def sepB (l:List Oper) (s:PS):Bool:=Aq (fun i oi=>Aq (fun j oj=>Nat.beq i j || !(CB oi.op&&Ld oj.op)||Dy l i j||(NL l i oi&&NL l j oj&&oi.op.operands.all fun y=>oj.op.operands.all fun z=>(s.ev y).ids.all fun e=>!(s.ev z).ids.any (Nat.beq e))) 0 l) 0 l
structure Sep (l:List Oper) (K:PS->Prop) (s:PS):Prop where
 h:sepB l s=true
 k:K s
theorem Z7 {l:List Oper} (hD:Fu l D) (hij:i≠j) (ho:Dy l i j=true) (hi:D i=false) (hready:∀ o,l[i]? = some o->∀ e∈o.after,Region.binds .any e=true->D e.on=true):D j=Nat.blt j i:=by
 unfold Dy at ho
 rcases Nat.lt_or_gt_of_ne hij with h|h
 . have h1:Nat.blt i j=true:=Nat.ble_eq_true_of_le h
   have h2:Nat.blt j i=false:=by rw[<-Bool.not_eq_true];intro e;have:=C0 e;omega
   rw[h1,cond_true]at ho
   rw[h2,<-Bool.not_eq_true]
   intro hj
   have:=JR hD _ i j ho fun o ho e he hb=>hD j o ho hj e he hb
   rw[hi]at this
   cases this
 . have h1:Nat.blt i j=false:=by rw[<-Bool.not_eq_true];intro e;have:=C0 e;omega
   have h2:Nat.blt j i=true:=Nat.ble_eq_true_of_le h
   rw[h1,cond_false]at ho
   rw[h2]
   exact JR hD _ j i ho hready
theorem CR {l:List Oper} {v:SV} (h:(usS t l tr)[j]? = some (some v)):∃ o ef,l[j]? = some o∧tr[j]? = some (v,ef)∧o.dst=some t:=by
 induction l generalizing tr j with
 | nil=>simp[usS]at h
 | cons o l ih=>
  cases tr with
  | nil=>simp[usS]at h
  | cons p tr=>
   obtain⟨x,ef⟩:=p
   cases j with
   | zero=>
    simp only[usS,List.getElem?_cons_zero,Option.some.injEq]at h
    by_cases hd:o.dst=some t
    . rw[B9 hd]at h;cases h;exact⟨o,ef,C,C,hd⟩
    . rw[B5 hd]at h;cases h
   | succ j=>exact ih (by simpa[usS]using h)
theorem GX {l:List Oper} {v:List SV} (h:(Ea e l tr)[j]? = some (some v)):∃ o x,l[j]? = some o∧tr[j]? = some (x,.box e v):=by
 induction l generalizing tr j with
 | nil=>simp[Ea]at h
 | cons o l ih=>
  cases tr with
  | nil=>simp[Ea]at h
  | cons p tr=>
   obtain⟨x,ef⟩:=p
   cases j with
   | zero=>
    simp only[Ea,List.getElem?_cons_zero,Option.some.injEq]at h
    cases ef with
    | box i cs=>
     simp only[bOf]at h
     by_cases hd:e=i
     . rw[B9 hd]at h;cases h;subst hd;exact⟨o,x,C,C⟩
     . rw[B5 hd]at h;cases h
    | _=>cases h
   | succ j=>exact ih (by simpa[Ea]using h)
theorem GW {l:List Oper} {v:Nat} (h:(Qd e l tr)[j]? = some (some v)):∃ o x,l[j]? = some o∧tr[j]? = some (x,.tok e v):=by
 induction l generalizing tr j with
 | nil=>simp[Qd]at h
 | cons o l ih=>
  cases tr with
  | nil=>simp[Qd]at h
  | cons p tr=>
   obtain⟨x,ef⟩:=p
   cases j with
   | zero=>
    simp only[Qd,List.getElem?_cons_zero,Option.some.injEq]at h
    cases ef with
    | tok i cs=>
     simp only[tOf]at h
     by_cases hd:e=i
     . rw[B9 hd]at h;cases h;subst hd;exact⟨o,x,C,C⟩
     . rw[B5 hd]at h;cases h
    | _=>cases h
   | succ j=>exact ih (by simpa[Qd]using h)
theorem usS_at {l:List Oper} {x:SV} (h1:l[j]? = some o) (h2:tr[j]? = some (x,ef)):(usS t l tr)[j]? = some (if o.dst=some t then some x else none):=by
 induction l generalizing tr j with
 | nil=>simp at h1
 | cons o' l ih=>
  cases tr with
  | nil=>simp at h2
  | cons p tr=>
   obtain⟨x',ef'⟩:=p
   cases j with
   | zero=>simp at h1 h2;subst h1;obtain⟨rfl,rfl⟩:=h2;rfl
   | succ j=>exact ih (by simpa using h1) (by simpa using h2)
theorem usB_at {l:List Oper} {x:SV} (h1:l[j]? = some o) (h2:tr[j]? = some (x,ef)):(Ea t l tr)[j]? = some (bOf t ef):=by
 induction l generalizing tr j with
 | nil=>simp at h1
 | cons o' l ih=>
  cases tr with
  | nil=>simp at h2
  | cons p tr=>
   obtain⟨x',ef'⟩:=p
   cases j with
   | zero=>simp at h1 h2;subst h1;obtain⟨rfl,rfl⟩:=h2;rfl
   | succ j=>exact ih (by simpa using h1) (by simpa using h2)
theorem usT_at {l:List Oper} {x:SV} (h1:l[j]? = some o) (h2:tr[j]? = some (x,ef)):(Qd t l tr)[j]? = some (tOf t ef):=by
 induction l generalizing tr j with
 | nil=>simp at h1
 | cons o' l ih=>
  cases tr with
  | nil=>simp at h2
  | cons p tr=>
   obtain⟨x',ef'⟩:=p
   cases j with
   | zero=>simp at h1 h2;subst h1;obtain⟨rfl,rfl⟩:=h2;rfl
   | succ j=>exact ih (by simpa using h1) (by simpa using h2)
section
variable {l:List Oper}
structure Drawn (l:List Oper) (tr:Mu) (st:PS):Prop where
 edge:∀ (i:Nat) o,l[i]? = some o->∀ e∈o.after,Region.binds .any e=true->e.on<i
 rd:∀ (i j:Nat) oi oj t,l[i]? = some oi->l[j]? = some oj->i≠j->oj.dst=some t->t∈oi.looksAt l.toArray->Dy l i j=true
 ww:∀ (i j:Nat) oi oj t,l[i]? = some oi->l[j]? = some oj->i≠j->oi.dst=some t->oj.dst=some t->Dy l i j=true
 app:∀ (i j:Nat) oi oj,l[i]? = some oi->l[j]? = some oj->i≠j->FJ oi.op=true->Ld oj.op=true->Dy l i j=true
 mem:∀ (i j:Nat) oi oj e,l[i]? = some oi->l[j]? = some oj->i≠j->CB oi.op=true->(∃ y∈oi.op.operands,e∈((Q6 (fun k=>Nat.blt k i) 0 l tr st).ev y).ids)->Ld oj.op=true->(∃ y∈oj.op.operands,e∈((Q6 (fun k=>Nat.blt k j) 0 l tr st).ev y).ids)->Dy l i j=true
theorem Ik (h:Hh l=true) (hm:∀ (i j:Nat) oi oj e,l[i]? = some oi->l[j]? = some oj->i≠j->CB oi.op=true->(∃ y∈oi.op.operands,e∈((Q6 (fun k=>Nat.blt k i) 0 l tr st).ev y).ids)->Ld oj.op=true->(∃ y∈oj.op.operands,e∈((Q6 (fun k=>Nat.blt k j) 0 l tr st).ev y).ids)->Dy l i j=true):Drawn l tr st:=by
 unfold Hh at h
 rw[D1]at h
 obtain⟨h1,h2⟩:=h
 have pr:∀ (i j:Nat) oi oj,l[i]? = some oi->l[j]? = some oj->i≠j->(match oj.dst with|some t=>(oi.looksAt l.toArray).any (Nat.beq t)||(match oi.dst with|some t'=>Nat.beq t t'|none=>false)|none=>false)=true∨(FJ oi.op&&Ld oj.op)=true->Dy l i j=true:=by
  intro i j oi oj hi hj hij hh
  have h4:=Q9 (Q9 h2 i oi hi) j oj hj
  rw[E4,E4]at h4
  unfold MC at h4
  rw[Bool.or_eq_true,Bool.or_eq_true,D1,Bool.not_eq_true',Bool.not_eq_true']at h4
  rcases h4 with h4|⟨h4,h5⟩|h4
  . exact G5 (F8 h4) hij
  . rcases hh with hh|hh
    . rw[hh]at h4;cases h4
    . rw[hh]at h5;cases h5
  . exact h4
 refine⟨fun i o hi e he hb=>?_,fun i j oi oj t hi hj hij hd ht=>pr i j oi oj hi hj hij (.inl ?_),fun i j oi oj t hi hj hij hd hd'=>pr i j oi oj hi hj hij (.inl ?_),fun i j oi oj hi hj hij hw ht=>pr i j oi oj hi hj hij (.inr (by rw[hw,ht];rfl)),hm⟩
 . have h4:=Q9 h1 i o hi
   rw[E5]at h4
   have h5:=h4 e (Array.mem_toList_iff.2 he)
   rw[Bool.or_eq_true,Bool.not_eq_true',hb]at h5
   rcases h5 with h5|h5
   . cases h5
   . rw[E4]at h5;exact C0 h5
 . rw[hd]
   simp only[Bool.or_eq_true]
   left
   rw[List.any_eq_true]
   exact⟨t,ht,Nat.beq_refl t⟩
 . rw[hd,hd']
   simp[Nat.beq_refl]
theorem LW {f:Nat->α->Bool} {l:List α} {k:Nat} (h:∀ i x,l[i]? = some x->f (k+i) x=true):Aq f k l=true:=by
 induction l generalizing k with
 | nil=>rfl
 | cons y l ih=>
  rw[Aq,D1]
  refine⟨h 0 y C,ih fun i x hi=>?_⟩
  rw[show k+1+i=k+(i+1)by omega]
  exact h (i+1) x hi
theorem LK (h:OC l=true):Drawn l tr st:=by
 unfold OC at h
 rw[D1]at h
 have h3:∀ (i j:Nat) oi oj,l[i]? = some oi->l[j]? = some oj->Nc l i j oi oj=true:=fun i j oi oj hi hj=>by
  have:=Q9 (Q9 h.2 i oi hi) j oj hj
  rwa [E4,E4]at this
 refine Ik ?_ fun i j oi oj e hi hj hij hs _ ht _=>?_
 . unfold Hh
   rw[D1]
   refine⟨h.1,LW fun i oi hi=>LW fun j oj hj=>?_⟩
   have h4:=h3 i j oi oj hi hj
   rw[E4,E4]
   unfold Nc Ku at h4
   unfold MC
   cases ha:FJ oi.op
   . rw[ha]at h4
     simp only[Bool.or_eq_true,D1,Bool.false_and,Bool.not_false]at h4 ⊢
     rcases h4 with h4|h4|h4
     . exact .inl h4
     . exact .inr (.inl ⟨h4.1,D3⟩)
     . exact .inr (.inr h4)
   . rw[ha,Bool.or_true]at h4
     exact h4
 . have h4:=h3 i j oi oj hi hj
   unfold Nc Ku at h4
   rw[hs,ht]at h4
   simp only[Bool.true_or,Bool.and_true,Bool.not_true,Bool.and_false,Bool.false_or,Bool.or_eq_true]at h4
   rcases h4 with h4|h4
   . exact G5 (F8 h4) hij
   . exact h4
theorem Qq (h:NL l j o=true) (y:Operand) (hy:y∈o.op.operands):(Q6 (fun _=>true) 0 l tr st).ev y=(Q6 (fun k=>Nat.blt k j) 0 l tr st).ev y:=by
 unfold NL at h
 rw[Array.all_eq_true_iff_forall_mem]at h
 have h1:=h y hy
 cases y with
 | tmp t=>
  show(Q6 (fun _=>true) 0 l tr st).get t=(Q6 (fun k=>Nat.blt k j) 0 l tr st).get t
  rw[U5,U5]
  congr 1
  refine O0 _ _ fun k v hk=>?_
  obtain⟨ok,ef,g1,-,g2⟩:=CR hk
  have h2:=Q9 h1 k ok g1
  simp only[E4,g2,Nat.beq_refl,Bool.not_true,Bool.or_false]at h2
  rw[E4]
  exact h2.symm
 | _=>rfl
theorem Pd (h:Hh l=true) (hs:sepB l (Q6 (fun _=>true) 0 l tr st)=true):Drawn l tr st:=by
 refine Ik h fun i j oi oj e hi hj hij hst ⟨y,hy,hye⟩ hT ⟨z,hz,hze⟩=>?_
 have h4:=Q9 (Q9 hs i oi hi) j oj hj
 simp only[E4,hst,hT,Bool.and_self,Bool.not_true,Bool.or_false,Bool.or_eq_true,D1]at h4
 rcases h4 with(h4|h4)|⟨⟨h4,h5⟩,h6⟩
 . exact G5 (F8 h4) hij
 . exact h4
 . rw[Array.all_eq_true_iff_forall_mem]at h6
   have h7:=h6 y hy
   rw[Array.all_eq_true_iff_forall_mem]at h7
   have h8:=h7 z hz
   rw[Qq h4 y hy,Qq h5 z hz]at h8
   have h9:=E5.1 h8 e hye
   rw[Bool.not_eq_true',<-Bool.not_eq_true,List.any_eq_true]at h9
   exact G5 ⟨e,hze,Nat.beq_refl e⟩ h9
theorem Es {o:Op} (h:Ku o=true):Ld o=true:=by
 unfold Ku CB FJ at h
 cases o<;>first|rfl|simp at h
theorem Z1 (ht:TrOk P l tr st) {cs:List SV} (h:(Ea e l tr)[j]? = some (some cs)):∃ o x,l[j]? = some o∧tr[j]? = some (x,.box e cs)∧((CB o.op=true∧(∃ y∈o.op.operands,e∈((Q6 (fun k=>Nat.blt k j) 0 l tr st).ev y).ids) ∧ ∀ y∈o.op.operands,∀ e'∈((Q6 (fun k=>Nat.blt k j) 0 l tr st).ev y).ids,(Q6 (fun k=>Nat.blt k j) 0 l tr st).bget e'≠none)∨(FI o.op=true∧(∃ d,o.dst=some d∧Am d e=true)∧(Q6 (fun k=>Nat.blt k j) 0 l tr st).bget e=none)):=by
 obtain⟨o,x,h1,h2⟩:=GX h
 refine⟨o,x,h1,h2,?_⟩
 rcases ht.step j o x _ h1 h2 with⟨-,h3,-⟩|⟨-,h3,-⟩
 . unfold Dz at h3
   rw[D1]at h3
   have h4:=h3.1
   have h9:=h3.2
   rw[Bool.or_eq_true,Bool.not_eq_true']at h9
   simp only[Bool.or_eq_true,D1]at h4
   rcases h4 with⟨h4,h5⟩|⟨⟨h4,h5⟩,h6⟩
   . refine .inl ⟨h4,?_,fun y hy e' he' hn=>?_⟩
     . rw[<-Array.any_toList,List.any_eq_true]at h5
       obtain⟨y,hy,h5⟩:=h5
       rw[Array.mem_toList_iff]at hy
       rw[List.any_eq_true]at h5
       obtain⟨e2,he2,h5⟩:=h5
       exact⟨y,hy,by rw[F8 h5];exact he2⟩
     . rcases h9 with h9|h9
       . rw[Es (by simp[Ku,h4])]at h9;cases h9
       . rw[Array.all_eq_true_iff_forall_mem]at h9
         have h10:=E5.1 (h9 y hy) e' he'
         rw[hn]at h10
         cases h10
   . refine .inr ⟨h4,?_,by simpa using h6⟩
     cases hd:o.dst with
     | none=>rw[hd]at h5;cases h5
     | some d=>rw[hd]at h5;exact⟨d,C,h5⟩
 . cases h3
theorem DY (ht:TrOk P l tr st) (h:(Qd e l tr)[j]? = some (some n)):∃ o,l[j]? = some o∧FJ o.op=true:=by
 obtain⟨o,x,h1,h2⟩:=GW h
 refine⟨o,h1,?_⟩
 rcases ht.step j o x _ h1 h2 with⟨-,h3,-⟩|⟨-,h3,-⟩
 . unfold Dz at h3
   rw[D1]at h3
   exact h3.1
 . cases h3
def Made (l:List Oper) (tr:Mu) (st:PS) (D:Nat->Bool):Prop:=∀ (e j:Nat) cs,(Ea e l tr)[j]? = some (some cs)->D j=true->st.bget e≠none ∨ ∃ (i:Nat) (o:Oper) (cs':List SV),l[i]? = some o∧(Ea e l tr)[i]? = some (some cs')∧D i=true∧FI o.op=true∧(∃ d,o.dst=some d∧Am d e=true)∧(Q6 (fun k=>Nat.blt k i) 0 l tr st).bget e=none
theorem Made.of_bget (h:Made l tr st D) (hb:(Q6 D 0 l tr st).bget e≠none):st.bget e≠none ∨ ∃ (i:Nat) (o:Oper) (cs':List SV),l[i]? = some o∧(Ea e l tr)[i]? = some (some cs')∧D i=true∧FI o.op=true∧(∃ d,o.dst=some d∧Am d e=true)∧(Q6 (fun k=>Nat.blt k i) 0 l tr st).bget e=none:=by
 rw[P6]at hb
 cases hx:S2 D 0 (Ea e l tr) with
 | none=>rw[hx]at hb;exact .inl hb
 | some c=>
  obtain⟨j,g1,g2⟩:=MS _ _ hx
  rw[E4]at g2
  exact h e j _ g1 g2
theorem Gz {D':Nat->Bool} (hm:Made l tr st D) (hD':∀ j,D' j=(D j||Nat.beq j i)) (hi:∀ e cs,(Ea e l tr)[i]? = some (some cs)->(Q6 D 0 l tr st).bget e≠none ∨ ∃ o,l[i]? = some o∧FI o.op=true∧(∃ d,o.dst=some d∧Am d e=true)∧(Q6 (fun k=>Nat.blt k i) 0 l tr st).bget e=none):Made l tr st D':=by
 intro e j cs hj hDj
 have up:∀ k,D k=true->D' k=true:=fun k hk=>by rw[hD',hk,Bool.true_or]
 have lift:(st.bget e≠none ∨ ∃ (i:Nat) (o:Oper) (cs':List SV),l[i]? = some o∧(Ea e l tr)[i]? = some (some cs')∧D i=true∧FI o.op=true∧(∃ d,o.dst=some d∧Am d e=true)∧(Q6 (fun k=>Nat.blt k i) 0 l tr st).bget e=none)->(st.bget e≠none ∨ ∃ (i:Nat) (o:Oper) (cs':List SV),l[i]? = some o∧(Ea e l tr)[i]? = some (some cs')∧D' i=true∧FI o.op=true∧(∃ d,o.dst=some d∧Am d e=true)∧(Q6 (fun k=>Nat.blt k i) 0 l tr st).bget e=none):=by
  rintro(h|⟨k,o,cs',h1,h2,h3,h4⟩)
  . exact .inl h
  . exact .inr ⟨k,o,cs',h1,h2,up _ h3,h4⟩
 rw[hD',Bool.or_eq_true]at hDj
 rcases hDj with hDj|hDj
 . exact lift (hm e j cs hj hDj)
 . rw[F8 hDj]at hj
   rcases hi e cs hj with h|⟨o,h1,h2,h3,h4⟩
   . exact lift (hm.of_bget h)
   . exact .inr ⟨i,o,cs,h1,hj,by rw[hD',Nat.beq_refl,Bool.or_true],h2,h3,h4⟩
theorem made_lt (ht:TrOk P l tr st) (i:Nat):Made l tr st (fun k=>Nat.blt k i):=by
 induction i with
 | zero=>intro e j cs _ h;have:=C0 h;omega
 | succ i ih=>
  refine Gz ih (i:=i) (fun j=>?_) fun e cs h=>?_
  . cases h:(Nat.blt j i||Nat.beq j i) with
    | true=>
     rw[Bool.or_eq_true]at h
     rcases h with h|h
     . have:=C0 h;exact Is (by omega)
     . rw[F8 h];exact Is (by omega)
    | false=>
     rw[Bool.or_eq_false_iff]at h
     refine It fun h2=>?_
     rcases Nat.lt_succ_iff_lt_or_eq.1 h2 with h3|h3
     . rw[Is h3]at h;exact G5 h.1 (by simp)
     . rw[h3,Nat.beq_refl]at h;exact G5 h.2 (by simp)
  . obtain⟨o,x,h1,h2,h3⟩:=Z1 ht h
    rcases h3 with⟨-,⟨y,hy,h4⟩,h5⟩|h3
    . exact .inl (h5 y hy e h4)
    . exact .inr ⟨o,h1,h3⟩
theorem Ej (_:TrOk P l tr st) {cs cs':List SV} (hi:(Ea e l tr)[i]? = some (some cs)) (_:(Ea e l tr)[j]? = some (some cs')) (h:(Q6 (fun k=>Nat.blt k j) 0 l tr st).bget e=none):¬ i<j:=by
 intro hlt
 rw[P6]at h
 have:=Eo (L:=fun k=>Nat.blt k j) (Ea e l tr) 0 i hi (by rw[E4];exact Is hlt)
 cases hx:S2 (fun k=>Nat.blt k j) 0 (Ea e l tr) with
 | none=>exact this hx
 | some c=>rw[hx]at h;cases h
theorem EW (h:(Q6 L 0 l tr st).bget e=none):st.bget e=none:=by
 rw[P6]at h
 cases hb:st.bget e with
 | none=>rfl
 | some c=>rw[hb]at h;cases hx:S2 L 0 (Ea e l tr)<;>rw[hx]at h<;>cases h
theorem Gy (ht:TrOk P l tr st) (hm:Made l tr st L) {cs:List SV} (hi:(Ea e l tr)[i]? = some (some cs)) (h:(Q6 (fun k=>Nat.blt k i) 0 l tr st).bget e=none) (hb:(Q6 L 0 l tr st).bget e≠none):L i=true:=by
 rcases hm.of_bget hb with h1|⟨k,o,cs',h1,h2,h3,h4,h5,h6⟩
 . exact G5 (EW h) h1
 . have a:=Ej ht hi h2 h6
   have b:=Ej ht h2 hi h
   rw[show i=k by omega];exact h3
theorem Cy (hd:Drawn l tr st) (hD:Fu l D) (hi:l[i]? = some o) (hDi:D i=false) (hr:∀ e∈o.after,Region.binds .any e=true->D e.on=true) (t:Nat) (hl:t∈o.looksAt l.toArray):
 (Q6 D 0 l tr st).get t=(Q6 (fun k=>Nat.blt k i) 0 l tr st).get t:=by
 rw[U5,U5]
 congr 1
 refine O0 _ _ fun j v hj=>?_
 obtain⟨oj,ef,h1,-,h3⟩:=CR hj
 rw[E4]
 by_cases hij:i=j
 . subst hij
   rw[hDi]
   exact(by rw[<-Bool.not_eq_true];intro e;have:=C0 e;omega:Nat.blt i i=false).symm
 . exact Z7 hD hij (hd.rd i j o oj t hi h1 hij h3 hl) hDi fun o' ho'=>by rw[hi]at ho';cases ho';exact hr
theorem LQ (i:Nat):Nat.blt i i=false:=by rw[<-Bool.not_eq_true];intro e;have:=C0 e;omega
theorem Mo (hd:Drawn l tr st) (ht:TrOk P l tr st) (hD:Fu l D) (hM:Made l tr st D) (hi:l[i]? = some o) (hDi:D i=false) (hr:∀ e∈o.after,Region.binds .any e=true->D e.on=true) (hT:Ld o.op=true) (e:Nat) (hye:∃ y∈o.op.operands,e∈((Q6 (fun k=>Nat.blt k i) 0 l tr st).ev y).ids)
 (h1:(Q6 (fun k=>Nat.blt k i) 0 l tr st).bget e≠none) (h2:(Q6 D 0 l tr st).bget e≠none):(Q6 D 0 l tr st).bget e=(Q6 (fun k=>Nat.blt k i) 0 l tr st).bget e:=by
 have hr':∀ o',l[i]? = some o'->∀ e∈o'.after,Region.binds .any e=true->D e.on=true:=fun o' ho'=>by rw[hi]at ho';cases ho';exact hr
 rw[P6,P6]
 congr 1
 refine O0 _ _ fun j v hj=>?_
 rw[E4]
 obtain⟨oj,x,h3,h4,h5⟩:=Z1 ht hj
 by_cases hij:i=j
 . subst hij;rw[hDi];exact(LQ i).symm
 rcases h5 with⟨h5,h5n,-⟩|⟨h5,h6,h7⟩
 . refine Z7 hD hij ?_ hDi hr'
   exact IW (Ne.symm hij) (hd.mem j i oj o e h3 hi (Ne.symm hij) h5 h5n hT hye)
 . -- a box that was made here: it has one maker alone
   rw[Gy ht hM hj h7 h2]
   exact(Gy ht (made_lt ht i) hj h7 h1).symm
theorem Lq (hd:Drawn l tr st) (ht:TrOk P l tr st) (hD:Fu l D) (hi:l[i]? = some o) (hDi:D i=false) (hr:∀ e∈o.after,Region.binds .any e=true->D e.on=true) (hT:Ld o.op=true) (e:Nat):
 (Q6 D 0 l tr st).tget e=(Q6 (fun k=>Nat.blt k i) 0 l tr st).tget e:=by
 have hr':∀ o',l[i]? = some o'->∀ e∈o'.after,Region.binds .any e=true->D e.on=true:=fun o' ho'=>by rw[hi]at ho';cases ho';exact hr
 rw[U1,U1]
 congr 1
 refine O0 _ _ fun j v hj=>?_
 rw[E4]
 obtain⟨oj,h3,h5⟩:=DY ht hj
 by_cases hij:i=j
 . subst hij;rw[hDi];exact(LQ i).symm
 refine Z7 hD hij ?_ hDi hr'
 exact IW (Ne.symm hij) (hd.app j i oj o h3 hi (Ne.symm hij) h5 hT)
theorem SRep.id_bl {x:SV} (h:SRep g w v x) (he:e∈x.ids):∃ b,g.bl e=some b:=by
 cases x<;>simp only[SV.ids,List.mem_cons,List.not_mem_nil,or_false]at he
 case bx i off=>subst he;obtain⟨b,h1,-⟩:=h;exact⟨b,h1⟩
 case fn f caps=>
  obtain⟨bs,-,h3,h4⟩:=h
  obtain⟨q,hq⟩:=List.mem_iff_getElem?.1 he
  have hlt:q<bs.length:=by rw[h3];exact(A6.1 hq).1
  exact⟨_,h4 q _ e (A4 hlt) hq⟩
 case fb f i off=>subst he;obtain⟨b,h1,-⟩:=h;exact⟨b,h1⟩
 case bs i n E k=>subst he;obtain⟨b,c,h1,-⟩:=h;exact⟨b,h1⟩
 case mb i=>subst he;obtain⟨b,h1,-⟩:=h;exact⟨b,h1⟩
 case tx i T n=>subst he;obtain⟨b,h1,-⟩:=h;exact⟨b,h1⟩
theorem agree (hd:Drawn l tr st) (ht:TrOk P l tr st) (hD:Fu l D) (hM:Made l tr st D) (hi:l[i]? = some o) (hDi:D i=false) (hr:∀ e∈o.after,Region.binds .any e=true->D e.on=true) (hk:Dz o (Q6 (fun k=>Nat.blt k i) 0 l tr st) ef=true)
 (hrep:Rep B w0 g (Q6 D 0 l tr st) a w):Agr o (Q6 (fun k=>Nat.blt k i) 0 l tr st) (Q6 D 0 l tr st):=by
 have hev:∀ y∈o.op.operands,(Q6 D 0 l tr st).ev y=(Q6 (fun k=>Nat.blt k i) 0 l tr st).ev y:=by
  intro y hy
  cases y with
  | tmp t=>
   refine Cy hd hD hi hDi hr t ?_
   unfold Oper.looksAt
   refine List.mem_append.2 (.inl (List.mem_filterMap.2 ⟨.tmp t,Array.mem_toList_iff.2 hy,C⟩))
  | _=>rfl
 unfold Dz at hk
 rw[D1,Bool.or_eq_true,Bool.not_eq_true']at hk
 have hops:Ld o.op=true->∀ y∈o.op.operands,∀ e∈((Q6 (fun k=>Nat.blt k i) 0 l tr st).ev y).ids,((Q6 (fun k=>Nat.blt k i) 0 l tr st).bget e).isSome=true:=by
  intro hT y hy
  rcases hk.2 with h|h
  . rw[hT]at h;cases h
  . rw[Array.all_eq_true_iff_forall_mem]at h
    exact E5.1 (h y hy)
 refine⟨by rw[AB,AB],hev,fun hT y hy e hye=>?_,fun hT y hy t k es hye=>Lq hd ht hD hi hDi hr hT t,fun hN d hdst e hnew hnone=>?_⟩
 . have h1:=hops hT y hy e hye
   refine Mo hd ht hD hM hi hDi hr hT e ⟨y,hy,hye⟩ (by intro e';rw[e']at h1;cases h1) ?_
   have h2:=hrep.eval y
   rw[hev y hy]at h2
   obtain⟨b,h3⟩:=h2.id_bl hye
   exact hrep.dom e b h3
 . -- nobody else has made a box for this slot
   have h0:=EW hnone
   by_cases hb:(Q6 D 0 l tr st).bget e=none
   . exact hb
   rcases hM.of_bget hb with h1|⟨k,ok,cs',h1,h2,h3,h4,⟨d',h5,h6⟩,h7⟩
   . exact G5 h0 h1
   . have hik:i≠k:=fun e'=>by subst e';rw[hDi]at h3;cases h3
     have hb:=Z7 hD hik (hd.ww i k o ok d hi h1 hik hdst (by rw[Ot hnew h6];exact h5)) hDi fun o' ho'=>by rw[hi]at ho';cases ho';exact hr
     rw[h3]at hb
     rw[P6]at hnone
     have:=Eo (L:=fun k=>Nat.blt k i) (Ea e l tr) 0 k h2 (by rw[E4];exact hb.symm)
     cases hx:S2 (fun k=>Nat.blt k i) 0 (Ea e l tr) with
     | none=>exact G5 hx this
     | some c=>rw[hx]at hnone;cases hnone
theorem NM (hd:Drawn l tr st) (ht:TrOk P l tr st) {D':Nat->Bool} (hD:Fu l D) (hM:Made l tr st D) {x:SV} (hi:l[i]? = some o) (hx:tr[i]? = some (x,ef)) (hDi:D i=false) (hr:∀ e∈o.after,Region.binds .any e=true->D e.on=true) (hD':∀ j,D' j=(D j||Nat.beq j i)):
 (Q6 D' 0 l tr st).n=(((Q6 D 0 l tr st).eff ef).put o.dst x).n∧(∀ t,(Q6 D' 0 l tr st).get t=(((Q6 D 0 l tr st).eff ef).put o.dst x).get t)∧(∀ e,(Q6 D' 0 l tr st).bget e=(((Q6 D 0 l tr st).eff ef).put o.dst x).bget e) ∧ ∀ e,(Q6 D' 0 l tr st).tget e=(((Q6 D 0 l tr st).eff ef).put o.dst x).tget e:=by
 have hr':∀ o',l[i]? = some o'->∀ e∈o'.after,Region.binds .any e=true->D e.on=true:=fun o' ho'=>by rw[hi]at ho';cases ho';exact hr
 have hne:∀ j,j≠i->D' j=D j:=fun j hj=>by
  have:Nat.beq j i=false:=by rw[<-Bool.not_eq_true];intro e;exact hj (F8 e)
  rw[hD',this,Bool.or_false]
 have heq:D' i=true:=by rw[hD',Nat.beq_refl,Bool.or_true]
 refine⟨?_,fun t=>?_,fun e=>?_,fun e=>?_⟩
 . rw[AB,n_put]
   cases ef<;>exact(AB _ _ _ _ _).symm
 . rw[U5,NV,OB,U5]
   have hat:=usS_at (t:=t) hi hx
   by_cases hdt:o.dst=some t
   . rw[B9 hdt]at hat ⊢
     rw[HO _ 0 i hat (by rw[E4];exact heq) fun j u hij hu=>?_]
     . rfl
     . obtain⟨oj,ef',h1,-,h3⟩:=CR hu
       rw[E4,hne j (by omega),Z7 hD (by omega) (hd.ww i j o oj t hi h1 (by omega) hdt h3) hDi hr']
       exact It (by omega)
   . rw[B5 hdt]at hat ⊢
     congr 1
     refine O0 _ _ fun j v hj=>?_
     rw[E4]
     refine hne j fun e=>?_
     subst e
     rw[hat]at hj
     cases hj
 . rw[P6,Hl,LH,P6]
   have hat:=usB_at (t:=e) hi hx
   cases hb:bOf e ef with
   | some cs=>
    rw[hb]at hat
    rw[HO _ 0 i hat (by rw[E4];exact heq) fun j u hij hu=>?_]
    . rfl
    . rw[E4,hne j (by omega)]
      obtain⟨oi,xi,g1,g2,g3⟩:=Z1 ht hat
      rw[hi]at g1
      cases g1
      obtain⟨oj,xj,h1,h2,h3⟩:=Z1 ht hu
      rcases h3 with⟨h3,h3n,-⟩|⟨-,-,h7⟩
      . rcases g3 with⟨g3,g3n,-⟩|⟨-,-,g7⟩
        . rw[Z7 hD (by omega) (hd.mem i j o oj e hi h1 (by omega) g3 g3n (Es (by simp[Ku,h3])) h3n) hDi hr']
          exact It (by omega)
        . -- what is made now is not written yet
          rw[<-Bool.not_eq_true]
          intro hDj
          have hbn:(Q6 D 0 l tr st).bget e≠none:=by
           rw[P6]
           have:=Eo (L:=D) (Ea e l tr) 0 j hu (by rw[E4];exact hDj)
           cases hx:S2 D 0 (Ea e l tr) with
           | none=>exact G5 hx this
           | some c=>simp
          have:=Gy ht hM hat g7 hbn
          rw[hDi]at this
          cases this
      . exact G5 hij (Ej ht hat hu h7)
   | none=>
    rw[hb]at hat
    rw[Option.none_or]
    congr 1
    refine O0 _ _ fun j v hj=>?_
    rw[E4]
    refine hne j fun e'=>?_
    subst e'
    rw[hat]at hj
    cases hj
 . rw[U1,KL,LG,U1]
   have hat:=usT_at (t:=e) hi hx
   cases hb:tOf e ef with
   | some n=>
    rw[hb]at hat
    rw[HO _ 0 i hat (by rw[E4];exact heq) fun j u hij hu=>?_]
    . rfl
    . rw[E4,hne j (by omega)]
      obtain⟨oi,g1,g3⟩:=DY ht hat
      rw[hi]at g1
      cases g1
      obtain⟨oj,h1,h3⟩:=DY ht hu
      rw[Z7 hD (by omega) (hd.app i j o oj hi h1 (by omega) g3 (Es (by simp[Ku,h3]))) hDi hr']
      exact It (by omega)
   | none=>
    rw[hb]at hat
    rw[Option.none_or]
    congr 1
    refine O0 _ _ fun j v hj=>?_
    rw[E4]
    refine hne j fun e'=>?_
    subst e'
    rw[hat]at hj
    cases hj
theorem Bl (hd:Drawn l tr st) (hD:Fu l D) (hi:l[i]? = some o) (hDi:D i=false) (hr:∀ e∈o.after,Region.binds .any e=true->D e.on=true):(Q6 D 0 l tr st).want l.toArray o=(Q6 (fun k=>Nat.blt k i) 0 l tr st).want l.toArray o:=by
 unfold PS.want
 cases hg:o.guard with
 | none=>rfl
 | some p=>
  obtain⟨j,b⟩:=p
  simp only
  cases hdst:(l.toArray[j]?).bind (·.dst) with
  | none=>rfl
  | some d=>
   simp only
   rw[AB,AB,Cy hd hD hi hDi hr d ?_]
   unfold Oper.looksAt
   refine List.mem_append.2 (.inr ?_)
   rw[hg]
   rw[List.getElem?_toArray]at hdst
   simp[hdst]
theorem FL (hd:Drawn l tr st) (ht:TrOk P l tr st) (hlen:tr.length=l.length) (hK:K (Q6 (fun _=>true) 0 l tr st)) (hQ:∀ s,K s->Q .normal s):
 ∀ (fuel:Nat) (listed:Array Bool) (g:Gh) (a:Act) (w:World),listed.size=l.length->(listed.toList.count false)<=fuel->Fu l (fun k=>listed.getD k false)->Made l tr st (fun k=>listed.getD k false)->Rep B w0 g (Q6 (fun k=>listed.getD k false) 0 l tr st) a w->wpAny P .any l.toArray (CP B w0 Q) fuel listed a w:=by
 have fin:∀ (listed:Array Bool) (g:Gh) (a:Act) (w:World),listed.size=l.length->Region.ready .any l.toArray listed=[]->Rep B w0 g (Q6 (fun k=>listed.getD k false) 0 l tr st) a w->CP B w0 Q .normal a w:=by
  intro listed g a w hsz hready hrep
  have hall:∀ n,n<=l.length->∀ k,k<n->listed.getD k false=true:=by
   intro n
   induction n with
   | zero=>intro _ k hk;omega
   | succ n ih=>
    intro hn k hk
    rcases Nat.lt_succ_iff_lt_or_eq.1 hk with h|h
    . exact ih (by omega) k h
    . subst h
      cases hx:listed.getD k false with
      | true=>rfl
      | false=>
       have hlt:k<listed.size:=by omega
       have ho:l[k]? = some l[k]:=A4 (by omega)
       have:k∈Region.ready .any l.toArray listed:=by
        rw[mem_ready]
        refine⟨by simpa[Array.getD,hlt]using hx,l[k],by simp,fun e he hb=>ih (by omega) e.on (hd.edge k _ ho e he hb)⟩
       rw[hready]at this
       cases this
  refine⟨g,Q6 (fun _=>true) 0 l tr st,hrep.congr (by rw[AB,AB]) (fun t=>?_) (fun t=>?_) (fun t=>?_),hQ _ hK⟩
  . rw[U5,U5]
    congr 1
    refine O0 _ _ fun j v hj=>?_
    obtain⟨o,ef,h1,-⟩:=CR hj
    rw[E4]
    exact(hall l.length (E0 _) j (A6.1 h1).1).symm
  . rw[P6,P6]
    congr 1
    refine O0 _ _ fun j v hj=>?_
    obtain⟨o,ef,h1,-⟩:=GX hj
    rw[E4]
    exact(hall l.length (E0 _) j (A6.1 h1).1).symm
  . rw[U1,U1]
    congr 1
    refine O0 _ _ fun j v hj=>?_
    obtain⟨o,ef,h1,-⟩:=GW hj
    rw[E4]
    exact(hall l.length (E0 _) j (A6.1 h1).1).symm
 intro fuel
 induction fuel with
 | zero=>
  intro listed g a w hsz hc hdn hM hrep
  have hready:Region.ready .any l.toArray listed=[]:=by
   cases hq:Region.ready .any l.toArray listed with
   | nil=>rfl
   | cons k ks=>
    have:k∈Region.ready .any l.toArray listed:=by rw[hq];simp
    rw[mem_ready]at this
    obtain⟨h1,o,h2,-⟩:=this
    have hlt:k<listed.size:=by rw[hsz];have:=(D2.1 h2).1;simpa using this
    have h3:listed[k]=false:=by simpa[Array.getD,hlt]using h1
    have:0<listed.toList.count false:=List.count_pos_iff.2 (by rw[<-h3];simp)
    omega
  exact⟨hready,fin listed g a w hsz hready hrep⟩
 | succ fuel ih=>
  intro listed g a w hsz hc hdn hM hrep
  refine⟨fun hready=>fin listed g a w hsz hready hrep,fun i hi=>?_⟩
  rw[mem_ready]at hi
  obtain⟨h1,o,h2,h3⟩:=hi
  have hil:l[i]? = some o:=by simpa using h2
  have hlt:i<l.length:=(A6.1 hil).1
  have hDi:listed.getD i false=false:=by simpa[Array.getD,show i<listed.size by omega]using h1
  obtain⟨⟨x,ef⟩,hx⟩:∃ p,tr[i]? = some p:=⟨_,A4 (by rw[hlen];exact hlt)⟩
  have hset:∀ j,(listed.setIfInBounds i true).getD j false=(listed.getD j false||Nat.beq j i):=fun j=>by
   by_cases hji:j=i
   . subst hji
     simp[Array.getD,show j<listed.size by omega,Nat.beq_refl]
   . have:Nat.beq j i=false:=by rw[<-Bool.not_eq_true];intro e;exact hji (F8 e)
     rw[this,Bool.or_false]
     by_cases hjs:j<listed.size
     . simp[Array.getD,hjs,Ne.symm hji]
     . simp[Array.getD,hjs]
  have hdn':Fu l (fun k=>(listed.setIfInBounds i true).getD k false):=by
   intro j oj hj hDj e he hb
   simp only[hset]at hDj ⊢
   rw[Bool.or_eq_true]at hDj ⊢
   left
   rcases hDj with hDj|hDj
   . exact hdn j oj hj hDj e he hb
   . rw[F8 hDj,hil]at hj
     cases hj
     exact h3 e he hb
  have hcnt:(listed.setIfInBounds i true).toList.count false<=fuel:=by
   have hlt':i<listed.toList.length:=by simp;omega
   have h4:listed.toList[i]=false:=by simpa[Array.getD,show i<listed.size by omega]using hDi
   have h5:=List.count_set (l:=listed.toList) (a:=true) (b:=false) (i:=i) hlt'
   have h6:0<listed.toList.count false:=List.count_pos_iff.2 (by rw[<-h4];simp)
   rw[Array.toList_setIfInBounds,h5,h4]
   simp only[beq_self_eq_true,if_true,show(true==false)=false from rfl,Bool.false_eq_true,if_false]
   omega
  have hadd:=NM hd ht hdn hM hil hx hDi h3 (D':=fun k=>(listed.setIfInBounds i true).getD k false) hset
  have hM':Made l tr st (fun k=>(listed.setIfInBounds i true).getD k false):=by
   refine Gz hM (i:=i) hset fun e cs hu=>?_
   obtain⟨o',x',g1,g2,g3⟩:=Z1 ht hu
   rw[hil]at g1
   cases g1
   rcases g3 with⟨-,⟨y,hy,g4⟩,-⟩|g3
   . left
     have hev:(Q6 (fun k=>listed.getD k false) 0 l tr st).ev y=(Q6 (fun k=>Nat.blt k i) 0 l tr st).ev y:=by
      cases y with
      | tmp t=>
       refine Cy hd hdn hil hDi h3 t ?_
       unfold Oper.looksAt
       refine List.mem_append.2 (.inl (List.mem_filterMap.2 ⟨.tmp t,Array.mem_toList_iff.2 hy,C⟩))
      | _=>rfl
     have h9:=hrep.eval y
     rw[hev]at h9
     obtain⟨b,h10⟩:=h9.id_bl g4
     exact hrep.dom e b h10
   . exact .inr ⟨o,hil,g3⟩
  have next:∀ g' a' w',Rep B w0 g' (((Q6 (fun k=>listed.getD k false) 0 l tr st).eff ef).put o.dst x) a' w'->wpAny P .any l.toArray (CP B w0 Q) fuel (listed.setIfInBounds i true) a' w':=fun g' a' w' hr'=>
   ih _ g' a' w' (by simpa using hsz) hcnt hdn' hM' (hr'.congr hadd.1 hadd.2.1 hadd.2.2.1 hadd.2.2.2)
  unfold wpOp
  rw[h2]
  simp only
  rcases ht.step i o x ef hil hx with⟨h4,h5,h6⟩|⟨rfl,rfl,h5,h6⟩
  . have hw:=M4 hrep ((Bl hd hdn hil hDi h3).trans h6)
    rw[B9 hw]
    exact .inl (h4 _ (agree hd ht hdn hM hil hDi h3 h5 hrep) B w0 g a w _ _ hrep next)
  . have hw:=M4 hrep ((Bl hd hdn hil hDi h3).trans h6)
    rw[B5 (by rw[hw];simp)]
    refine next g _ w (hrep.put SRep.undef _ ?_)
    intro q hq
    rw[AB]
    have:=H6 h5 q hq
    rwa [AB]at this
theorem stD_app (L:Nat->Bool) (k:Nat) (l:List Oper) (o:Oper) (tr:Mu) (st:PS) (h:tr.length=l.length):Q6 L k (l++[o]) tr st=Q6 L k l tr st:=by
 induction l generalizing k tr st with
 | nil=>rw[List.length_eq_zero_iff.1 h];rfl
 | cons x l ih=>
  cases tr with
  | nil=>simp at h
  | cons p tr=>
   obtain⟨y,ef⟩:=p
   simp only[List.cons_append,Q6]
   exact ih (k+1) tr _ (by simpa using h)
def lastB (l:List Oper):Bool:=(List.range (l.length-1)).all fun j=>Kd l l.length j (l.length-1)
theorem Mt (hd:Drawn l tr st) (hsz:listed.size=l.length) (hready:Region.ready .any l.toArray listed=[]):∀ n,n<=l.length->∀ k,k<n->listed.getD k false=true:=by
 intro n
 induction n with
 | zero=>intro _ k hk;omega
 | succ n ih=>
  intro hn k hk
  rcases Nat.lt_succ_iff_lt_or_eq.1 hk with h|h
  . exact ih (by omega) k h
  . subst h
    cases hx:listed.getD k false with
    | true=>rfl
    | false=>
     have hlt:k<listed.size:=by omega
     have ho:l[k]? = some l[k]:=A4 (by omega)
     have:k∈Region.ready .any l.toArray listed:=by
      rw[mem_ready]
      refine⟨by simpa[Array.getD,hlt]using hx,l[k],by simp,fun e he hb=>ih (by omega) e.on (hd.edge k _ ho e he hb)⟩
     rw[hready]at this
     cases this
theorem LU {Q:Exit->Act->World->Prop} (h:∀ k,k<listed.size->listed.getD k false=true) (fuel:Nat) (hQ:Q .normal a w):wpAny P .any l.toArray Q fuel listed a w:=by
 have hready:Region.ready .any l.toArray listed=[]:=by
  cases hq:Region.ready .any l.toArray listed with
  | nil=>rfl
  | cons k ks=>
   have:k∈Region.ready .any l.toArray listed:=by rw[hq];simp
   rw[mem_ready]at this
   obtain⟨h1,-⟩:=this
   by_cases hlt:k<listed.size
   . have h2:=h k hlt
     simp[Array.getD,hlt]at h1 h2
     rw[h1]at h2
     cases h2
   . simp[Array.getD,hlt]at h1
 cases fuel with
 | zero=>exact⟨hready,hQ⟩
 | succ fuel=>exact⟨fun _=>hQ,fun i hi=>by rw[hready]at hi;cases hi⟩
theorem Jm (hd:Drawn l tr st) (ht:TrOk P l tr st) {on:Oper} (hln:l.length=n+1) (hlen:tr.length=n) (hon:l[n]? = some on) (hlast:∀ j,j<n->Kd l l.length j n=true) (hfin:∀ g a w,Rep B w0 g (Q6 (fun _=>true) 0 l tr st) a w->wpList P l.toArray (CP B w0 Q) [on] a w):
 ∀ (fuel:Nat) (listed:Array Bool) (g:Gh) (a:Act) (w:World),listed.size=l.length->listed.getD n false=false->(listed.toList.count false)<=fuel->Fu l (fun k=>listed.getD k false)->Made l tr st (fun k=>listed.getD k false)->Rep B w0 g (Q6 (fun k=>listed.getD k false) 0 l tr st) a w->wpAny P .any l.toArray (CP B w0 Q) fuel listed a w:=by
 intro fuel
 induction fuel with
 | zero=>
  intro listed g a w hsz hnl hc hdn hM hrep
  have hlt':n<listed.toList.length:=by simp;omega
  have h4:listed.toList[n]=false:=by simpa[Array.getD,show n<listed.size by omega]using hnl
  have h6:0<listed.toList.count false:=List.count_pos_iff.2 (by rw[<-h4];simp)
  omega
 | succ fuel ih=>
  intro listed g a w hsz hnl hc hdn hM hrep
  refine⟨fun hready=>?_,fun i hi=>?_⟩
  . rw[Mt hd hsz hready l.length (E0 _) n (by omega)]at hnl
    cases hnl
  rw[mem_ready]at hi
  obtain⟨h1,o,h2,h3⟩:=hi
  have hil:l[i]? = some o:=by simpa using h2
  have hlt:i<l.length:=(A6.1 hil).1
  have hDi:listed.getD i false=false:=by simpa[Array.getD,show i<listed.size by omega]using h1
  by_cases hin:i=n
  . subst hin
    rw[hon]at hil
    cases hil
    have hall:∀ k,k<i->listed.getD k false=true:=fun k hk=>JR hdn _ k i (hlast k hk) fun o' ho'=>by rw[hon]at ho';cases ho';exact h3
    have hrep2:Rep B w0 g (Q6 (fun _=>true) 0 l tr st) a w:=by
     refine hrep.congr (by rw[AB,AB]) (fun t=>?_) (fun t=>?_) (fun t=>?_)
     . rw[U5,U5]
       congr 1
       refine O0 _ _ fun j v hj=>?_
       obtain⟨o,ef,-,h4,-⟩:=CR hj
       rw[E4]
       exact(hall j (by rw[<-hlen];exact(A6.1 h4).1)).symm
     . rw[P6,P6]
       congr 1
       refine O0 _ _ fun j v hj=>?_
       obtain⟨o,ef,-,h4⟩:=GX hj
       rw[E4]
       exact(hall j (by rw[<-hlen];exact(A6.1 h4).1)).symm
     . rw[U1,U1]
       congr 1
       refine O0 _ _ fun j v hj=>?_
       obtain⟨o,ef,-,h4⟩:=GW hj
       rw[E4]
       exact(hall j (by rw[<-hlen];exact(A6.1 h4).1)).symm
    have h5:=hfin g a w hrep2
    have hall2:∀ k,k<(listed.setIfInBounds i true).size->(listed.setIfInBounds i true).getD k false=true:=fun k hk=>by
     by_cases e:k=i
     . subst e
       simp[Array.getD,show k<listed.size by omega]
     . have hk2:k<listed.size:=by simpa using hk
       have:=hall k (by omega)
       simp[Array.getD,hk2,Ne.symm e]at this ⊢
       exact this
    unfold wpOp
    rw[h2]
    simp only
    unfold wpList at h5
    split
    . rename_i hw
      rw[B9 hw]at h5
      rcases h5 with h5|h5
      . exact .inl (Oper.wp_mono (fun a w hq=>LU hall2 fuel hq) h5)
      . exact .inr h5
    . rename_i hw
      rw[B5 hw]at h5
      exact LU hall2 fuel h5
  have hltn:i<n:=by omega
  obtain⟨⟨x,ef⟩,hx⟩:∃ p,tr[i]? = some p:=⟨_,A4 (by rw[hlen];exact hltn)⟩
  have hset:∀ j,(listed.setIfInBounds i true).getD j false=(listed.getD j false||Nat.beq j i):=fun j=>by
   by_cases hji:j=i
   . subst hji
     simp[Array.getD,show j<listed.size by omega,Nat.beq_refl]
   . have:Nat.beq j i=false:=by rw[<-Bool.not_eq_true];intro e;exact hji (F8 e)
     rw[this,Bool.or_false]
     by_cases hjs:j<listed.size
     . simp[Array.getD,hjs,Ne.symm hji]
     . simp[Array.getD,hjs]
  have hdn':Fu l (fun k=>(listed.setIfInBounds i true).getD k false):=by
   intro j oj hj hDj e he hb
   simp only[hset]at hDj ⊢
   rw[Bool.or_eq_true]at hDj ⊢
   left
   rcases hDj with hDj|hDj
   . exact hdn j oj hj hDj e he hb
   . rw[F8 hDj,hil]at hj
     cases hj
     exact h3 e he hb
  have hcnt:(listed.setIfInBounds i true).toList.count false<=fuel:=by
   have hlt':i<listed.toList.length:=by simp;omega
   have h4:listed.toList[i]=false:=by simpa[Array.getD,show i<listed.size by omega]using hDi
   have h5:=List.count_set (l:=listed.toList) (a:=true) (b:=false) (i:=i) hlt'
   have h6:0<listed.toList.count false:=List.count_pos_iff.2 (by rw[<-h4];simp)
   rw[Array.toList_setIfInBounds,h5,h4]
   simp only[beq_self_eq_true,if_true,show(true==false)=false from rfl,Bool.false_eq_true,if_false]
   omega
  have hadd:=NM hd ht hdn hM hil hx hDi h3 (D':=fun k=>(listed.setIfInBounds i true).getD k false) hset
  have hM':Made l tr st (fun k=>(listed.setIfInBounds i true).getD k false):=by
   refine Gz hM (i:=i) hset fun e cs hu=>?_
   obtain⟨o',x',g1,g2,g3⟩:=Z1 ht hu
   rw[hil]at g1
   cases g1
   rcases g3 with⟨-,⟨y,hy,g4⟩,-⟩|g3
   . left
     have hev:(Q6 (fun k=>listed.getD k false) 0 l tr st).ev y=(Q6 (fun k=>Nat.blt k i) 0 l tr st).ev y:=by
      cases y with
      | tmp t=>
       refine Cy hd hdn hil hDi h3 t ?_
       unfold Oper.looksAt
       refine List.mem_append.2 (.inl (List.mem_filterMap.2 ⟨.tmp t,Array.mem_toList_iff.2 hy,C⟩))
      | _=>rfl
     have h9:=hrep.eval y
     rw[hev]at h9
     obtain⟨b,h10⟩:=h9.id_bl g4
     exact hrep.dom e b h10
   . exact .inr ⟨o,hil,g3⟩
  have next:∀ g' a' w',Rep B w0 g' (((Q6 (fun k=>listed.getD k false) 0 l tr st).eff ef).put o.dst x) a' w'->wpAny P .any l.toArray (CP B w0 Q) fuel (listed.setIfInBounds i true) a' w':=fun g' a' w' hr'=>
   ih _ g' a' w' (by simpa using hsz) (by rw[hset,hnl,Bool.false_or,<-Bool.not_eq_true];intro e;exact hin (F8 e).symm) hcnt hdn' hM' (hr'.congr hadd.1 hadd.2.1 hadd.2.2.1 hadd.2.2.2)
  unfold wpOp
  rw[h2]
  simp only
  rcases ht.step i o x ef hil hx with⟨h4,h5,h6⟩|⟨rfl,rfl,h5,h6⟩
  . have hw:=M4 hrep ((Bl hd hdn hil hDi h3).trans h6)
    rw[B9 hw]
    exact .inl (h4 _ (agree hd ht hdn hM hil hDi h3 h5 hrep) B w0 g a w _ _ hrep next)
  . have hw:=M4 hrep ((Bl hd hdn hil hDi h3).trans h6)
    rw[B5 (by rw[hw];simp)]
    refine next g _ w (hrep.put SRep.undef _ ?_)
    intro q hq
    rw[AB]
    have:=H6 h5 q hq
    rwa [AB]at this
theorem J2 (hm:P.follows .mixedOrders=true) (hb:OC l=true) (h:YR P false l.toArray (Q .normal) l st) (hnd:Ni l=true:=by rfl):PW P B w0 (.region id l.toArray true) Q st:=fun g a w hr=>by
 obtain⟨tr,h1,h2,h3⟩:=h.trace 0
 have ht:TrOk P l tr st:=⟨fun i o x ef hi hx=>by have:=h2 i o x ef hi hx;rwa [E4]at this⟩
 have hempty:∀ k,(Array.replicate l.toArray.size false).getD k false=false:=fun k=>by
  by_cases hk:k<l.length<;>simp[Array.getD,hk]
 have hw:Rep B w0 g st a { w with drawn:=w.drawn+1 }:=hr.grow ⟨rfl,rfl,rfl,E0 _,fun _ _=>rfl⟩
 refine wpIn_mono (wpIn_region_any hm (Ci (Y3 (B:=B) (w0:=w0) (Q:=Q)).1 hnd (FL (Q:=La Q) (LK hb) ht h1 h3 (fun _ h=>h) l.toArray.size _ g a _ (by simp) (by simp) (fun i o _ hD=>?_) (fun e j cs _ hD=>G5 ((hempty j).symm.trans hD) (by simp)) (hw.congr (AB _ _ _ _ _) (fun t=>?_) (fun t=>?_) (fun t=>?_))))) (Y3 (B:=B) (w0:=w0) (Q:=Q)).2
 . exact G5 ((hempty i).symm.trans hD) (by simp)
 . rw[U5,Q8 _ _ fun j v _=>hempty _];rfl
 . rw[P6,Q8 _ _ fun j v _=>hempty _];rfl
 . rw[U1,Q8 _ _ fun j v _=>hempty _];rfl
theorem R8 (hm:P.follows .mixedOrders=true) (hb:Hh l=true) (h:YR P false l.toArray (Sep l (Q .normal)) l st) (hnd:Ni l=true:=by rfl):PW P B w0 (.region id l.toArray true) Q st:=fun g a w hr=>by
 obtain⟨tr,h1,h2,h3⟩:=h.trace 0
 have ht:TrOk P l tr st:=⟨fun i o x ef hi hx=>by have:=h2 i o x ef hi hx;rwa [E4]at this⟩
 have hempty:∀ k,(Array.replicate l.toArray.size false).getD k false=false:=fun k=>by
  by_cases hk:k<l.length<;>simp[Array.getD,hk]
 have hw:Rep B w0 g st a { w with drawn:=w.drawn+1 }:=hr.grow ⟨rfl,rfl,rfl,E0 _,fun _ _=>rfl⟩
 refine wpIn_mono (wpIn_region_any hm (Ci (Y3 (B:=B) (w0:=w0) (Q:=Q)).1 hnd (FL (Q:=La Q) (Pd hb h3.h) ht h1 h3.k (fun _ h=>h) l.toArray.size _ g a _ (by simp) (by simp) (fun i o _ hD=>?_) (fun e j cs _ hD=>G5 ((hempty j).symm.trans hD) (by simp)) (hw.congr (AB _ _ _ _ _) (fun t=>?_) (fun t=>?_) (fun t=>?_))))) (Y3 (B:=B) (w0:=w0) (Q:=Q)).2
 . exact G5 ((hempty i).symm.trans hD) (by simp)
 . rw[U5,Q8 _ _ fun j v _=>hempty _];rfl
 . rw[P6,Q8 _ _ fun j v _=>hempty _];rfl
 . rw[U1,Q8 _ _ fun j v _=>hempty _];rfl
theorem RL (l0:List Oper) (o:Oper) (hl:l=l0++[o]) (hm:P.follows .mixedOrders=true) (hb:OC l=true) (hlb:lastB l=true) (h:YR P false l.toArray (fun s=>YR P true l.toArray (Q .normal) [o] s) l0 st) (hnd:Ni l=true:=by rfl):PW P B w0 (.region id l.toArray true) Q st:=fun g a w hr=>by
 obtain⟨tr,h1,h2,h3⟩:=h.trace 0
 have hst:∀ L,Q6 L 0 l tr st=Q6 L 0 l0 tr st:=fun L=>by rw[hl];exact stD_app L 0 l0 o tr st h1
 have hll:l.length=l0.length+1:=by rw[hl];simp
 have ht:TrOk P l tr st:=⟨fun i o' x ef hi hx=>by
  have hi0:i<l0.length:=by rw[<-h1];exact(A6.1 hx).1
  have hi':l0[i]? = some o':=by rw[hl,F3 hi0]at hi;exact hi
  have:=h2 i o' x ef hi' hx
  rw[E4]at this
  rw[hst]
  exact this⟩
 have hon:l[l0.length]? = some o:=by rw[hl];simp
 have hlast:∀ j,j<l0.length->Kd l l.length j l0.length=true:=fun j hj=>by
  unfold lastB at hlb
  rw[hll,Nat.add_sub_cancel,E5]at hlb
  have:=hlb j (List.mem_range.2 hj)
  rw[<-hll]at this
  exact this
 have hempty:∀ k,(Array.replicate l.toArray.size false).getD k false=false:=fun k=>by
  by_cases hk:k<l.length<;>simp[Array.getD,hk]
 have hw:Rep B w0 g st a { w with drawn:=w.drawn+1 }:=hr.grow ⟨rfl,rfl,rfl,E0 _,fun _ _=>rfl⟩
 refine wpIn_mono (wpIn_region_any hm (Ci (Y3 (B:=B) (w0:=w0) (Q:=Q)).1 hnd (Jm (Q:=La Q) (LK hb) ht hll h1 hon hlast (fun g a w hr=>?_) l.toArray.size _ g a _ (by simp) (hempty _) (by simp) (fun i o _ hD=>?_) (fun e j cs _ hD=>G5 ((hempty j).symm.trans hD) (by simp)) (hw.congr (AB _ _ _ _ _) (fun t=>?_) (fun t=>?_) (fun t=>?_))))) (Y3 (B:=B) (w0:=w0) (Q:=Q)).2
 . rw[hst]at hr
   exact h3.sound (Q:=La Q) (fun _ h=>h) hr
 . exact G5 ((hempty i).symm.trans hD) (by simp)
 . rw[U5,Q8 _ _ fun j v _=>hempty _];rfl
 . rw[P6,Q8 _ _ fun j v _=>hempty _];rfl
 . rw[U1,Q8 _ _ fun j v _=>hempty _];rfl
end
class AppOf (P:Program) (T:TypeId) (E:outParam TypeId) (k:outParam Nat) (bytes:outParam Nat):Prop where
 und:P.underlying T=some (.slice E)
 inf:∃ i z,P.info? E=some i∧i.zero=some z∧i.size=k∧i.bytes=bytes∧z.cells.size=k
theorem AJ {k:Nat} (hu:P.underlying T=some (.slice E)) (h:(P.info? E).map (fun i=>(i.zero,i.size,i.bytes))=some (some z,k,bytes)) (hz:z.cells.size=k):AppOf P T E k bytes:=by
 obtain⟨i,h1,h2,h3,h4⟩:=info_parts h
 exact⟨hu,i,z,h1,h2,h3,h4,hz⟩
theorem Bw {k:Nat} (h:w.ownsRow B E k v n xs) {m c:Nat} (hv:v=.slice A m c):m=n:=by
 obtain⟨A',c',h1,-⟩:=V4 h
 exact(Value.slice.inj (hv.symm.trans h1)).2.1
section
variable {d:Option Nat} {ty:TypeId} {pos:String} {af:Array Edge} {gd:Option (Nat×Bool)}
theorem PF (T:TypeId) (s x:Operand) {k:Nat} {es2:List (List DV)} [hA:AppOf P T E k bytes] (hs:st.ev s=.ts t k es) (ht:st.tget t=some n) (hn:n=es.length) (hx:asSl (st.ev x)=some (k,es2)) (hE:t / 100000=E)
 (hb:(es.length+es2.length)*bytes<=140737488351232) (hl:es.length+es2.length<=140737488351232) (hd:I1 ⟨d,.call { callee:=.builtin .append,args:=#[s,x],argTypes:=#[T,T] },ty,pos,af,gd⟩ st=true):
 M6 P ⟨d,.call { callee:=.builtin .append,args:=#[s,x],argTypes:=#[T,T] },ty,pos,af,gd⟩ st (.ts t k (es++es2)) (.tok t (es.length+es2.length)):=fun st2 ha=>by
 subst hn
 intro B w0 g a w K Q hr hK
 have h1:=hr.eval s
 rw[ha.ev s (by simp[Op.operands,Call.operands]),hs]at h1
 obtain⟨h1,h2⟩:=h1
 obtain⟨A1,c1,ys,hv1,hc1,hm1,hk1,hl1,hcell1,hone1,hrep1⟩:=DRep.row h1
 have h3:=hr.eval x
 rw[ha.ev x (by simp[Op.operands,Call.operands])]at h3
 obtain⟨A2,c2,news,hv2,hc2,hm2,hk2,hl2,hcell2,hone2,hrep2⟩:=DRep.row (h3.asSl hx)
 obtain⟨T',A,c,h4,h5⟩:=hr.tlen t es.length ((ha.tk rfl s (by simp[Op.operands,Call.operands]) t k es hs).trans ht)
 obtain⟨h6,h7⟩:=h2 T' h4
 have h8:a.eval s=T'.v:=(h7 A es.length c h5).2 rfl
 obtain⟨⟨n',xs,h9⟩,h10⟩:=hr.toks t T' h4
 obtain rfl:es.length=n':=Bw h9 h5
 have hTE:T'.E=E:=(hr.telt t T' h4).trans hE
 obtain⟨i,z,q1,q2,q3,q4,q5⟩:=hA.inf
 rw[hTE,h6]at h9
 obtain⟨v',w',r1,r2,r3,r4,r5,r6,r7⟩:=Cp (P:=P) w 0 T ty E i z k bytes hA.und q1 q2 q3 q4 q5 T'.v es.length xs h9 A2 es2.length c2 news hl2 (fun h0=>by
  obtain⟨b,off,rfl,hcell⟩:=hcell2 h0
  exact⟨_,C,fun j u hj=>by rw[Addr.add_lit];exact(hcell j u hj).1⟩) hone2 (by unfold maxLen;omega) (by omega) (E7 _)
 have hxs:xs=ys:=by
  apply List.ext_getElem?
  intro j
  have hlx:=h9.1
  by_cases hj:j<es.length*k
  . have h0:0<es.length:=by
     rcases H7 es.length with h0|h0
     . rw[h0]at hj;simp at hj
     . exact h0
    obtain⟨b,off,hA1,hcell⟩:=hcell1 h0
    obtain⟨u,hu⟩:∃ u,ys[j]? = some u:=⟨_,A4 (by omega)⟩
    obtain⟨u',hu'⟩:∃ u,xs[j]? = some u:=⟨_,A4 (by omega)⟩
    have e1:T'.v=.slice (some ⟨b,off,none⟩) es.length c1:=by rw[<-h8,hv1,hA1]
    have e2:=AF h9 (b:=b) (by rw[e1];rfl) j u' hu'
    obtain⟨A3,c3,e3,-,e4⟩:=V4 h9
    have e5:=e4 b (by rw[e1];rfl)
    have e6:off=0:=by
     have:=e1.symm.trans e5
     have:=(Value.slice.inj this).1
     simpa using this
    have e7:=(hcell j u hu).1
    rw[e6,E4,e2]at e7
    rw[hu,hu',J0 e7]
  . rw[I0 (by omega),I0 (by omega)]
 subst hxs
 obtain⟨fx,hrep'⟩:=hr.app t es.length es2.length T' h4 xs news v' (by rw[hTE,h6];exact h9) (by rw[hTE,h6];exact r2) r3 (fun b hb hne=>r4 b hb hne) (fun b o hb hb' ho=>r5 b o hb hb' (by rw[<-h6];exact ho)) r6 r7
 have hrun:(execOp a.eval ⟨d,.call { callee:=.builtin .append,args:=#[s,x],argTypes:=#[T,T] },ty,pos,af,gd⟩).run P w=.ok (.value v') w':=by
  simp only[execOp,resolve,invoke,builtin,Sem.run_bind,Sem.run_pure,D4,List.map_toArray,List.map_cons,List.map_nil,h8,hv2,r1]
 unfold Oper.wp
 rw[hrun]
 refine hK _ _ _ (hrep'.put (v:=v') (x:=.ts t k (es++es2)) ⟨?_,fun T2 hT2=>?_⟩ _ (H6 (st:=st2.tput t _) (ha.dst hd)))
 . obtain⟨A3,c3,e3,e4,e5⟩:=V4 r2
   have e3':v'=.slice A3 (es++es2).length c3:=by rw[C9];exact e3
   refine(G4 (fun q=>DRep (Fx (g.sett t ⟨v',T'.E,T'.k⟩)) w' q (.sl k (es++es2))) e3').mpr ?_
   refine DRep.of_row (xs:=xs++news) (by rw[C9];exact e4) (by rw[C9];exact D9 hl (by decide)) (fun e he=>?_) (fun h0=>?_) (fun u hu=>?_) fun i j e y he hy=>?_
   . rcases List.mem_append.1 he with he|he
     . exact hk1 e he
     . exact hk2 e he
   . rcases r2.2 with⟨e6,e7⟩|⟨gb,cap,cur,e6,e7,e8,-⟩
     . rw[C9]at h0;omega
     . have e9:A3=some ⟨gb,0,none⟩:=(Value.slice.inj (e3.symm.trans e6)).1
       refine⟨gb,0,e9,fun j u hj=>⟨?_,?_⟩⟩
       . rw[E4];exact AF r2 (by rw[e6];rfl) j u hj
       . refine⟨hrep'.tf0 t ⟨v',T'.E,T'.k⟩ gb _ (by simp[Gh.sett]) (by show v'.ownBlock=_;rw[e6];rfl),fun i' hi'=>?_,fun t2 T2 n2 c2' hT2 hv2'=>?_⟩
         . exact(hrep'.toks t ⟨v',T'.E,T'.k⟩ (by simp[Gh.sett])).2 i' gb (by rw[show(⟨v',T'.E,T'.k⟩:Tk).v=v' from rfl,e6];rfl) hi'
         . have htt:t2=t:=hrep'.tdis t2 t T2 ⟨v',T'.E,T'.k⟩ gb hT2 (by simp[Gh.sett]) (by rw[hv2'];rfl) (by rw[show(⟨v',T'.E,T'.k⟩:Tk).v=v' from rfl,e6];rfl)
           subst htt
           simp only[Gh.sett,B9]at hT2
           cases hT2
           have e10:n2=es.length+es2.length:=(Value.slice.inj ((show v'=_ from hv2').symm.trans e6)).2.1
           have hlt:=(A6.1 hj).1
           rw[r2.1]at hlt
           show 0+j<n2*T'.k
           rw[e10,h6,E4]
           exact hlt
   . rcases List.mem_append.1 hu with hu|hu
     . exact hone1 u hu
     . exact hone2 u hu
   . by_cases hi:i<es.length
     . rw[F3 hi]at he
       obtain⟨u,e6,e7⟩:=hrep1 i j e y he hy
       refine⟨u,?_,e7.mono fx⟩
       rw[F3 (A6.1 e6).1]
       exact e6
     . rw[E9 (by omega)]at he
       obtain⟨u,e6,e7⟩:=hrep2 (i-es.length) j e y he hy
       refine⟨u,?_,e7.mono fx⟩
       have:i*k+j-xs.length=(i-es.length)*k+j:=by
        rw[h9.1,Nat.sub_mul]
        have:=Nat.mul_le_mul_right k (show es.length<=i by omega)
        omega
       rw[E9 (by rw[h9.1];have:=Nat.mul_le_mul_right k (show es.length<=i by omega);omega),this]
       exact e6
 . simp only[Gh.sett,B9]at hT2
   cases hT2
   refine⟨h6,fun A3 n3 c3 e3=>?_⟩
   have e4:n3=es.length+es2.length:=Bw r2 e3
   rw[C9]
   exact⟨by omega,fun _=>rfl⟩
end
def SV.noTs (t:Nat):SV->Bool
 | .ts t' _ _=>!Nat.beq t' t
 | _=>true
def PS.noTs (st:PS) (t:Nat):Bool:=st.s.all (fun p=>p.2.noTs t)&&st.b.all fun p=>p.2.all fun x=>x.noTs t
theorem SRep.extp {g':Gh} {w':World} {x:SV} (h:SRep g w v x) (fx:Kp (Fx g) w (Fx g') w') (bl:∀ i∈x.ids,∀ b,g.bl i=some b->g'.bl i=some b) (tk:∀ t k es,x=.ts t k es->∀ T',g'.tk t=some T'->∃ T,g.tk t=some T∧LZ T T') (sh:∀ i∈x.ids,∀ b,g.bl i=some b->w'.shape? b=w.shape? b):SRep g' w' v x:=by
 cases x with
 | any=>trivial
 | d x=>exact DRep.mono h fx
 | ts t k es=>
  refine⟨DRep.mono h.1 fx,fun T' hT'=>?_⟩
  obtain⟨T,hT,hle⟩:=tk t k es rfl T' hT'
  obtain⟨h1,h2⟩:=h.2 T hT
  rcases hle with rfl|⟨h3,h4,A,n,c,A',n',c',h5,h6,h7,h8⟩
  . exact⟨h1,h2⟩
  . refine⟨h4.trans h1,fun A2 n2 c2 h9=>?_⟩
    obtain⟨-,h10,-⟩:=Value.slice.inj (h9.symm.trans h6)
    obtain⟨h11,h12⟩:=h2 A n c h5
    refine⟨by omega,fun h13=>?_⟩
    rw[h8 (by omega)]
    exact h12 (by omega)
 | bx i off=>obtain⟨b,h1,h2⟩:=h;exact⟨b,bl i (by simp[SV.ids]) _ h1,h2⟩
 | rd cs=>
  obtain⟨b,off,f,h1,h2⟩:=h
  refine⟨b,off,f,h1,fun j x hj=>?_⟩
  obtain⟨h3,h4,h5',h5⟩:=h2 j x hj
  obtain⟨h6,h7⟩:=fx.cell h4 h3
  exact⟨h7,h6,h5',h5.mono fx⟩
 | tup xs=>
  obtain⟨vs,h1,h2,h3⟩:=h
  exact⟨vs,h1,h2,fun i y x hy hx=>(h3 i y x hy hx).mono fx⟩
 | fn f caps=>
  obtain⟨bs,h1,h2,h3⟩:=h
  exact⟨bs,h1,h2,fun i b c hb hc=>bl c (by simpa[SV.ids]using B8 hc) _ (h3 i b c hb hc)⟩
 | fb f i off=>obtain⟨b,h1,h2⟩:=h;exact⟨b,bl i (by simp[SV.ids]) _ h1,h2⟩
 | bs i n E k=>
  obtain⟨b,c,h1,h2,h3,h4,h5⟩:=h
  exact⟨b,c,bl i (by simp[SV.ids]) _ h1,h2,h3,h4,(sh i (by simp[SV.ids]) _ h1).trans h5⟩
 | mb i=>obtain⟨b,h1,h2⟩:=h;exact⟨b,bl i (by simp[SV.ids]) _ h1,h2⟩
 | tx i T n=>
  obtain⟨b,h1,h2,h3⟩:=h
  exact⟨b,bl i (by simp[SV.ids]) _ h1,h2,(sh i (by simp[SV.ids]) _ h1).trans h3⟩
 | mc ms=>exact h
theorem Ng {x:SV} (h:x.noTs t=true) {t' k:Nat} (e:x=.ts t' k es):t'≠t:=fun e'=>by rw[e,e']at h;simp[SV.noTs,Nat.beq_refl]at h
theorem Rep.newt {w':World} (hr:Rep B w0 g st a w) {k:Nat} (hb:Below w.heap.size w w') (hfr:∀ b,v.ownBlock=some b->w.heap.size<=b) (hown:w'.ownsRow 0 E k v n xs) (hE:t / 100000=E) (hsm:smT t) (ht:st.tget t=none) (hno:st.noTs t=true):
 Evo g w (g.sett t ⟨v,E,k⟩) w'∧Rep B w0 (g.sett t ⟨v,E,k⟩) (st.tput t n) a w':=by
 have hno':=hno
 unfold PS.noTs at hno'
 rw[D1,E5,E5]at hno'
 have hgt:g.tk t=none:=by
  cases e:g.tk t with
  | none=>rfl
  | some T=>exact G5 ht (hr.tdom t T e)
 have ev:Evo g w (g.sett t ⟨v,E,k⟩) w':=by
  refine⟨hb.mono (E7 _),C,fun b o hf hs=>⟨⟨hf.1,hf.2.1,fun t' T' n' c h1 h2=>?_⟩,L3 (hb.block b (Y1 hs)) o⟩,fun b hb'=>?_,fun _ _ h=>.inl h,fun t' T' hT'=>?_,fun t' T' b hT' hb'=>?_,fun i b _ hi _=>J9 (hb.block b (hr.blk i b hi).2)⟩
  . simp only[Gh.sett]at h1
    by_cases e:t'=t
    . rw[B9 e]at h1;cases h1
      have:=hfr b (by show v.ownBlock=_;rw[show v=_ from h2];rfl)
      have:=Y1 hs
      omega
    . rw[B5 e]at h1;exact hf.2.2 t' T' n' c h1 h2
  . rcases D5 b w.heap.size with h1|h1
    . exact hb.block b h1
    . exact G5 (.inl h1) hb'
  . simp only[Gh.sett]at hT'
    by_cases e:t'=t
    . exact .inr (e ▸ hsm)
    . rw[B5 e]at hT';exact .inl ⟨T',hT',.inl C⟩
  . simp only[Gh.sett]at hT'
    by_cases e:t'=t
    . rw[B9 e]at hT';cases hT';exact .inl (hfr b hb')
    . rw[B5 e]at hT';exact .inr (.inr ⟨t',T',hT',hb'⟩)
 have srep:∀ v' x,SRep g w v' x->x.noTs t=true->SRep (g.sett t ⟨v,E,k⟩) w' v' x:=fun v' x hx hn=>by
  refine hx.extp ev.fx (fun _ _ _ h=>h) (fun t' k' es e T' hT'=>?_) fun i hi b hbl=>J9 (hb.block b (hr.blk i b hbl).2)
  simp only[Gh.sett]at hT'
  rw[B5 (Ng hn e)]at hT'
  exact⟨T',hT',.inl C⟩
 refine⟨ev,{ hr with evo:=hr.evo.trans ev,defers:=hr.defers.evo ev,base:=D9 hr.base hb.size,f0:=hr.f0,lim:=hr.lim,size:=hr.size,glob:=fun q cs hq=>srep _ _ (hr.glob q cs hq) C,slots:=fun i=>srep _ _ (hr.slots i) ?_,boxes:=fun i cs hi hlt=>?_,maps:=fun i ms hi hge=>?_,blk:=fun i b hi=>⟨(hr.blk i b hi).1,I9 (hr.blk i b hi).2 hb.size⟩,dom:=hr.dom,inj:=hr.inj,toks:=fun t' T' hT'=>?_,tf0:=fun t' T' b o hT' hb'=>?_,telt:=fun t' T' hT'=>?_,tdis:=fun t1 t2 T1 T2 b h1 h2 h3 h4=>?_,tdom:=fun t' T' hT'=>?_,tlen:=fun t' n' hn=>?_ }⟩
 . show(st.get i).noTs t=true
   unfold PS.get
   cases e2:G1 st.s i with
   | none=>rfl
   | some x=>exact hno'.1 _ (M9 e2)
 . obtain⟨b,xs,T,h1,h2,h3,h4,h5⟩:=hr.boxes i cs hi hlt
   refine⟨b,xs,T,h1,(hb.block b (hr.blk i b h1).2).trans h2,h3,fun j c hj=>?_,h5⟩
   obtain⟨x,h6,h7⟩:=h4 j c hj
   have h8:=hno'.2 _ (M9 hi)
   rw[E5]at h8
   exact⟨x,h6,srep _ _ h7 (h8 c (B8 hj))⟩
 . obtain⟨b,es,c,h1,h2,h3⟩:=hr.maps i ms hi hge
   exact⟨b,es,c,h1,(hb.block b (hr.blk i b h1).2).trans h2,h3.mono ev.fx⟩
 . simp only[Gh.sett]at hT'
   by_cases e:t'=t
   . rw[B9 e]at hT';cases hT'
     refine⟨⟨n,xs,hown⟩,fun i b hb' hi=>?_⟩
     have h1:=hfr b hb'
     have h2:=(hr.blk i b hi).2
     omega
   . rw[B5 e]at hT'
     obtain⟨⟨n',ys,h1⟩,h2⟩:=hr.toks t' T' hT'
     exact⟨⟨n',ys,M8 h1 fun b hb'=>hb.block b (h1.lt b hb').2⟩,h2⟩
 . simp only[Gh.sett]at hT'
   by_cases e:t'=t
   . rw[B9 e]at hT';cases hT'
     exact hr.f0 b o (D9 hr.base (hfr b hb'))
   . rw[B5 e]at hT';exact hr.tf0 t' T' b o hT' hb'
 . simp only[Gh.sett]at hT'
   by_cases e:t'=t
   . rw[B9 e]at hT';cases hT';rw[e,hE]
   . rw[B5 e]at hT';exact hr.telt t' T' hT'
 . simp only[Gh.sett]at h1 h2
   have far:∀ t2 T2,g.tk t2=some T2->T2.v.ownBlock=some b->b<w.heap.size:=fun t2 T2 q1 q2=>by
    obtain⟨⟨n',ys,q3⟩,-⟩:=hr.toks t2 T2 q1
    exact(q3.lt b q2).2
   by_cases e1:t1=t<;>by_cases e2:t2=t
   . omega
   . rw[B9 e1]at h1;rw[B5 e2]at h2;cases h1
     have:=hfr b h3;have:=far t2 T2 h2 h4;omega
   . rw[B5 e1]at h1;rw[B9 e2]at h2;cases h2
     have:=hfr b h4;have:=far t1 T1 h1 h3;omega
   . rw[B5 e1]at h1;rw[B5 e2]at h2;exact hr.tdis t1 t2 T1 T2 b h1 h2 h3 h4
 . rw[Z2]
   simp only[Gh.sett]at hT'
   by_cases e:t'=t
   . simp[e]
   . rw[B5 e]at hT' ⊢;exact hr.tdom t' T' hT'
 . rw[Z2]at hn
   by_cases e:t'=t
   . rw[B9 e]at hn;cases hn
     obtain⟨A,c,h1,-⟩:=V4 hown
     exact⟨⟨v,E,k⟩,A,c,by simp[Gh.sett,e],h1⟩
   . rw[B5 e]at hn
     obtain⟨T',A,c,h1,h2⟩:=hr.tlen t' n' hn
     exact⟨T',A,c,by simp[Gh.sett,e,h1],h2⟩
theorem SRep.new_ts {k:Nat} (h:DRep (Fx (g.sett t ⟨v,E,k⟩)) w v (.sl k es)):SRep (g.sett t ⟨v,E,k⟩) w v (.ts t k es):=by
 refine⟨h,fun T hT=>?_⟩
 simp only[Gh.sett,B9]at hT
 cases hT
 refine⟨rfl,fun A n c h1=>?_⟩
 obtain⟨A',c',news,h2,-⟩:=DRep.row h
 have:=(Value.slice.inj (h1.symm.trans h2)).2.1
 exact⟨by omega,fun _=>rfl⟩
theorem JP (s t k:Nat) (hs:st.get s=.d (.val (.slice none 0 0))) (ht:st.tget t=none) (hno:st.noTs t=true) (h:PW P B w0 c Q ((st.put (some s) (.ts t k [])).tput t 0)) (hsm:Nat.blt (t % 100000) 10000=true:=by rfl):PW P B w0 c Q st:=fun g a w hr=>by
 have hv:=hr.slots s
 rw[hs]at hv
 have hv:a.tmps.getD s undef=.slice none 0 0:=DRep.val_eq hv
 obtain⟨ev,hr'⟩:=hr.newt (t:=t) (n:=0) (E:=t / 100000) (k:=k) (v:=.slice none 0 0) (xs:=[]) (Below.refl _ _) (fun b hb=>by simp[Value.ownBlock]at hb) (World.ownsRow_nil _ _ _ _) rfl (C0 hsm) ht hno
 refine h _ a w { hr' with lim:=hr'.lim,size:=hr'.size,slots:=fun i=>?_,boxes:=hr'.boxes,maps:=hr'.maps,dom:=hr'.dom,tdom:=hr'.tdom,tlen:=hr'.tlen,glob:=hr'.glob }
 show SRep _ w _ ((st.put (some s) (.ts t k [])).get i)
 rw[Q5]
 by_cases e:i=s
 . rw[B9 e,e,hv]
   exact SRep.new_ts DRep.nil
 . rw[B5 e]
   exact hr'.slots i
/-! literals -/
def setV (cs:Array Value):Nat->List Value->Array Value
 | _,[]=>cs
 | off,v::vs=>setV (cs.setIfInBounds off v) (off+1) vs
theorem Ma (vs:List Value) (off k:Nat) (cs:Array Value):(vs.zipIdx k).foldl (fun cs (p:Value×Nat)=>cs.setIfInBounds (off+p.2) p.1) cs=setV cs (off+k) vs:=by
 induction vs generalizing k cs with
 | nil=>rfl
 | cons v vs ih=>
  rw[List.zipIdx_cons,List.foldl_cons,ih,setV]
  rfl
def IM:List DV->Nat->List DV->List DV
 | cs,_,[]=>cs
 | cs,off,x::xs=>IM (cs.set off x) (off+1) xs
theorem JH (cs xs:List DV) (off:Nat):(IM cs off xs).length=cs.length:=by
 induction xs generalizing cs off with
 | nil=>rfl
 | cons x xs ih=>rw[IM,ih];simp
structure Reps (F:Nat->Nat->Prop) (w:World) (vs:List Value) (xs:List DV):Prop where
 len:vs.length=xs.length
 one:∀ v∈vs,v.oneCell'=true
 rep:∀ (i:Nat) v x,vs[i]? = some v->xs[i]? = some x->DRep F w v x
theorem Reps.set {xs:List DV} (h:Reps F w vs xs) (off:Nat) {x:DV} (hv:v.oneCell'=true) (hx:DRep F w v x):Reps F w (vs.set off v) (xs.set off x):=by
 refine⟨by simp[h.len],fun u hu=>?_,fun i u y hu hy=>?_⟩
 . rcases List.mem_or_eq_of_mem_set hu with h1|h1
   . exact h.one u h1
   . rw[h1];exact hv
 . by_cases e:i=off
   . subst e
     have h1:=(A6.1 hu).1
     rw[List.getElem?_set_self (by simpa using h1)]at hu
     have h2:=(A6.1 hy).1
     rw[List.getElem?_set_self (by simpa using h2)]at hy
     cases hu;cases hy;exact hx
   . rw[List.getElem?_set_ne (Ne.symm e)]at hu hy
     exact h.rep i u y hu hy
theorem Reps.setV {us:List Value} (h2:Reps F w us ys):∀ {vs:Array Value} {xs:List DV} (off:Nat),Reps F w vs.toList xs->Reps F w (setV vs off us).toList (IM xs off ys):=by
 induction us generalizing ys with
 | nil=>
  intro vs xs off h
  cases ys with
  | nil=>exact h
  | cons=>have:=h2.len;simp at this
 | cons u us ih=>
  intro vs xs off h
  cases ys with
  | nil=>have:=h2.len;simp at this
  | cons y ys=>
   refine ih ⟨by simpa using h2.len,fun v hv=>h2.one v (by simp[hv]),fun i v x hv hx=>h2.rep (i+1) v x (by simpa using hv) (by simpa using hx)⟩ (off+1) ?_
   rw[Array.toList_setIfInBounds]
   exact h.set off (h2.one u (by simp)) (h2.rep 0 u y C C)
def Ch (place:Nat->Option (Nat×Nat)) (cs:List DV):List (Nat×List DV)->Option (List DV)
 | []=>some cs
 | (i,xs)::rest=>match place i with
  | none=>none
  | some (off,size)=>bif Nat.beq xs.length size&&Nat.ble (off+xs.length) cs.length then Ch place (IM cs off xs) rest else none
theorem Ii {place:Nat->Option (Nat×Nat)}:∀ (ps:List (Nat×Value)) (qs:List (Nat×List DV)) (vs:Array Value) (xs ys:List DV),ps.length=qs.length->(∀ (i:Nat) p q,ps[i]? = some p->qs[i]? = some q->p.1=q.1∧Reps F w p.2.cells.toList q.2)->Reps F w vs.toList xs->Ch place xs qs=some ys →
 ∃ us,Instr.fill place vs ps=some us∧Reps F w us.toList ys:=by
 intro ps
 induction ps with
 | nil=>
  intro qs vs xs ys hl _ h hf
  cases qs with
  | nil=>cases hf;exact⟨vs,C,h⟩
  | cons=>cases hl
 | cons p ps ih=>
  intro qs vs xs ys hl hp h hf
  cases qs with
  | nil=>cases hl
  | cons q qs=>
   obtain⟨i,v⟩:=p
   obtain⟨i',zs⟩:=q
   obtain⟨rfl,h1⟩:=hp 0 _ _ rfl rfl
   simp only[Ch]at hf
   split at hf
   . cases hf
   . rename_i off size hpl
     cases hb:Nat.beq zs.length size&&Nat.ble (off+zs.length) xs.length with
     | false=>rw[hb]at hf;cases hf
     | true=>
      rw[hb,cond_true]at hf
      rw[D1]at hb
      have e1:=F8 hb.1
      have e2:=C0 hb.2
      have e3:v.cells.size=zs.length:=by simpa using h1.len
      have e4:vs.size=xs.length:=by simpa using h.len
      obtain⟨us,h2,h3⟩:=ih qs (setV vs off v.cells.toList) (IM xs off zs) ys (by simpa using hl) (fun j p q hp' hq'=>hp (j+1) p q (by simpa using hp') (by simpa using hq')) (h1.setV off h) hf
      refine⟨us,?_,h3⟩
      simp only[Instr.fill,hpl]
      rw[B5 (by simp;omega)]
      have e5:v.cells.zipIdx.foldl (fun cs (p:Value×Nat)=>cs.setIfInBounds (off+p.2) p.1) vs=setV vs off v.cells.toList:=by
       rw[<-Array.foldl_toList,Array.toList_zipIdx]
       have:=Ma v.cells.toList off 0 vs
       simpa using this
      exact(G4 (fun q=>Instr.fill place q ps) e5).trans h2
def partD:SV->Option (List DV)
 | .d (.agg cs)=>some cs
 | .d x=>some [x]
 | .ts _ k es=>some [.sl k es]
 | _=>none
theorem SRep.partD {x:SV} (h:SRep g w v x) (hx:partD x=some ys):Reps (Fx g) w v.cells.toList ys:=by
 have key:∀ cs:List SV,Ay x=some cs->Ag cs=some ys->Reps (Fx g) w v.cells.toList ys:=by
  intro cs h1 h2
  obtain⟨h3,h4,h5⟩:=h.cells h1
  obtain⟨h6,h7⟩:=Y0 h2
  refine⟨by simp[h3,h6],h4,fun i u y hu hy=>?_⟩
  obtain⟨c,h8,h9⟩:=h7 i y hy
  obtain⟨u',h10,h11⟩:=h5 i c h8
  have:u'=u:=by
   have h12:v.cells[i]? = some u:=by simpa using hu
   rw[h10]at h12;exact J0 h12
  exact this ▸ h11.toD h9
 cases x with
 | d x=>
  cases x with
  | val u=>cases hx;exact key _ C C
  | sl k es=>cases hx;exact key _ C C
  | ref cs=>cases hx;exact key _ C C
  | abs R=>cases hx;exact key _ C C
  | mp ms=>cases hx;exact key _ C C
  | agg cs=>
   cases hx
   have:∀ l:List DV,Ag (l.map SV.d)=some l:=by
    intro l
    induction l with
    | nil=>rfl
    | cons z l ih=>simp only[List.map_cons,Ag,ih];rfl
   exact key _ C (this _)
 | ts t k es=>cases hx;exact key _ C C
 | _=>cases hx
def Y4 (st:PS):List (Nat×Operand)->Option (List (Nat×List DV))
 | []=>some []
 | (i,x)::l=>match partD (st.ev x),Y4 st l with
  | some y,some ys=>some ((i,y)::ys)
  | _,_=>none
theorem Gw {l:List (Nat×Operand)} {ys:List (Nat×List DV)} (h:Y4 st l=some ys):l.length=ys.length ∧ ∀ (j:Nat) p q,l[j]? = some p->ys[j]? = some q->p.1=q.1∧partD (st.ev p.2)=some q.2:=by
 induction l generalizing ys with
 | nil=>cases h;exact⟨rfl,fun j x y hj=>by simp at hj⟩
 | cons p l ih=>
  obtain⟨i,x⟩:=p
  simp only[Y4]at h
  split at h
  . rename_i y0 ys0 h1 h2
    cases h
    obtain⟨h3,h4⟩:=ih h2
    refine⟨by simp[h3],fun j x' y hx hy=>?_⟩
    cases j with
    | zero=>simp at hx hy;subst hx hy;exact⟨rfl,h1⟩
    | succ j=>exact h4 j x' y (by simpa using hx) (by simpa using hy)
  . cases h
theorem Dw {l:List (Nat×Operand)} (h:∀ p∈l,st2.ev p.2=st.ev p.2):Y4 st2 l=Y4 st l:=by
 induction l with
 | nil=>rfl
 | cons x l ih=>obtain⟨i,x⟩:=x;simp only[Y4];rw[h (i,x) (by simp),ih fun y hy=>h y (by simp[hy])]
class BuildOf (P:Program) (T:TypeId) (places:outParam (List (Nat×Nat))) (zs:outParam (List Value)):Prop where
 run:∀ w (parts:Array (Nat×Value)) cells,Instr.fill (places.toArray[·]?) zs.toArray parts.toList=some cells->(Instr.build T parts).run P w=.ok (.agg cells) w
 one:∀ z∈zs,z.oneCell'=true
theorem X1 {T:TypeId} {fs:Array Field} (hz:∀ w,(zeroValue T).run P w=.ok z w) (hzc:z.cells=zs.toArray) (hu:∀ w,(underlying T).run P w=.ok (.struct fs) w)
 (hp:∀ w,(fs.mapM fun f=>do pure (f.offset,<-Go.sizeOf f.type):Sem (Array (Nat×Nat))).run P w=.ok places.toArray w) (one:∀ z∈zs,z.oneCell'=true):BuildOf P T places zs:=by
 refine⟨fun w parts cells h=>?_,one⟩
 unfold Instr.build
 simp only[Sem.run_bind,hz,D4,hu,hp,hzc,h,Sem.run_pure]
section
variable {d:Option Nat} {ty:TypeId} {pos:String} {af:Array Edge} {gd:Option (Nat×Bool)}
theorem Rs (T:TypeId) (ps:List (Nat×Operand)) [hB:BuildOf P T places zs] (hq:Y4 st ps=some qs) (hf:Ch (places.toArray[·]?) (zs.map .val) qs=some ys) (hd:I1 ⟨d,.build T ps.toArray,ty,pos,af,gd⟩ st=true):
 M6 P ⟨d,.build T ps.toArray,ty,pos,af,gd⟩ st (.d (.agg ys)) .no:=fun st2 ha=>
 OpS.value (ha.dst hd) fun _ _ g a w h=>by
  have hq2:Y4 st2 ps=some qs:=by
   rw[Dw fun p hp=>ha.ev p.2 ?_]
   . exact hq
   . simp only[Op.operands,List.mem_toArray,H2]
     exact⟨p,hp,C⟩
  obtain⟨h1,h2⟩:=Gw hq2
  obtain⟨us,h3,h4⟩:=Ii (F:=Fx g) (w:=w) (ps.map fun p=>(p.1,a.eval p.2)) qs zs.toArray (zs.map .val) ys (by simp[h1]) (fun i p q hp hq'=>by
   rw[C6,C7]at hp
   obtain⟨p',hp',rfl⟩:=hp
   obtain⟨h5,h6⟩:=h2 i p' q hp' hq'
   exact⟨h5,(h.eval p'.2).partD h6⟩) ⟨by simp,by simpa using hB.one,fun i v x hv hx=>by
    rw[C6]at hx
    have hv':zs[i]? = some v:=by simpa using hv
    rw[hv']at hx
    cases hx
    exact DRep.val v (hB.one v (B8 hv'))⟩ hf
  refine⟨.agg us,w,?_,Below.refl _ _,?_⟩
  . simp only[execOp,Sem.run_bind,List.map_toArray]
    rw[hB.run w _ us (by simpa using h3)]
    rfl
  . have:us=us.toList.toArray:=by simp
    rw[this]
    exact DRep.agg h4.len h4.one h4.rep
def O9 (k:Nat):Nat->List DV->List (List DV)
 | 0,_=>[]
 | n+1,l=>l.take k::O9 k n (l.drop k)
theorem S8 (k n:Nat) (l:List DV):(O9 k n l).length=n:=by
 induction n generalizing l with
 | zero=>rfl
 | succ n ih=>simp[O9,ih]
theorem Bh (k n:Nat) (l:List DV) (i j:Nat) (e:List DV) (x:DV) (he:(O9 k n l)[i]? = some e) (hx:e[j]? = some x) (hl:l.length=n*k):l[i*k+j]? = some x∧e.length=k:=by
 induction n generalizing l i with
 | zero=>simp[O9]at he
 | succ n ih=>
  rw[Nat.succ_mul]at hl
  cases i with
  | zero=>
   simp[O9]at he
   subst he
   have hlen:(l.take k).length=k:=by rw[F4];omega
   have hj:=(A6.1 hx).1
   rw[hlen]at hj
   rw[E8 hj]at hx
   exact⟨by simpa using hx,hlen⟩
  | succ i=>
   obtain⟨h1,h2⟩:=ih (l.drop k) i (by simpa[O9]using he) (by simp;omega)
   rw[List.getElem?_drop]at h1
   exact⟨by rw[show(i+1)*k+j=k+(i*k+j)by rw[Nat.succ_mul];omega];exact h1,h2⟩
theorem DE (k n:Nat) (l:List DV) (hl:l.length=n*k):∀ e∈O9 k n l,e.length=k:=by
 induction n generalizing l with
 | zero=>intro e he;simp[O9]at he
 | succ n ih=>
  rw[Nat.succ_mul]at hl
  intro e he
  rcases List.mem_cons.1 he with h|h
  . rw[h,F4];omega
  . exact ih (l.drop k) (by simp;omega) e h
class LitOf (P:Program) (T:TypeId) (E:outParam TypeId) (k:outParam Nat) (zs:outParam (List Value)):Prop where
 und:∀ w,(underlying T).run P w=.ok (.slice E) w
 size:∀ w,(Go.sizeOf E).run P w=.ok k w
 zero:∀ w,∃ z,(zeroValue E).run P w=.ok z w∧z.cells=zs.toArray
 len:zs.length=k
 one:∀ z∈zs,z.oneCell'=true
def W0 (zs:List Value):Nat->List DV
 | 0=>[]
 | n+1=>zs.map .val++W0 zs n
theorem Z8 (zs:List Value) (n:Nat):(W0 zs n).length=n*zs.length:=by
 induction n with
 | zero=>simp[W0]
 | succ n ih=>simp[W0,ih,Nat.succ_mul];omega
theorem GS (zs:List Value) (n i:Nat) (x:DV) (hi:(W0 zs n)[i]? = some x):x=.val (zs.toArray[i % zs.length]!)∧zs.toArray[i % zs.length]! ∈ zs:=by
 induction n generalizing i with
 | zero=>simp[W0]at hi
 | succ n ih=>
  simp only[W0]at hi
  by_cases h:i<zs.length
  . rw[F3 (by simpa using h),C6,A4 h]at hi
    rw[Nat.mod_eq_of_lt h]
    simp at hi
    simp[h,<-hi]
  . rw[E9 (by simp;omega)]at hi
    simp only[A8]at hi
    have h0:0<zs.length:=by
     rcases H7 zs.length with h0|h0
     . have hlt:=(A6.1 hi).1
       rw[Z8,h0]at hlt
       simp at hlt
     . exact h0
    have:=ih (i-zs.length) hi
    rw[show(i-zs.length) % zs.length=i % zs.length from(Nat.mod_eq_sub_mod (by omega)).symm]at this
    exact this
theorem HK {k:Nat} [hB:LitOf P T E k zs] (hq2:Y4 st2 ps=some qs) (hf:Ch (fun i=>some (i*k,k)) (W0 zs n) qs=some ys) (he:O9 k n ys=es) (hsm:n*k<=16777216) (hsn:n<=16777216) (h:Rep B w0 g st2 a w):
 ∃ us:Array Value,(execOp a.eval ⟨d,.buildSlice T n ps.toArray,ty,pos,af,gd⟩).run P w=.ok (.value (.slice (some ⟨w.heap.size,0,none⟩) n n)) (w.alloc (.cells us E))∧us.size=n*k∧DRep (Fx g) (w.alloc (.cells us E)) (.slice (some ⟨w.heap.size,0,none⟩) n n) (.sl k es):=by
 obtain⟨h1,h2⟩:=Gw hq2
 have hz:Reps (Fx g) w ((Array.range (n*k)).map (zs.toArray[· % zs.toArray.size]!)).toList (W0 zs n):=by
  refine⟨by simp[Z8,hB.len],fun v hv=>?_,fun i v x hv hx=>?_⟩
  . obtain⟨i,hi⟩:=List.mem_iff_getElem?.1 hv
    have hlt:=(A6.1 hi).1
    simp at hlt
    obtain⟨x,hx⟩:∃ x,(W0 zs n)[i]? = some x:=⟨_,A4 (by rw[Z8,hB.len];exact hlt)⟩
    have h5:=GS zs n i x hx
    simp[hlt]at hi
    rw[<-hi]
    simpa using hB.one _ h5.2
  . have h5:=GS zs n i x hx
    have hlt:=(A6.1 hv).1
    simp at hlt
    simp[hlt]at hv
    rw[h5.1]
    have h6:=hB.one _ h5.2
    have h7:zs.toArray[i % zs.length]! = v:=by rw[<-hv];simp
    rw[h7]at h6 ⊢
    exact DRep.val _ h6
 obtain⟨us,h3,h4⟩:=Ii (F:=Fx g) (w:=w) (ps.map fun p=>(p.1,a.eval p.2)) qs _ (W0 zs n) ys (by simp[h1]) (fun i p q hp hq'=>by
  rw[C6,C7]at hp
  obtain⟨p',hp',rfl⟩:=hp
  obtain⟨h5,h6⟩:=h2 i p' q hp' hq'
  exact⟨h5,(h.eval p'.2).partD h6⟩) hz hf
 have hyl:ys.length=n*k:=by
  have:∀ (qs:List (Nat×List DV)) (xs ys:List DV),Ch (fun i=>some (i*k,k)) xs qs=some ys->ys.length=xs.length:=by
   intro qs
   induction qs with
   | nil=>intro xs ys h;cases h;rfl
   | cons q qs ih=>
    intro xs ys h
    obtain⟨i,z⟩:=q
    simp only[Ch]at h
    cases hb:Nat.beq z.length k&&Nat.ble (i*k+z.length) xs.length with
    | false=>rw[hb]at h;cases h
    | true=>rw[hb,cond_true]at h;rw[ih _ _ h,JH]
  rw[this qs _ ys hf,Z8,hB.len]
 have hul:us.size=n*k:=by have:=h4.len;simp at this;omega
 refine⟨us,?_,hul,?_⟩
 . obtain⟨z,hz1,hz2⟩:=hB.zero w
   have hrun:(Instr.buildSlice T n (ps.map fun p=>(p.1,a.eval p.2)).toArray).run P w=.ok (.slice (some ⟨w.heap.size,0,none⟩) n n) (w.alloc (.cells us E)):=by
    unfold Instr.buildSlice
    simp only[Sem.run_bind,hB.und,hB.size,D4]
    rw[B5 (by simp;omega)]
    by_cases hnk:n*k=0
    . have hqs:Instr.fill (fun i=>some (i*k,k)) ((Array.range (n*k)).map ((#[]:Array Value)[· % (#[]:Array Value).size]!)) (ps.map fun p=>(p.1,a.eval p.2))=some us:=by
       rw[<-h3];congr 1;rw[hnk];simp
      simp only[hnk,if_true,pure_bind]at hqs ⊢
      simp only[hqs,Sem.run_bind,newRow,run_newObj,D4,Sem.run_pure,World.alloc]
    . simp only[hnk,if_false,Sem.run_bind,hz1,D4,pure_bind,hz2]
      simp only[h3,Sem.run_bind,newRow,run_newObj,D4,Sem.run_pure,World.alloc]
   simp only[execOp,Sem.run_bind,List.map_toArray,hrun,D4,Sem.run_pure]
 . have e0:=Evo.grow (g:=g) (fun i b hi=>(h.blk i b hi).2) ((Below.refl _ w).alloc (E0 _) (.cells us E))
   have hel:es.length=n:=by rw[<-he];exact S8 k n ys
   subst he
   have:DRep (Fx g) (w.alloc (.cells us E)) (.slice (some ⟨w.heap.size,0,none⟩) (O9 k n ys).length n) (.sl k (O9 k n ys)):=by
    refine DRep.of_row (xs:=us.toList) (by omega) (by omega) (DE k n ys hyl) (fun _=>⟨w.heap.size,0,C,fun j u hj=>⟨?_,?_⟩⟩) h4.one fun i j e x he' hx=>?_
    . rw[E4]
      simp only[World.cell?,heap_alloc_new,Option.isSome_none,Bool.false_eq_true,if_false]
      simpa using hj
    . refine⟨h.f0 _ _ h.base,fun i' hi'=>?_,fun t T n' c' hT hv=>?_⟩
      . have:=(h.blk i' _ hi').2;omega
      . obtain⟨⟨n'',xs,h8⟩,-⟩:=h.toks t T hT
        have:=(h8.lt w.heap.size (by rw[hv];rfl)).2
        omega
    . obtain⟨h8,h9⟩:=Bh k n ys i j e x he' hx hyl
      have hlt:=(A6.1 h8).1
      have h10:us.toList[i*k+j]? = some _:=A4 (by simp;omega)
      exact⟨_,h10,(h4.rep _ _ x h10 h8).mono e0.fx⟩
   rw[hel]at this
   exact this
theorem ls_lit (T:TypeId) (n:Nat) (ps:List (Nat×Operand)) {k:Nat} [hB:LitOf P T E k zs] (hq:Y4 st ps=some qs) (hf:Ch (fun i=>some (i*k,k)) (W0 zs n) qs=some ys) (he:O9 k n ys=es) (hsm:Nat.ble (n*k) 16777216=true) (hsn:Nat.ble n 16777216=true) (hd:I1 ⟨d,.buildSlice T n ps.toArray,ty,pos,af,gd⟩ st=true):
 M6 P ⟨d,.buildSlice T n ps.toArray,ty,pos,af,gd⟩ st (.d (.sl k es)) .no:=fun st2 ha=>by
 have hsm:=C0 hsm
 have hsn:=C0 hsn
 refine OpS.value (ha.dst hd) fun _ _ g a w h=>?_
 have hq2:Y4 st2 ps=some qs:=by
  rw[Dw fun p hp=>ha.ev p.2 ?_]
  . exact hq
  . simp only[Op.operands,List.mem_toArray,H2]
    exact⟨p,hp,C⟩
 obtain⟨us,h1,-,h3⟩:=HK (P:=P) (T:=T) (d:=d) (ty:=ty) (pos:=pos) (af:=af) (gd:=gd) hq2 hf he hsm hsn h
 exact⟨_,_,h1,(Below.refl _ _).alloc (E0 _) _,h3⟩
/-! conversions of integers and strings; min and max -/
class UndI (P:Program) (T:TypeId) (kd:outParam IntKind):Prop where
 run:∀ w,(underlying T).run P w=.ok (.int kd) w
class UndS (P:Program) (T:TypeId):Prop where
 run:∀ w,(underlying T).run P w=.ok .string w
theorem Ro (S D:TypeId) (x:Operand) {ks k:IntKind} {n:Int} [hS:UndI P S ks] [hD:UndI P D kd] (hx:st.ev x=.d (.val (.int k n))) (hd:I1 ⟨d,.convert S D x,ty,pos,af,gd⟩ st=true):
 M6 P ⟨d,.convert S D x,ty,pos,af,gd⟩ st (.d (.val (.int kd (kd.wrap n)))) .no:=fun st2 ha=>
 OpS.value (ha.dst hd) fun _ _ _ a w h=>by
  have h1:=h.eval x
  rw[ha.ev x (by simp[Op.operands]),hx]at h1
  refine⟨.int kd (kd.wrap n),w,?_,Below.refl _ _,DRep.val _ C⟩
  simp only[execOp,DRep.val_eq h1,convert,Sem.run_bind,hS.run,hD.run,D4,Conv.intToInt,Sem.run_pure]
def AO (st:PS):List Operand->Option (List Value)
 | []=>some []
 | x::l=>match st.ev x,AO st l with
  | .d (.val v),some vs=>some (v::vs)
  | _,_=>none
theorem He (h:AO st l=some vs) (hr:Rep B w0 g st a w):l.map a.eval=vs:=by
 induction l generalizing vs with
 | nil=>cases h;rfl
 | cons x l ih=>
  simp only[AO]at h
  split at h
  . rename_i v vs' h1 h2
    cases h
    have h3:=hr.eval x
    rw[h1]at h3
    rw[List.map_cons,ih h2,DRep.val_eq h3]
  . cases h
theorem ER (h:∀ x∈l,st2.ev x=st.ev x):AO st2 l=AO st l:=by
 induction l with
 | nil=>rfl
 | cons x l ih=>simp only[AO];rw[h x (by simp),ih fun y hy=>h y (by simp[hy])]
theorem ls_bi (b:Builtin) (l:List Operand) (ts:Array TypeId) (hx:AO st l=some vs) (hr:builtin b ts ty (l.toArray.map fun|.const _=>true|_=>false) vs.toArray=Sem.pure (.value u)) (hu:u.oneCell'=true) (hd:I1 ⟨d,.call { callee:=.builtin b,args:=l.toArray,argTypes:=ts },ty,pos,af,gd⟩ st=true):
 M6 P ⟨d,.call { callee:=.builtin b,args:=l.toArray,argTypes:=ts },ty,pos,af,gd⟩ st (.d (.val u)) .no:=fun st2 ha=>
 OpS.value (ha.dst hd) fun _ _ _ a w h=>by
  have h1:AO st2 l=some vs:=by rw[ER fun x hx=>ha.ev x (by simp[Op.operands,Call.operands,hx])];exact hx
  have h2:=He h1 h
  refine⟨u,w,?_,Below.refl _ _,DRep.val _ hu⟩
  have h3:(execOp a.eval ⟨d,.call { callee:=.builtin b,args:=l.toArray,argTypes:=ts },ty,pos,af,gd⟩).run P w=(builtin b ts ty (l.toArray.map fun|.const _=>true|_=>false) (l.map a.eval).toArray).run P w:=by
   simp only[execOp,resolve,Sem.run_bind,Sem.run_pure,D4,invoke,List.map_toArray]
   rfl
  rw[h3,h2,hr]
  rfl
theorem yRt {rest:List Oper} {k:Nat} [hB:LitOf P T E k zs] (hq:Y4 st ps=some qs) (hf:Ch (fun i=>some (i*k,k)) (W0 zs n) qs=some ys) (he:O9 k n ys=es) (hsm:Nat.ble (n*k) 16777216=true) (hsn:Nat.ble n 16777216=true)
 (hE:t / 100000=E) (ht:st.tget t=none) (hno:st.noTs t=true) (h:YR P true ops K rest ((st.tput t n).put (some e) (.ts t k es))) (hd:I1 ⟨some e,.buildSlice T n ps.toArray,ty,pos,af,gd⟩ st=true:=by kernel_rfl) (hw:st.want ops ⟨some e,.buildSlice T n ps.toArray,ty,pos,af,gd⟩=some true:=by rfl) (hst:Nat.blt (t % 100000) 10000=true:=by rfl):
 YR P true ops K (⟨some e,.buildSlice T n ps.toArray,ty,pos,af,gd⟩::rest) st:=by
 have hsm:=C0 hsm
 have hsn:=C0 hsn
 refine .any C fun B w0 Q hQ g a w hr=>?_
 obtain⟨us,h1,h2,h3⟩:=HK (P:=P) (T:=T) (d:=some e) (ty:=ty) (pos:=pos) (af:=af) (gd:=gd) hq hf he hsm hsn hr
 have hown:(w.alloc (.cells us E)).ownsRow 0 E k (.slice (some ⟨w.heap.size,0,none⟩) n n) n us.toList:=
  ⟨by simp[h2],.inr ⟨w.heap.size,n,us,rfl,E7 _,heap_alloc_new _ _,E0 _,by unfold maxLen;omega,h2,by rw[E3 (by simp[h2])]⟩⟩
 have hb:Below w.heap.size w (w.alloc (.cells us E)):=(Below.refl _ _).alloc (E0 _) _
 obtain⟨ev,hnew⟩:=hr.newt (t:=t) hb (fun b hb'=>by simp[Value.ownBlock]at hb';omega) hown hE (C0 hst) ht hno
 have fx:Kp (Fx g) (w.alloc (.cells us E)) (Fx (g.sett t ⟨.slice (some ⟨w.heap.size,0,none⟩) n n,E,k⟩)) (w.alloc (.cells us E)):=by
  refine fun b o hf' hs=>⟨⟨hf'.1,hf'.2.1,fun t' T' n' c' q1 q2=>?_⟩,C⟩
  simp only[Gh.sett]at q1
  by_cases e':t'=t
  . rw[B9 e']at q1
    cases q1
    cases q2
    rw[BP (heap_alloc_new _ _)]at hs
    rw[<-h2]
    rcases D5 o us.size with h5|h5
    . exact h5
    . rw[Array.getElem?_eq_none h5]at hs;simp at hs
  . rw[B5 e']at q1;exact hf'.2.2 t' T' n' c' q1 q2
 have hput:=hnew.put (v:=.slice (some ⟨w.heap.size,0,none⟩) n n) (x:=.ts t k es) (SRep.new_ts (h3.mono fx)) (some e) (fun i hi=>H6 (st:=st) hd i hi)
 unfold wpList
 rw[B9 (M4 hr hw)]
 refine .inl ?_
 unfold Oper.wp
 rw[h1]
 exact h.sound hQ hput
end
section
variable {sq:Bool} {rest:List Oper} {d:Option Nat} {op:Op} {ty:TypeId} {pos:String} {af:Array Edge} {gd:Option (Nat×Bool)} {q:Nat×Bool}
theorem B6 {u:DV} (hx:st.ev y=.d u) (h:YR P sq ops K rest (st.put d (.d u))) (zz:zk ops st ⟨d,.move y,ty,pos,af,gd⟩ .no=true:=by kernel_rfl):YR P sq ops K (⟨d,.move y,ty,pos,af,gd⟩::rest) st:=M3 (lm (x:=.d u) hx (zd zz)) (zo zz) (zw zz) h
theorem H3 {u:DV} (hx:st.ev y=.d u) (h:YR P sq ops K rest (st.put d (.d u))) (zz:zk ops st ⟨d,.assign y,ty,pos,af,gd⟩ .no=true:=by kernel_rfl):YR P sq ops K (⟨d,.assign y,ty,pos,af,gd⟩::rest) st:=M3 (la (x:=.d u) hx (zd zz)) (zo zz) (zw zz) h
theorem yMb {o:Nat} (hx:st.ev y=.bx i o) (h:YR P sq ops K rest (st.put d (.bx i o))) (zz:zk ops st ⟨d,.move y,ty,pos,af,gd⟩ .no=true:=by kernel_rfl):YR P sq ops K (⟨d,.move y,ty,pos,af,gd⟩::rest) st:=M3 (lm (x:=.bx i o) hx (zd zz)) (zo zz) (zw zz) h
theorem CM {k:Nat} (hx:st.ev y=.ts t k es) (h:YR P sq ops K rest (st.put d (.ts t k es))) (zz:zk ops st ⟨d,.move y,ty,pos,af,gd⟩ .no=true:=by kernel_rfl):YR P sq ops K (⟨d,.move y,ty,pos,af,gd⟩::rest) st:=M3 (lm (x:=.ts t k es) hx (zd zz)) (zo zz) (zw zz) h
theorem DX {k:Nat} (hx:st.ev y=.ts t k es) (h:YR P sq ops K rest (st.put d (.ts t k es))) (zz:zk ops st ⟨d,.assign y,ty,pos,af,gd⟩ .no=true:=by kernel_rfl):YR P sq ops K (⟨d,.assign y,ty,pos,af,gd⟩::rest) st:=M3 (la (x:=.ts t k es) hx (zd zz)) (zo zz) (zw zz) h
theorem N9 {xs:List DV} (hx:st.ev y=.tup xs) (h:YR P sq ops K rest (st.put d (.tup xs))) (zz:zk ops st ⟨d,.move y,ty,pos,af,gd⟩ .no=true:=by kernel_rfl):YR P sq ops K (⟨d,.move y,ty,pos,af,gd⟩::rest) st:=M3 (lm (x:=.tup xs) hx (zd zz)) (zo zz) (zw zz) h
theorem yMf {cs:List Nat} (hx:st.ev y=.fn f cs) (h:YR P sq ops K rest (st.put d (.fn f cs))) (zz:zk ops st ⟨d,.move y,ty,pos,af,gd⟩ .no=true:=by kernel_rfl):YR P sq ops K (⟨d,.move y,ty,pos,af,gd⟩::rest) st:=M3 (lm (x:=.fn f cs) hx (zd zz)) (zo zz) (zw zz) h
theorem yAf {cs:List Nat} (hx:st.ev y=.fn f cs) (h:YR P sq ops K rest (st.put d (.fn f cs))) (zz:zk ops st ⟨d,.assign y,ty,pos,af,gd⟩ .no=true:=by kernel_rfl):YR P sq ops K (⟨d,.assign y,ty,pos,af,gd⟩::rest) st:=M3 (la (x:=.fn f cs) hx (zd zz)) (zo zz) (zw zz) h
theorem L0 {u:DV} {c z:Operand} (hc:st.ev c=.d (.val (.bool true))) (hx:st.ev y=.d u) (h:YR P sq ops K rest (st.put d (.d u))) (zz:zk ops st ⟨d,.pick c y z,ty,pos,af,gd⟩ .no=true:=by kernel_rfl):YR P sq ops K (⟨d,.pick c y z,ty,pos,af,gd⟩::rest) st:=M3 (lpt (x:=.d u) hc hx (zd zz)) (zo zz) (zw zz) h
theorem K9 {u:DV} {c z:Operand} (hc:st.ev c=.d (.val (.bool false))) (hx:st.ev z=.d u) (h:YR P sq ops K rest (st.put d (.d u))) (zz:zk ops st ⟨d,.pick c y z,ty,pos,af,gd⟩ .no=true:=by kernel_rfl):YR P sq ops K (⟨d,.pick c y z,ty,pos,af,gd⟩::rest) st:=M3 (lpf (x:=.d u) hc hx (zd zz)) (zo zz) (zw zz) h
theorem K5 {cs:List DV} {c:DV} [AggOf P T false 1] (hx:st.ev y=.rd cs) (hc:cs[0]? = some c) (h:YR P sq ops K rest (st.put d (.d c))) (zz:zk ops st ⟨d,.load T y,ty,pos,af,gd⟩ .no=true:=by kernel_rfl):YR P sq ops K (⟨d,.load T y,ty,pos,af,gd⟩::rest) st:=M3 (load_rd T y hx hc (zd zz)) (zo zz) (zw zz) h
theorem T3 {k:Nat} {cs:List DV} [AggOf P T true k] (hx:st.ev y=.rd cs) (hc:cs.take k=ys) (hl:ys.length=k) (h:YR P sq ops K rest (st.put d (.d (.agg ys)))) (zz:zk ops st ⟨d,.load T y,ty,pos,af,gd⟩ .no=true:=by kernel_rfl):YR P sq ops K (⟨d,.load T y,ty,pos,af,gd⟩::rest) st:=M3 (Ko T y hx hc hl (zd zz)) (zo zz) (zw zz) h
theorem AL {u:DV} {cs:List SV} [AggOf P T false 1] (hx:st.ev y=.bx i off) (hi:st.bget i=some cs) (hc:cs[off]? = some (.d u)) (h:YR P sq ops K rest (st.put d (.d u))) (zz:zk ops st ⟨d,.load T y,ty,pos,af,gd⟩ .no=true:=by kernel_rfl) (h5:Nat.blt i 500000=true:=by rfl):YR P sq ops K (⟨d,.load T y,ty,pos,af,gd⟩::rest) st:=M3 (Je T y (C0 h5) hx hi hc (zd zz)) (zo zz) (zw zz) h
theorem Ju {k:Nat} {cs:List SV} [AggOf P T false 1] (hx:st.ev y=.bx i off) (hi:st.bget i=some cs) (hc:cs[off]? = some (.ts t k es)) (h:YR P sq ops K rest (st.put d (.ts t k es))) (zz:zk ops st ⟨d,.load T y,ty,pos,af,gd⟩ .no=true:=by kernel_rfl) (h5:Nat.blt i 500000=true:=by rfl):YR P sq ops K (⟨d,.load T y,ty,pos,af,gd⟩::rest) st:=M3 (Je T y (C0 h5) hx hi hc (zd zz)) (zo zz) (zw zz) h
theorem Ae {k:Nat} {cs:List SV} [AggOf P T true k] (hx:st.ev y=.bx i off) (hi:st.bget i=some cs) (hc:Ag ((cs.drop off).take k)=some ys) (hl:ys.length=k) (h:YR P sq ops K rest (st.put d (.d (.agg ys)))) (zz:zk ops st ⟨d,.load T y,ty,pos,af,gd⟩ .no=true:=by kernel_rfl) (h5:Nat.blt i 500000=true:=by rfl):YR P sq ops K (⟨d,.load T y,ty,pos,af,gd⟩::rest) st:=M3 (Kq T y (C0 h5) hx hi hc hl (zd zz)) (zo zz) (zw zz) h
theorem X9 {S:Nat} {o:Nat} [FieldOf P S f off T] (hx:st.ev y=.bx i o) (h:YR P sq ops K rest (st.put d (.bx i (o+off)))) (zz:zk ops st ⟨d,.fieldAddr S y f,ty,pos,af,gd⟩ .no=true:=by kernel_rfl):YR P sq ops K (⟨d,.fieldAddr S y f,ty,pos,af,gd⟩::rest) st:=M3 (fa_bx S f y hx (zd zz)) (zo zz) (zw zz) h
theorem Q3 {S:Nat} {cs cs':List DV} [FieldOf P S f off T] (hx:st.ev y=.rd cs) (hc:cs.drop off=cs') (h:YR P sq ops K rest (st.put d (.rd cs'))) (zz:zk ops st ⟨d,.fieldAddr S y f,ty,pos,af,gd⟩ .no=true:=by kernel_rfl):YR P sq ops K (⟨d,.fieldAddr S y f,ty,pos,af,gd⟩::rest) st:=M3 (fa_rd S f y hx hc (zd zz)) (zo zz) (zw zz) h
theorem yE {S:Nat} {cs:List DV} {c:DV} [FieldOf P S f off T] [AggOf P T false 1] (hx:st.ev y=.d (.agg cs)) (hc:cs[off]? = some c) (h:YR P sq ops K rest (st.put d (.d c))) (zz:zk ops st ⟨d,.field S y f,ty,pos,af,gd⟩ .no=true:=by kernel_rfl):YR P sq ops K (⟨d,.field S y f,ty,pos,af,gd⟩::rest) st:=M3 (Rn S f y hx hc (zd zz)) (zo zz) (zw zz) h
theorem yB {op:BinOp} {t':Nat} {vx vy:Value} (hx:st.ev x=.d (.val vx)) (hy:st.ev y=.d (.val vy)) (hr:(eqGuard op t x y vx vy >>= fun _=>binOp op t vx vy)=Sem.pure u) (hu:u.oneCell'=true) (h:YR P sq ops K rest (st.put d (.d (.val u)))) (zz:zk ops st ⟨d,.binOp op t x y t',ty,pos,af,gd⟩ .no=true:=by kernel_rfl):YR P sq ops K (⟨d,.binOp op t x y t',ty,pos,af,gd⟩::rest) st:=M3 (Dd op t t' x y hx hy hr hu (zd zz)) (zo zz) (zw zz) h
theorem yU {op:UnOp} {vx:Value} (hx:st.ev x=.d (.val vx)) (hr:Op.unary op vx=Sem.pure u) (hu:u.oneCell'=true) (h:YR P sq ops K rest (st.put d (.d (.val u)))) (zz:zk ops st ⟨d,.unOp op t x,ty,pos,af,gd⟩ .no=true:=by kernel_rfl):YR P sq ops K (⟨d,.unOp op t x,ty,pos,af,gd⟩::rest) st:=M3 (ls_un op t x hx hr hu (zd zz)) (zo zz) (zw zz) h
theorem yX {xs:List DV} {u:DV} (hx:st.ev x=.tup xs) (hu:xs[i]? = some u) (h:YR P sq ops K rest (st.put d (.d u))) (zz:zk ops st ⟨d,.extract x i,ty,pos,af,gd⟩ .no=true:=by kernel_rfl):YR P sq ops K (⟨d,.extract x i,ty,pos,af,gd⟩::rest) st:=M3 (MP x i hx hu (zd zz)) (zo zz) (zw zz) h
theorem yN {k:Nat} [SliceOf P T E k] (hx:asSl (st.ev x)=some (k,es)) (h:YR P sq ops K rest (st.put d (.d (.val (.int .i64 es.length))))) (zz:zk ops st ⟨d,.call { callee:=.builtin .len,args:=#[x],argTypes:=#[T] },ty,pos,af,gd⟩ .no=true:=by kernel_rfl):YR P sq ops K (⟨d,.call { callee:=.builtin .len,args:=#[x],argTypes:=#[T] },ty,pos,af,gd⟩::rest) st:=M3 (PB T x hx (zd zz)) (zo zz) (zw zz) h
theorem yC [HasBody P f] (hc:PCalls P f ys r) (ha:Be st l=some ys) (hr:BR r=true) (h:YR P sq ops K rest (st.put d r)) (zz:zk ops st ⟨d,.call { callee:=.value (.func f),args:=l.toArray,argTypes:=ts },ty,pos,af,gd⟩ .no=true:=by kernel_rfl):YR P sq ops K (⟨d,.call { callee:=.value (.func f),args:=l.toArray,argTypes:=ts },ty,pos,af,gd⟩::rest) st:=M3 (ls_call f l ts ha hc hr (zd zz)) (zo zz) (zw zz) h
theorem yI {b:Builtin} (hx:AO st l=some vs) (hr:builtin b ts ty (l.toArray.map fun|.const _=>true|_=>false) vs.toArray=Sem.pure (.value u)) (hu:u.oneCell'=true) (h:YR P sq ops K rest (st.put d (.d (.val u)))) (zz:zk ops st ⟨d,.call { callee:=.builtin b,args:=l.toArray,argTypes:=ts },ty,pos,af,gd⟩ .no=true:=by kernel_rfl):YR P sq ops K (⟨d,.call { callee:=.builtin b,args:=l.toArray,argTypes:=ts },ty,pos,af,gd⟩::rest) st:=M3 (ls_bi b l ts hx hr hu (zd zz)) (zo zz) (zw zz) h
theorem yJ {S D:Nat} {ks k:IntKind} {n:Int} [UndI P S ks] [UndI P D kd] (hx:st.ev x=.d (.val (.int k n))) (h:YR P sq ops K rest (st.put d (.d (.val (.int kd (kd.wrap n)))))) (zz:zk ops st ⟨d,.convert S D x,ty,pos,af,gd⟩ .no=true:=by kernel_rfl):YR P sq ops K (⟨d,.convert S D x,ty,pos,af,gd⟩::rest) st:=M3 (Ro S D x hx (zd zz)) (zo zz) (zw zz) h
theorem yW {k:Nat} {n:Int} {e:List DV} [SliceOf P T E k] (he:es[n.toNat]? = some e) (h0:0<=n) (hx:asSl (st.ev x)=some (k,es)) (hy:st.ev y=.d (.val (.int kd n))) (h:YR P sq ops K rest (st.put d (.rd e))) (zz:zk ops st ⟨d,.indexAddr T x y,ty,pos,af,gd⟩ .no=true:=by kernel_rfl):YR P sq ops K (⟨d,.indexAddr T x y,ty,pos,af,gd⟩::rest) st:=M3 (Jd T x y hx hy h0 he (zd zz)) (zo zz) (zw zz) h
theorem yG [BuildOf P T places zs] (hq:Y4 st ps=some qs) (hf:Ch (places.toArray[·]?) (zs.map .val) qs=some ys) (h:YR P sq ops K rest (st.put d (.d (.agg ys)))) (zz:zk ops st ⟨d,.build T ps.toArray,ty,pos,af,gd⟩ .no=true:=by kernel_rfl):YR P sq ops K (⟨d,.build T ps.toArray,ty,pos,af,gd⟩::rest) st:=M3 (Rs T ps hq hf (zd zz)) (zo zz) (zw zz) h
theorem yR {k:Nat} [LitOf P T E k zs] (hq:Y4 st ps=some qs) (hf:Ch (fun i=>some (i*k,k)) (W0 zs n) qs=some ys) (he:O9 k n ys=es) (hs:Nat.ble (n*k) 16777216=true) (hs':Nat.ble n 16777216=true) (h:YR P sq ops K rest (st.put d (.d (.sl k es)))) (zz:zk ops st ⟨d,.buildSlice T n ps.toArray,ty,pos,af,gd⟩ .no=true:=by kernel_rfl):YR P sq ops K (⟨d,.buildSlice T n ps.toArray,ty,pos,af,gd⟩::rest) st:=M3 (ls_lit T n ps hq hf he hs hs' (zd zz)) (zo zz) (zw zz) h
theorem yK {cs:List SV} (hx:Ay (st.ev y)=some cs) (hi:st.bget i=none) (h:YR P sq ops K rest ((st.bput i cs).put (some i) (.bx i 0))) (zz:zk ops st ⟨some i,.box T y,ty,pos,af,gd⟩ (.box i cs)=true:=by kernel_rfl):YR P sq ops K (⟨some i,.box T y,ty,pos,af,gd⟩::rest) st:=Dr (ls_box T y hx hi (zd zz)) (zo zz) (zw zz) h
theorem yZ {cs:List SV} [ZeroOf P T zs] (hcs:(zs.map fun z=>SV.d (.val z))=cs) (hi:st.bget i=none) (h:YR P sq ops K rest ((st.bput i cs).put (some i) (.bx i 0))) (zz:zk ops st ⟨some i,.alloc T,ty,pos,af,gd⟩ (.box i cs)=true:=by kernel_rfl):YR P sq ops K (⟨some i,.alloc T,ty,pos,af,gd⟩::rest) st:=by subst hcs;exact Dr (Rt T hi (zd zz)) (zo zz) (zw zz) h
theorem X8 {z:Operand} {cs cs':List SV} [AggOf P T false 1] (hz:st.ev z=.bx i off) (hi:st.bget i=some cs) (hy:st.ev y=.d (.val u)) (hcs:cs.set off (.d (.val u))=cs') (h:YR P sq ops K rest ((st.bput i cs').put d .any)) (hle:Nat.blt off cs.length=true:=by kernel_rfl) (zz:zk ops st ⟨d,.store T z y,ty,pos,af,gd⟩ (.box i cs')=true:=by kernel_rfl) (h5:Nat.blt i 500000=true:=by rfl):YR P sq ops K (⟨d,.store T z y,ty,pos,af,gd⟩::rest) st:=by subst hcs;exact Dr (JC (x:=.d (.val u)) (C0 h5) hz hi hy C (C0 hle) (zd zz)) (zo zz) (zw zz) h
theorem ySl {k:Nat} {z:Operand} {cs cs':List SV} [AggOf P T false 1] (hz:st.ev z=.bx i off) (hi:st.bget i=some cs) (hy:st.ev y=.d (.sl k es)) (hcs:cs.set off (.d (.sl k es))=cs') (h:YR P sq ops K rest ((st.bput i cs').put d .any)) (hle:Nat.blt off cs.length=true:=by kernel_rfl) (zz:zk ops st ⟨d,.store T z y,ty,pos,af,gd⟩ (.box i cs')=true:=by kernel_rfl) (h5:Nat.blt i 500000=true:=by rfl):YR P sq ops K (⟨d,.store T z y,ty,pos,af,gd⟩::rest) st:=by subst hcs;exact Dr (JC (x:=.d (.sl k es)) (C0 h5) hz hi hy C (C0 hle) (zd zz)) (zo zz) (zw zz) h
theorem Pr {k:Nat} {z:Operand} {cs cs':List SV} [AggOf P T false 1] (hz:st.ev z=.bx i off) (hi:st.bget i=some cs) (hy:st.ev y=.ts t k es) (hcs:cs.set off (.ts t k es)=cs') (h:YR P sq ops K rest ((st.bput i cs').put d .any)) (hle:Nat.blt off cs.length=true:=by kernel_rfl) (zz:zk ops st ⟨d,.store T z y,ty,pos,af,gd⟩ (.box i cs')=true:=by kernel_rfl) (h5:Nat.blt i 500000=true:=by rfl):YR P sq ops K (⟨d,.store T z y,ty,pos,af,gd⟩::rest) st:=by subst hcs;exact Dr (JC (x:=.ts t k es) (C0 h5) hz hi hy C (C0 hle) (zd zz)) (zo zz) (zw zz) h
theorem yS {k:Nat} {bb:Bool} {z:Operand} {cs xs cs':List SV} [AggOf P T bb k] (hz:st.ev z=.bx i off) (hi:st.bget i=some cs) (hy:Ay (st.ev y)=some xs) (hcs:Bn cs off xs=cs') (hl:xs.length=k) (h:YR P sq ops K rest ((st.bput i cs').put d .any)) (hle:Nat.ble (off+xs.length) cs.length=true:=by kernel_rfl) (zz:zk ops st ⟨d,.store T z y,ty,pos,af,gd⟩ (.box i cs')=true:=by kernel_rfl) (h5:Nat.blt i 500000=true:=by rfl):YR P sq ops K (⟨d,.store T z y,ty,pos,af,gd⟩::rest) st:=by subst hcs;exact Dr (Kk T z y (C0 h5) hz hi hy hl (C0 hle) (zd zz)) (zo zz) (zw zz) h
theorem yT {k m:Nat} {es2 es':List (List DV)} [AppOf P T E k bytes] (hb:(es.length+es2.length)*bytes<=140737488351232) (hl:es.length+es2.length<=140737488351232) (hs:st.ev x=.ts t k es) (ht:st.tget t=some n) (hn:n=es.length) (hx:asSl (st.ev y)=some (k,es2)) (hE:t / 100000=E) (he:es++es2=es') (hm:es.length+es2.length=m) (h:YR P sq ops K rest ((st.tput t m).put d (.ts t k es'))) (zz:zk ops st ⟨d,.call { callee:=.builtin .append,args:=#[x,y],argTypes:=#[T,T] },ty,pos,af,gd⟩ (.tok t m)=true:=by kernel_rfl):YR P sq ops K (⟨d,.call { callee:=.builtin .append,args:=#[x,y],argTypes:=#[T,T] },ty,pos,af,gd⟩::rest) st:=by subst he hm;exact yr_t (PF T x y hs ht hn hx hE hb hl (zd zz)) (zo zz) (zw zz) h
theorem yO (hw:st.want ops ⟨d,op,ty,pos,af,some q⟩=some false) (h:YR P sq ops K rest (st.put d (.tup []))) (hd:I1 ⟨d,op,ty,pos,af,some q⟩ st=true:=by kernel_rfl):YR P sq ops K (⟨d,op,ty,pos,af,some q⟩::rest) st:=.skip hd hw h
theorem yQ (h:K st):YR P sq ops K [] st:=.nil h
def Da:List DV->Option (List Value)
 | []=>some []
 | .val v::l=>(Da l).map (v :: ·)
 | _=>none
theorem DRep.vals {cs:List DV} (h:DRep F w v (.agg cs)) (hv:Da cs=some vs):v=.agg vs.toArray:=by
 generalize e:DV.agg cs=x at h
 cases h with
 | val=>cases e
 | sl=>cases e
 | ref=>cases e
 | abs=>cases e
 | mp=>cases e
 | @agg xs cs' hl h1 h2=>
  cases e
  have:xs=vs:=by
   clear h1
   induction cs generalizing xs vs with
   | nil=>cases hv;exact List.length_eq_zero_iff.1 hl
   | cons c cs ih=>
    match xs,hl with
    | x::xs,hl=>
     cases c with
     | val u=>
      simp only[Da,C7]at hv
      obtain⟨vs',h3,rfl⟩:=hv
      have e1:=DRep.val_eq (h2 0 x _ rfl rfl)
      have e2:xs=vs':=ih h3 (by simpa using hl) (fun i x c hx hc=>h2 (i+1) x c (by simpa using hx) (by simpa using hc))
      rw[e1,e2]
     | agg=>cases hv
     | mp=>cases hv
     | sl=>cases hv
     | ref=>cases hv
     | abs=>cases hv
  rw[this]
theorem yBA {op:BinOp} {t':Nat} {cs:List DV} {us:List Value} (hr:∀ w,(eqGuard op t x y (.agg vs.toArray) (.agg us.toArray) >>= fun _=>binOp op t (.agg vs.toArray) (.agg us.toArray)).run P w=.ok u w) (hu:u.oneCell'=true) (hx:st.ev x=.d (.agg cs)) (hcx:Da cs=some vs) (hy:st.ev y=.d (.agg ds)) (hcy:Da ds=some us)
 (h:YR P sq ops K rest (st.put d (.d (.val u)))) (zz:zk ops st ⟨d,.binOp op t x y t',ty,pos,af,gd⟩ .no=true:=by kernel_rfl):YR P sq ops K (⟨d,.binOp op t x y t',ty,pos,af,gd⟩::rest) st:=
 M3 (fun st2 ha=>OpS.value (ha.dst (zd zz)) fun _ _ _ a w h=>by
  have h1:=h.eval x
  rw[ha.ev x (by simp[Op.operands]),hx]at h1
  have h2:=h.eval y
  rw[ha.ev y (by simp[Op.operands]),hy]at h2
  refine⟨u,w,?_,Below.refl _ _,DRep.val u hu⟩
  have:=hr w
  simp only[execOp,DRep.vals h1 hcx,DRep.vals h2 hcy,Sem.run_bind,Sem.run_pure]at this ⊢
  cases h3:Sem.run P (eqGuard op t x y (.agg vs.toArray) (.agg us.toArray)) w with
  | ok q w1=>
   rw[h3]at this
   simp only[D4]at this ⊢
   rw[this]
   rfl
  | halt q w1=>rw[h3]at this;simp[Result.andThen]at this) (zo zz) (zw zz) h
end
theorem DRep.part {c k:Nat} (h:DRep F w (.slice A n c) (.sl k es)) (l u:Nat) (h1:l<=u) (h2:u<=n):
 DRep F w (.slice (if c=l then A else A.map (·.add (l*k))) (u-l) (c-l)) (.sl k ((es.drop l).take (u-l))):=by
 cases h with
 | @sl _ _ _ _ _ f hn hc hm hk ha h1' h=>
  refine .sl (fun i j=>f (l+i) j) (by simp;omega) (by omega) (by omega) (fun e he=>hk e (List.mem_of_mem_drop (List.mem_of_mem_take he))) (fun h0=>?_) (fun i j hi hj=>h1' _ j (by omega) hj) fun i j e x he hx=>?_
  . obtain⟨b,off,rfl,hcell⟩:=ha (by omega)
    refine⟨b,off+l*k,?_,fun i j hi hj=>?_⟩
    . rw[B5 (by omega),Option.map_some,Addr.add_lit]
    . have:=hcell (l+i) j (by omega) hj
      rw[show off+(l+i)*k+j=off+l*k+i*k+j by rw[Nat.add_mul];omega]at this
      exact this
  . have hi:i<u-l:=by
     rcases D5 i (u-l)with h3|h3
     . exact h3
     . rw[I0 (by simp;omega)]at he;cases he
    rw[E8 hi,List.getElem?_drop]at he
    exact h _ j e x he hx
section
variable {sq:Bool} {rest:List Oper} {d:Option Nat} {op:Op} {ty:TypeId} {pos:String} {af:Array Edge} {gd:Option (Nat×Bool)} {q:Nat×Bool}
theorem Kl (T:TypeId) (x y:Operand) {k:Nat} {n:Int} [hS:SliceOf P T E k] (hx:asSl (st.ev x)=some (k,es)) (hy:st.ev y=.d (.val (.int kd n))) (h0:0<=n) (he:n<=es.length) (hd:I1 ⟨d,.slice T x none (some y) none,ty,pos,af,gd⟩ st=true):
 M6 P ⟨d,.slice T x none (some y) none,ty,pos,af,gd⟩ st (.d (.sl k (es.take n.toNat))) .no:=fun st2 ha=>
 OpS.value (ha.dst hd) fun _ _ g a w h=>by
  have h1:=h.eval x
  rw[ha.ev x (by simp[Op.operands])]at h1
  have h1:=h1.asSl hx
  obtain⟨A,c,news,hv,hc,hm,-⟩:=DRep.row h1
  have h2:=h.eval y
  rw[ha.ev y (by simp[Op.operands]),hy]at h2
  rw[hv]at h1
  have hp:=h1.part 0 n.toNat (by omega) (by omega)
  rw[List.drop_zero,Nat.sub_zero]at hp
  refine⟨_,w,?_,Below.refl _ _,hp⟩
  have hn:0<=n∧n<=(c:Int):=⟨h0,by omega⟩
  simp only[execOp,Instr.sliceAt,Instr.slice,Instr.sliceBounds,Instr.sliceBound,hv,DRep.val_eq h2,asIntOf,Sem.run_bind,Sem.run_pure,D4,hS.und,hn,and_self,if_true,hS.size,Option.map_some,Option.map_none,Nat.sub_zero]
theorem yDh {k:Nat} {n:Int} [SliceOf P T E k] (h0:0<=n) (he:n<=es.length) (hx:asSl (st.ev x)=some (k,es)) (hy:st.ev y=.d (.val (.int kd n))) (h:YR P sq ops K rest (st.put d (.d (.sl k (es.take n.toNat))))) (zz:zk ops st ⟨d,.slice T x none (some y) none,ty,pos,af,gd⟩ .no=true:=by kernel_rfl):YR P sq ops K (⟨d,.slice T x none (some y) none,ty,pos,af,gd⟩::rest) st:=M3 (Kl T x y hx hy h0 he (zd zz)) (zo zz) (zw zz) h
end
def Beh (P:Program) (φ:List DV->SV->Prop) (F:Nat->Nat->Prop) (w:World) (v:Value):Prop:=
 ∃ f,∃ caps:List Value,v=.func (.func f) #[] caps.toArray∧(∀ w args,(callFunc f args).run P w=.ok (.enter f args) w) ∧
  ∀ F' w',Kp F w F' w'->∀ xs r (vals:List Value),φ xs r->vals.length=xs.length->(∀ (i:Nat) v x,vals[i]? = some v->xs[i]? = some x->DRep F' w' v x)->GlobOk F' w' →
   Calls P f (vals++caps).toArray w' fun e w''=>∃ v,e=.returned v∧SRep (gF fun b o=>F' b o∨w'.heap.size<=b) w'' v r∧Below w'.heap.size w' w''
theorem Beh.mono (F F':Nat->Nat->Prop) (w w':World) (v:Value) (h:Beh P φ F w v) (hk:Kp F w F' w'):Beh P φ F' w' v:=by
 obtain⟨f,caps,h1,h2,h3⟩:=h
 exact⟨f,caps,h1,h2,fun F'' w'' hk'=>h3 F'' w'' (Kp.trans hk hk')⟩
abbrev dF (P:Program) (φ:List DV->SV->Prop):DV:=.abs (Beh P φ)
theorem DRep.beh (h:DRep F w v (dF P φ)):Beh P φ F w v:=by
 generalize e:dF P φ=x at h
 cases h with
 | abs hR h1 h=>cases e;exact h
 | _=>cases e
theorem DRep.of_beh (h:Beh P φ F w v):DRep F w v (dF P φ):=
 .abs Beh.mono (by obtain⟨f,caps,rfl,-⟩:=h;rfl) h
section
variable {sq:Bool} {rest:List Oper} {d:Option Nat} {op:Op} {ty:TypeId} {pos:String} {af:Array Edge} {gd:Option (Nat×Bool)} {q:Nat×Bool}
theorem Rp (x:Operand) (l:List Operand) (ts:Array TypeId) (hx:st.ev x=.d (dF P φ)) (hargs:Be st l=some ys) (hc:φ ys r) (hres:BR r=true) (hd:I1 ⟨d,.call { callee:=.value x,args:=l.toArray,argTypes:=ts },ty,pos,af,gd⟩ st=true):
 M6 P ⟨d,.call { callee:=.value x,args:=l.toArray,argTypes:=ts },ty,pos,af,gd⟩ st r .no:=fun st2 ha=>by
 intro B w0 g a w K Q hr hK
 have hev:Be st2 l=some ys:=by rw[Dl fun x hx=>ha.ev x (by simp[Op.operands,Call.operands,hx])];exact hargs
 obtain⟨h1,h2⟩:=Cg hev
 have hxe:=hr.eval x
 rw[ha.ev x (by simp[Op.operands,Call.operands]),hx]at hxe
 obtain⟨f,caps,hv,hB,hb⟩:=DRep.beh hxe
 have V0:=hb (Fx g) w (fun b o h _=>⟨h,rfl⟩) ys r (l.map a.eval) hc (by simpa using h1) (fun i v x hv hx=>by
  rw[C6,C7]at hv
  obtain⟨y,h3,rfl⟩:=hv
  exact(hr.eval y).toD (h2 i y x h3 hx)) hr.gok
 have hrun:(execOp a.eval ⟨d,.call { callee:=.value x,args:=l.toArray,argTypes:=ts },ty,pos,af,gd⟩).run P w=.ok (.enter f (l.map a.eval++caps).toArray) w:=by
  simp only[execOp,resolve,hv,Deferred.ofValue,Sem.run_bind,Sem.run_pure,D4,invoke]
  rw[hB]
  simp
 unfold Oper.wp
 rw[hrun]
 show Calls P f _ w _
 refine V0.mono ?_
 rintro e w' ⟨v,rfl,h3,h4⟩
 exact hK g _ _ ((hr.grow h4).put (SRep.of_call hr h3 hres) _ (H6 (ha.dst hd)))
/-! making a function value -/
def CE (st:PS):List Operand->Option (List Nat)
 | []=>some []
 | x::l=>match st.ev x,CE st l with
  | .bx i 0,some is=>some (i::is)
  | _,_=>none
theorem Mm {is:List Nat} (h:CE st l=some is) {ρ:Operand->Value} (hρ:∀ x∈l,SRep g w (ρ x) (st.ev x)):
 ∃ bs:List Nat,l.map ρ=bs.map (fun b=>Value.pointer (some ⟨b,0,none⟩))∧bs.length=is.length ∧ ∀ (i:Nat) b c,bs[i]? = some b->is[i]? = some c->g.bl c=some b:=by
 induction l generalizing is with
 | nil=>cases h;exact⟨[],C,C,fun i b c hb=>by simp at hb⟩
 | cons x l ih=>
  simp only[CE]at h
  split at h
  . rename_i i is' h1 h2
    cases h
    obtain⟨bs,h3,h4,h5⟩:=ih h2 fun y hy=>hρ y (by simp[hy])
    have h6:=hρ x (by simp)
    rw[h1]at h6
    obtain⟨b,h7,h8⟩:=h6
    refine⟨b::bs,by simp[h3,h8],by simp[h4],fun j b' c hb hc=>?_⟩
    cases j with
    | zero=>simp at hb hc;subst hb hc;exact h7
    | succ j=>exact h5 j b' c (by simpa using hb) (by simpa using hc)
  . cases h
theorem Jr (h:∀ x∈l,st2.ev x=st.ev x):CE st2 l=CE st l:=by
 induction l with
 | nil=>rfl
 | cons x l ih=>simp only[CE];rw[h x (by simp),ih fun y hy=>h y (by simp[hy])]
theorem Km (f:FuncId) (l:List Operand) (h:CE st l=some caps) (hd:I1 ⟨d,.makeFunc (.func f) #[] l.toArray,ty,pos,af,gd⟩ st=true):
 M6 P ⟨d,.makeFunc (.func f) #[] l.toArray,ty,pos,af,gd⟩ st (.fn f caps) .no:=fun st2 ha=>
 OpS.value (ha.dst hd) fun _ _ g a w hr=>by
  have h2:CE st2 l=some caps:=by rw[Jr fun x hx=>ha.ev x (by simp[Op.operands,hx])];exact h
  obtain⟨bs,h3,h4,h5⟩:=Mm h2 (ρ:=a.eval) fun x _=>hr.eval x
  refine⟨.func (.func f) #[] (l.map a.eval).toArray,w,?_,Below.refl _ _,bs,by rw[h3],h4,h5⟩
  simp[execOp,Instr.makeFunc]
/-! a call that is given function values over boxes of one's own -/
def Hk (st:PS):List Nat->Option (List (List DV))
 | []=>some []
 | c::l=>match (bif Nat.blt c 500000 then (st.bget c).bind Ag else none),Hk st l with
  | some x,some xs=>some (x::xs)
  | _,_=>none
inductive ArgF (P:Program) (st:PS):List Operand->List DV->Prop
 | nil:ArgF P st [] []
 | d {x:Operand} {y:DV} {l:List Operand} {ys:List DV} (h:toD (st.ev x)=some y) (hl:ArgF P st l ys):ArgF P st (x::l) (y::ys)
 | fn {x:Operand} {f:FuncId} {caps:List Nat} {css:List (List DV)} {φ:List DV->SV->Prop} {l:List Operand} {ys:List DV} (hB:HasBody P f) (h:st.ev x=.fn f caps) (hcs:Hk st caps=some css)
  (hc:∀ xs r,φ xs r->PCalls P f (xs++css.map .ref) r) (hl:ArgF P st l ys):ArgF P st (x::l) (dF P φ::ys)
def Ly:SV->Bool
 | .d (.val _)=>true
 | .tup xs=>xs.all fun|.val _=>true|_=>false
 | _=>false
theorem Pm {l:List Nat} {css:List (List DV)} (h:Hk st l=some css):l.length=css.length ∧ ∀ (j:Nat) c ds,l[j]? = some c->css[j]? = some ds->c<500000 ∧ ∃ cs,st.bget c=some cs∧Ag cs=some ds:=by
 induction l generalizing css with
 | nil=>cases h;exact⟨rfl,fun j c ds hj=>by simp at hj⟩
 | cons c l ih=>
  simp only[Hk]at h
  split at h
  . rename_i x xs h1 h2
    cases h
    obtain⟨h3,h4⟩:=ih h2
    refine⟨by simp[h3],fun j c' ds hc hd=>?_⟩
    cases j with
    | zero=>
     simp at hc hd
     subst hc hd
     cases hb:Nat.blt c 500000 with
     | false=>rw[hb]at h1;cases h1
     | true=>
      rw[hb,cond_true]at h1
      obtain⟨cs,h5,h6⟩:=Option.bind_eq_some_iff.1 h1
      exact⟨C0 hb,cs,h5,h6⟩
    | succ j=>exact h4 j c' ds (by simpa using hc) (by simpa using hd)
  . cases h
theorem LP {l:List Nat} (h:∀ c∈l,st2.bget c=st.bget c):Hk st2 l=Hk st l:=by
 induction l with
 | nil=>rfl
 | cons x l ih=>simp only[Hk];rw[h x (by simp),ih fun y hy=>h y (by simp[hy])]
theorem ArgF.congr (h:ArgF P st l ys) (h1:∀ x∈l,st2.ev x=st.ev x) (h2:∀ x∈l,∀ f caps,st.ev x=.fn f caps->∀ c∈caps,st2.bget c=st.bget c):ArgF P st2 l ys:=by
 induction h with
 | nil=>exact .nil
 | @d x y l ys h _ ih=>exact .d (by rw[h1 x (by simp)];exact h) (ih (fun x hx=>h1 x (by simp[hx])) fun x hx=>h2 x (by simp[hx]))
 | @fn x f caps css φ l ys hB h hcs hc _ ih=>
  exact .fn hB (by rw[h1 x (by simp)];exact h) (by rw[LP (h2 x (by simp) f caps h)];exact hcs) hc (ih (fun x hx=>h1 x (by simp[hx])) fun x hx=>h2 x (by simp[hx]))
def FxB (g:Gh) (b o:Nat):Prop:=Fx g b o ∨ ∃ i,g.bl i=some b
theorem ref_box {c b:Nat} {cs:List SV} (hr:Rep B w0 g st a w) (hlt:c<500000) (hc:st.bget c=some cs) (hd:Ag cs=some ds) (hb:g.bl c=some b):DRep (FxB g) w (.pointer (some ⟨b,0,none⟩)) (.ref ds):=by
 obtain⟨b',xs,T,h1,h2,h3,h4,h5⟩:=hr.boxes c cs hc hlt
 rw[hb]at h1
 cases h1
 obtain⟨h6,h7⟩:=Y0 hd
 refine .ref (fun j=>(xs[j]?).getD undef) (fun j hj=>?_) (fun j x hx=>?_)
 . have hlt:j<xs.size:=by omega
   refine⟨?_,.inr ⟨c,hb⟩,?_⟩
   . simp[World.cell?,h2,hlt]
   . simp only[Array.getElem?_eq_getElem hlt,Option.getD_some];exact h5 j _ (by omega) (Array.getElem?_eq_getElem hlt)
 . obtain⟨y,h8,h9⟩:=h7 j x hx
   obtain⟨u,h10,h11⟩:=h4 j y h8
   simp only[h10,Option.getD_some]
   exact(h11.toD h9).mono (Kp.same fun b o hf=>.inl hf)
theorem St (hr:Rep B w0 g st a w) (h:ArgF P st l ys):
 l.length=ys.length ∧ ∀ (i:Nat) v x,(l.map a.eval)[i]? = some v->ys[i]? = some x->DRep (FxB g) w v x:=by
 induction h with
 | nil=>exact⟨rfl,fun i v x hv=>by simp at hv⟩
 | @d x y l ys h _ ih=>
  refine⟨by simp[ih.1],fun i v z hv hz=>?_⟩
  cases i with
  | zero=>simp at hv hz;subst hv hz;exact((hr.eval x).toD h).mono fun b o hf _=>⟨.inl hf,C⟩
  | succ i=>exact ih.2 i v z (by simpa using hv) (by simpa using hz)
 | @fn x f caps css φ l ys hB h hcs hc _ ih=>
  refine⟨by simp[ih.1],fun i v z hv hz=>?_⟩
  cases i with
  | zero=>
   simp at hv hz
   subst hv hz
   have hx:=hr.eval x
   rw[h]at hx
   obtain⟨bs,h1,h2,h3⟩:=hx
   obtain⟨h4,h5⟩:=Pm hcs
   refine DRep.of_beh ⟨f,bs.map fun b=>Value.pointer (some ⟨b,0,none⟩),h1,hB.run,fun F' w' hk xs r vals hφ hl hv hgo=>?_⟩
   refine hc xs r hφ F' w' (vals++bs.map fun b=>Value.pointer (some ⟨b,0,none⟩)) (by simp[hl,h2,h4]) (fun j u y hu hy=>?_) hgo
   by_cases hj:j<xs.length
   . rw[F3 (by omega)]at hu hy
     exact hv j u y hu hy
   . rw[E9 (by omega)]at hu hy
     rw[hl]at hu
     rw[C6,C7]at hu hy
     obtain⟨b,h6,rfl⟩:=hu
     obtain⟨ds,h7,rfl⟩:=hy
     have hlt:j-xs.length<caps.length:=by rw[h4];exact(A6.1 h7).1
     obtain⟨h8a,cs,h8,h9⟩:=h5 _ _ ds (A4 hlt) h7
     exact(ref_box hr h8a h8 h9 (h3 _ b _ h6 (A4 hlt))).mono hk
  | succ i=>exact ih.2 i v z (by simpa using hv) (by simpa using hz)
theorem DRep.val_any {F':Nat->Nat->Prop} {w':World} (h:DRep F w v (.val u)):DRep F' w' v (.val u):=by
 generalize e:DV.val u=x at h
 cases h with
 | val _ hv=>cases e;exact .val _ hv
 | _=>cases e
theorem SRep.plain {g':Gh} (h:SRep g w v r) (hp:Ly r=true):SRep g' w v r:=by
 cases r with
 | d x=>cases x<;>first|exact DRep.val_any h|cases hp
 | tup xs=>
  obtain⟨vs,h1,h2,h3⟩:=h
  refine⟨vs,h1,h2,fun i y x hy hx=>?_⟩
  have h4:=h3 i y x hy hx
  have h5:=E5.1 hp x (B8 hx)
  cases x<;>first|exact DRep.val_any h4|cases h5
 | _=>cases hp
theorem Rq (f:FuncId) (l:List Operand) (ts:Array TypeId) [hB:HasBody P f] (hargs:ArgF P st l ys) (hc:PCalls P f ys r) (hres:Ly r=true) (hd:I1 ⟨d,.call { callee:=.value (.func f),args:=l.toArray,argTypes:=ts },ty,pos,af,gd⟩ st=true):
 M6 P ⟨d,.call { callee:=.value (.func f),args:=l.toArray,argTypes:=ts },ty,pos,af,gd⟩ st r .no:=fun st2 ha=>by
 intro B w0 g a w K Q hr hK
 have hev:ArgF P st2 l ys:=hargs.congr (fun x hx=>ha.ev x (by simp[Op.operands,Call.operands,hx])) fun x hx f' caps h=>ha.fn rfl x (by simp[Op.operands,Call.operands,hx]) f' caps h
 obtain⟨h1,h2⟩:=St hr hev
 have V0:=hc (FxB g) w (l.map a.eval) (by simpa using h1) h2 (hr.gok.mono (Kp.same fun b o hf=>.inl hf))
 have hrun:(execOp a.eval ⟨d,.call { callee:=.value (.func f),args:=l.toArray,argTypes:=ts },ty,pos,af,gd⟩).run P w=.ok (.enter f (l.map a.eval).toArray) w:=by
  simp only[execOp,resolve,Act.eval,Deferred.ofValue,Sem.run_bind,Sem.run_pure,D4,invoke]
  rw[hB.run]
  simp
 unfold Oper.wp
 rw[hrun]
 show Calls P f _ w _
 refine V0.mono ?_
 rintro e w' ⟨v,rfl,h3,h4⟩
 exact hK g _ _ ((hr.grow h4).put (h3.plain hres) _ (H6 (ha.dst hd)))
theorem Bq (s:Nat) {cs:List DV} (hs:st.get s=.d (.ref cs)) (h:PW P B w0 c Q (st.put (some s) (.rd cs))):PW P B w0 c Q st:=fun g a w hr=>
 h g a w { hr with lim:=hr.lim,size:=hr.size,boxes:=hr.boxes,maps:=hr.maps,dom:=hr.dom,tdom:=hr.tdom,tlen:=hr.tlen,glob:=hr.glob,slots:=(fun i=>by
  have h1:=hr.slots i
  by_cases e:i=s
  . subst e
    rw[hs]at h1
    rw[Q5,B9 rfl]
    exact SRep.le h1 (.ref cs)
  . rw[Q5,B5 e];exact h1) }
theorem yCv (hc:φ ys r) (hx:st.ev x=.d (dF P φ)) (ha:Be st l=some ys) (hr:BR r=true) (h:YR P sq ops K rest (st.put d r)) (zz:zk ops st ⟨d,.call { callee:=.value x,args:=l.toArray,argTypes:=ts },ty,pos,af,gd⟩ .no=true:=by kernel_rfl):YR P sq ops K (⟨d,.call { callee:=.value x,args:=l.toArray,argTypes:=ts },ty,pos,af,gd⟩::rest) st:=M3 (Rp x l ts hx ha hc hr (zd zz)) (zo zz) (zw zz) h
theorem OQ (hx:CE st l=some caps) (h:YR P sq ops K rest (st.put d (.fn f caps))) (zz:zk ops st ⟨d,.makeFunc (.func f) #[] l.toArray,ty,pos,af,gd⟩ .no=true:=by kernel_rfl):YR P sq ops K (⟨d,.makeFunc (.func f) #[] l.toArray,ty,pos,af,gd⟩::rest) st:=M3 (Km f l hx (zd zz)) (zo zz) (zw zz) h
theorem Jv [HasBody P f] (hc:PCalls P f ys r) (ha:ArgF P st l ys) (hr:Ly r=true) (h:YR P sq ops K rest (st.put d r)) (zz:zk ops st ⟨d,.call { callee:=.value (.func f),args:=l.toArray,argTypes:=ts },ty,pos,af,gd⟩ .no=true:=by kernel_rfl):YR P sq ops K (⟨d,.call { callee:=.value (.func f),args:=l.toArray,argTypes:=ts },ty,pos,af,gd⟩::rest) st:=M3 (Rq f l ts ha hc hr (zd zz)) (zo zz) (zw zz) h
end
def OwnF (F:Nat->Nat->Prop) (N k:Nat) (v:Value) (b o:Nat):Prop:=(F b o∨N<=b) ∧ ∀ n c,v=.slice (some ⟨b,0,none⟩) n c->o<n*k
def POwn (P:Program) (f:FuncId) (args:List DV) (E k:Nat) (es:List (List DV)):Prop:=
 ∀ (F:Nat->Nat->Prop) (w:World) (vals:List Value),vals.length=args.length->(∀ (i:Nat) v x,vals[i]? = some v->args[i]? = some x->DRep F w v x)->GlobOk F w →
  Calls P f vals.toArray w fun e w'=>∃ v xs,e=.returned v∧w'.ownsRow w.heap.size E k v es.length xs∧(∀ u∈xs,u.oneCell'=true)∧DRep (OwnF F w.heap.size k v) w' v (.sl k es)∧Below w.heap.size w w'
theorem Rep.entry {vals:List Value} {m:Nat} (hn:m=n) (hl:args.length<=n) (hlim:n<=10000) (hvl:vals.length=args.length) (hv:∀ (i:Nat) v x,vals[i]? = some v->args[i]? = some x->DRep F w v x) (hgo:GlobOk F w):
 Rep w.heap.size ⟨w,gF fun b o=>F b o∨w.heap.size<=b,none,w.heap.size,E0 _⟩ (gF fun b o=>F b o∨w.heap.size<=b) ⟨n,EY 0 args,[],[]⟩ { tmps:=vals.toArray++Array.replicate (m-vals.toArray.size) undef,defers:=[] } w:=by
 subst hn
 refine { evo:=Evo.refl _ _,base:=E0 _,f0:=fun b o h=>.inr h,lim:=hlim,size:=by simp;omega,defers:=Dfr.nil _ _ _,slots:=fun i=>?_,boxes:=fun i cs hi=>(by cases hi),maps:=fun i ms hi=>(by cases hi),blk:=fun i b hi=>(by cases hi),dom:=fun i b hi=>(by cases hi),inj:=fun i j b hi=>(by cases hi),toks:=fun t T hT=>(by cases hT),tf0:=fun t T b o hT=>(by cases hT),telt:=fun t T hT=>(by cases hT),tdis:=fun t t' T T' b h1=>(by cases h1),tdom:=fun t T hT=>(by cases hT),tlen:=fun t n ht=>(by cases ht),glob:=hgo.rep (Kp.same fun b o hF=>Fx.gF (.inl hF)),gown:=hgo.own,ghp:=fun q cs hq=>(hgo q cs hq).2 }
 unfold PS.get
 simp only[FC,E7,if_true,Nat.sub_zero]
 cases hx:args[i]? with
 | none=>trivial
 | some x=>
  have hlt:i<vals.length:=by rw[hvl];exact(A6.1 hx).1
  have h1:=hv i _ x (A4 hlt) hx
  have h2:(vals.toArray++Array.replicate (m-vals.toArray.size) undef).getD i undef=vals[i]:=by
   simp[Array.getD,hlt]
   omega
  simp only[Option.map_some]
  show DRep _ w _ x
  rw[h2]
  exact h1.mono (Kp.same fun b o hF=>Fx.gF (.inl hF))
def QOwn (s t k:Nat) (es:List (List DV)):Exit->PS->Prop
 | .normal,st|.ret,st=>st.get s=.ts t k es∧st.tget t=some es.length
 | _,_=>False
theorem q_own {s k:Nat} (h:st.get s=.ts t k es) (h':st.tget t=some es.length):QOwn s t k es .ret st:=⟨h,h'⟩
theorem KY {fn:Func} {s:Nat} (hrs:fn.results = #[.tmp s]) (tmps:Array Value) (w':World):(results fn tmps).run P w'=.ok (tmps.getD s undef) w':=by
 rw[show results fn tmps=(fn.results.mapM (Hv tmps) >>= fun vs=>pure (if h:vs.size=1 then vs[0]else .tuple vs))from rfl,hrs,Array.mapM_eq_mapM_toList]
 simp only[Sem.run_bind,Sem.run_map]
 rfl
theorem row_one {k N:Nat} (h:DRep F w v (.sl k es)) (ho:w.ownsRow N E k v es.length xs):∀ u∈xs,u.oneCell'=true:=by
 rcases ho.2 with⟨rfl,h0⟩|⟨gb,cap,cur,rfl,-,hg,hc,-,hsz,ht⟩
 . have:=ho.1
   rw[h0,Nat.zero_mul]at this
   rw[List.eq_nil_of_length_eq_zero this]
   simp
 . obtain⟨A,c,news,hv,-,-,-,hl,hcell,hone,-⟩:=DRep.row h
   intro u hu
   obtain⟨j,hj,rfl⟩:=List.mem_iff_getElem.1 hu
   have hxl:=ho.1
   have h0:0<es.length:=by
    rcases H7 es.length with h0|h0
    . rw[h0,Nat.zero_mul]at hxl;omega
    . exact h0
   obtain⟨b,off,q3,q4⟩:=hcell h0
   obtain⟨u',hu'⟩:∃ u',news[j]? = some u':=⟨_,A4 (by omega)⟩
   have q5:=(q4 j u' hu').1
   rw[q3]at hv
   obtain⟨hv1,-,-⟩:=Value.slice.inj hv
   cases hv1
   have q6:=AF ho (b:=gb) rfl j _ (A4 hj)
   rw[E4,q6]at q5
   rw[J0 q5]
   exact hone u' (B8 hu')
theorem Lu {f:FuncId} {fn:Func} {s k:Nat} (hf:P.funcs[f]? = some fn) (hb:fn.body=some c) (hn:fn.ntmps=n) (hrs:fn.results = #[.tmp s]) (hl:args.length<=n) (hE:t / 100000=E)
 (h:∀ B w0,PW P B w0 c (QOwn s t k es) ⟨n,EY 0 args,[],[]⟩) (hlim:Nat.ble n 10000=true:=by rfl):POwn P f args E k es:=by
 intro F w vals hvl hv hgo
 refine AV hf hb ?_
 have hrep:=Rep.entry (F:=F) (w:=w) (vals:=vals) (args:=args) hn hl (C0 hlim) hvl hv hgo
 refine wpIn_mono (h w.heap.size _ _ _ _ hrep) fun e a' w' ⟨g,st,h1,h2⟩=>?_
 have fin:(st.get s=.ts t k es∧st.tget t=some es.length)->LeavesInM Fence.wide 0 P fn a'.tmps (fun e w'=>∃ v' xs,e=.returned v'∧w'.ownsRow w.heap.size E k v' es.length xs∧(∀ u∈xs,u.oneCell'=true)∧DRep (OwnF F w.heap.size k v') w' v' (.sl k es)∧Below w.heap.size w w') a'.defers .returning w':=by
  rintro⟨h3,h4⟩
  refine BI (st:=st) (E0 _) (fun w' h1=>?_) a'.defers w' h1
  obtain⟨T,A,cc,h5,h6⟩:=h1.tlen t _ h4
  have h7:=h1.slots s
  rw[h3]at h7
  obtain⟨h8,h9⟩:=h7
  obtain⟨hk,h10⟩:=h9 T h5
  have hv':=(h10 A _ cc h6).2 rfl
  obtain⟨⟨n',xs,h11⟩,-⟩:=h1.toks t T h5
  have hT:=h1.telt t T h5
  have hn':n'=es.length:=by
   obtain⟨A2,c2,q1,-,-⟩:=V4 h11
   rw[h6]at q1;cases q1;rfl
  subst hn'
  have hown:w'.ownsRow w.heap.size E k (a'.tmps.getD s undef) es.length xs:=by
   rw[hv',<-hk,<-hE,<-hT]
   refine⟨h11.1,?_⟩
   rcases h11.2 with q|⟨gb,cap,cur,q1,-,q2⟩
   . exact .inl q
   . refine .inr ⟨gb,cap,cur,q1,?_,q2⟩
     rcases h1.evo.tb t T gb h5 (by rw[q1];rfl)with q3|⟨i,q3⟩|⟨t',T',q3,-⟩
     . exact q3
     . cases q3
     . cases q3
  refine⟨_,KY hrs _ _,_,xs,C,hown,row_one h8 hown,h8.mono (Kp.same fun b o hf=>⟨by have:=hf.1;rw[h1.evo.f0]at this;exact this,fun n c hvc=>?_⟩),h1.evo.below⟩
  rw[<-hk];exact hf.2.2 t T n c h5 (hv' ▸ hvc)
 cases e with
 | normal=>exact fin h2
 | ret=>exact fin h2
 | _=>exact h2.elim
section
variable {rest:List Oper} {ty:TypeId} {pos:String} {af:Array Edge} {gd:Option (Nat×Bool)}
theorem CU {d:Option Nat} {f:FuncId} [hB:HasBody P f]:(execOp a.eval ⟨d,.call { callee:=.value (.func f),args:=l.toArray,argTypes:=ts },ty,pos,af,gd⟩).run P w=.ok (.enter f (l.map a.eval).toArray) w:=by
 simp only[execOp,resolve,Act.eval,Deferred.ofValue,Sem.run_bind,Sem.run_pure,D4,invoke]
 rw[hB.run]
 simp
end
theorem Bp (i off t k:Nat) {cs:List SV} (hi:st.bget i=some cs) (hc:cs[off]? = some (.d (.val (.slice none 0 0)))) (ht:st.tget t=none) (hno:st.noTs t=true) (h:PW P B w0 c Q ((st.bput i (cs.set off (.ts t k []))).tput t 0)) (hsm:Nat.blt (t % 100000) 10000=true:=by rfl) (hlt:Nat.blt i 500000=true:=by rfl):PW P B w0 c Q st:=fun g a w hr=>by
 obtain⟨ev,hr'⟩:=hr.newt (t:=t) (n:=0) (E:=t / 100000) (k:=k) (v:=.slice none 0 0) (xs:=[]) (Below.refl _ _) (fun b hb=>by simp[Value.ownBlock]at hb) (World.ownsRow_nil _ _ _ _) rfl (C0 hsm) ht hno
 have hlt:=C0 hlt
 refine h _ a w { hr' with lim:=hr'.lim,size:=hr'.size,slots:=hr'.slots,boxes:=fun j cs' hj hj5=>?_,maps:=fun j ms hj hge=>?_,dom:=fun j b hj=>?_,tdom:=hr'.tdom,tlen:=hr'.tlen,glob:=hr'.glob }
 . have hj':(st.bput i (cs.set off (.ts t k []))).bget j=some cs':=hj
   rw[K7]at hj'
   by_cases e:j=i
   . rw[B9 e]at hj'
     cases hj'
     subst e
     obtain⟨b,xs,T,h1,h2,h3,h4,h5⟩:=hr'.boxes j cs hi hj5
     refine⟨b,xs,T,h1,h2,by simpa using h3,fun q c hq=>?_,fun q u hq hu=>h5 q u (by simpa using hq) hu⟩
     by_cases eq:q=off
     . subst eq
       rw[List.getElem?_set_self (A6.1 hc).1]at hq
       cases hq
       obtain⟨x,h6,h7⟩:=h4 q _ hc
       have hx:x=.slice none 0 0:=DRep.val_eq h7
       exact⟨x,h6,by rw[hx];exact SRep.new_ts DRep.nil⟩
     . rw[List.getElem?_set_ne (Ne.symm eq)]at hq
       exact h4 q c hq
   . rw[B5 e]at hj'
     exact hr'.boxes j cs' hj' hj5
 . have hj':(st.bput i (cs.set off (.ts t k []))).bget j=some [.mc ms]:=hj
   rw[K7,B5 (by omega)]at hj'
   exact hr'.maps j ms hj' hge
 . show(st.bput i (cs.set off (.ts t k []))).bget j≠none
   rw[K7]
   by_cases e:j=i
   . simp[e]
   . rw[B5 e];exact hr'.dom j b hj
def SV.kill (i:Nat) (x:SV):SV:=bif x.ids.any (Nat.beq i)then .any else x
def PS.kill (i:Nat) (st:PS):PS:=⟨st.n,st.s.map fun p=>(p.1,p.2.kill i),(st.b.filter fun p=>!Nat.beq p.1 i).map fun p=>(p.1,p.2.map (SV.kill i)),st.t⟩
theorem Cc {x:SV} (h:e∈(x.kill i).ids):e∈x.ids∧e≠i:=by
 unfold SV.kill at h
 cases hb:x.ids.any (Nat.beq i) with
 | true=>rw[hb]at h;simp[SV.ids]at h
 | false=>
  rw[hb,cond_false]at h
  refine⟨h,fun e'=>?_⟩
  rw[<-Bool.not_eq_true,List.any_eq_true]at hb
  exact hb ⟨e,h,by rw[e'];exact Nat.beq_refl _⟩
theorem GL (i:Nat) (x:SV):SVle x (x.kill i):=by
 unfold SV.kill
 cases x.ids.any (Nat.beq i) with
 | true=>exact .any _
 | false=>exact .refl _
theorem LX {β:Type} (f:α->β) (l:List (Nat×α)) (j:Nat):G1 (l.map fun p=>(p.1,f p.2)) j=(G1 l j).map f:=by
 induction l with
 | nil=>rfl
 | cons p l ih=>
  obtain⟨q,x⟩:=p
  rw[List.map_cons,G3,G3,ih]
  by_cases e:j=q<;>simp[e]
theorem Ck (l:List (Nat×α)) (i j:Nat):G1 (l.filter fun p=>!Nat.beq p.1 i) j=if j=i then none else G1 l j:=by
 induction l with
 | nil=>simp[G1]
 | cons p l ih=>
  obtain⟨q,x⟩:=p
  rw[List.filter_cons]
  by_cases e:q=i
  . subst e
    simp only[Nat.beq_refl,Bool.not_true,Bool.false_eq_true,if_false,ih,G3]
    by_cases e':j=q<;>simp[e']
  . have:Nat.beq q i=false:=by rw[<-Bool.not_eq_true];intro h;exact e (F8 h)
    simp only[this,Bool.not_false,if_true,G3,ih]
    by_cases e':j=q
    . subst e';simp[e]
    . simp[e']
theorem EH (i:Nat) (st:PS) (j:Nat):(st.kill i).get j=(st.get j).kill i:=by
 unfold PS.get PS.kill
 simp only[LX]
 cases G1 st.s j<;>rfl
theorem R9 (i:Nat) (st:PS) (j:Nat):(st.kill i).bget j=if j=i then none else (st.bget j).map (List.map (SV.kill i)):=by
 unfold PS.bget PS.kill
 simp only[LX,Ck]
 by_cases e:j=i<;>simp[e]
def Gh.delb (g:Gh) (i:Nat):Gh:={ g with bl:=fun j=>if j=i then none else g.bl j }
theorem Gh.delb_bl {b:Nat} (h:(g.delb i).bl j=some b):g.bl j=some b∧j≠i:=by
 simp only[Gh.delb]at h
 split at h
 . cases h
 . rename_i e;exact⟨h,e⟩
theorem GK {cs:List SV} {ms:List (Value×DV)} (h:cs.map (SV.kill i)=[.mc ms]):cs=[.mc ms]:=by
 rw[List.map_eq_singleton_iff]at h
 obtain⟨x,rfl,h⟩:=h
 unfold SV.kill at h
 cases hb:x.ids.any (Nat.beq i) with
 | true=>rw[hb]at h;cases h
 | false=>rw[hb,cond_false]at h;rw[h]
theorem Rep.kill (h:Rep B w0 g st a w) (i:Nat):Evo g w (g.delb i) w∧Rep B w0 (g.delb i) (st.kill i) a w:=by
 have ev:Evo g w (g.delb i) w:=⟨Below.refl _ _,rfl,Kp.same fun _ _ hf=>⟨hf.1,fun j hj=>hf.2.1 j (Gh.delb_bl hj).1,hf.2.2⟩,fun _ _=>rfl,fun _ _ h=>.inl (Gh.delb_bl h).1,fun _ T h=>.inl ⟨T,h,.inl rfl⟩,fun t T _ h h'=>.inr (.inr ⟨t,T,h,h'⟩),fun _ _ _ _ _=>rfl⟩
 have srep:∀ v x,SRep g w v x->SRep (g.delb i) w v (x.kill i):=fun v x hx=>by
  refine(hx.le (GL i x)).extp ev.fx (fun j hj b hb=>?_) (fun t k es _ T' hT'=>⟨T',hT',.inl C⟩) fun _ _ _ _=>C
  simp only[Gh.delb]
  rw[B5 (Cc hj).2]
  exact hb
 refine⟨ev,{ h with evo:=h.evo.trans ev,defers:=h.defers.evo ev,f0:=h.f0,lim:=h.lim,size:=h.size,slots:=fun j=>by rw[EH];exact srep _ _ (h.slots j),glob:=fun q cs hq=>srep _ (.rd cs) (h.glob q cs hq),boxes:=fun j cs hj hlt=>?_,maps:=fun j ms hj hge=>?_,blk:=fun j b hj=>h.blk j b (Gh.delb_bl hj).1,dom:=fun j b hj=>?_,inj:=fun j k b hj hk=>h.inj j k b (Gh.delb_bl hj).1 (Gh.delb_bl hk).1,toks:=fun t T hT=>⟨(h.toks t T hT).1,fun j b hb hj=>(h.toks t T hT).2 j b hb (Gh.delb_bl hj).1⟩,tf0:=h.tf0,telt:=h.telt,tdis:=h.tdis,tdom:=h.tdom,tlen:=h.tlen }⟩
 . rw[R9]at hj
   by_cases e:j=i
   . rw[B9 e]at hj;cases hj
   . rw[B5 e,C7]at hj
     obtain⟨cs0,h1,rfl⟩:=hj
     obtain⟨b,xs,T,h2,h3,h4,h5,h6⟩:=h.boxes j cs0 h1 hlt
     refine⟨b,xs,T,by simp[Gh.delb,e,h2],h3,by simpa using h4,fun q c hq=>?_,fun q u hq hu=>h6 q u (by simpa using hq) hu⟩
     rw[C6,C7]at hq
     obtain⟨c0,h7,rfl⟩:=hq
     obtain⟨x,h8,h9⟩:=h5 q c0 h7
     exact⟨x,h8,srep _ _ h9⟩
 . rw[R9]at hj
   by_cases e:j=i
   . rw[B9 e]at hj;cases hj
   . rw[B5 e,C7]at hj
     obtain⟨cs0,h1,h2⟩:=hj
     have h3:cs0=[.mc ms]:=GK h2
     subst h3
     obtain⟨b,es,c,h4,h5,h6⟩:=h.maps j ms h1 hge
     exact⟨b,es,c,by simp[Gh.delb,e,h4],h5,h6.mono ev.fx⟩
 . obtain⟨h1,h2⟩:=Gh.delb_bl hj
   rw[R9,B5 h2]
   intro h3
   exact h.dom j b h1 (by simpa using h3)
theorem Gs (h:Rep B w0 g st a w) {k:Nat} {cs:List SV} (hlt:i<500000) (hi:st.bget i=some cs) (hds:Ag cs=some ds) (hn:ds.length=n*k) (hv:SRep g w v (.bs i n E k)) (hF:∀ b o,g.bl i=some b->F b o) (hK:Kp (Fx g) w F w):DRep F w v (.sl k (O9 k n ds)):=by
 obtain⟨b,c,h1,rfl,h3,h4,h5⟩:=hv
 obtain⟨b',xs,T,h6,h7,h8,h9,h10⟩:=h.boxes i cs hi hlt
 rw[h1]at h6
 cases h6
 obtain⟨h11,h12⟩:=Y0 hds
 have hlen:=S8 k n ds
 have:DRep F w (.slice (some ⟨b,0,none⟩) (O9 k n ds).length c) (.sl k (O9 k n ds)):=by
  refine DRep.of_row (xs:=xs.toList.take (n*k)) (by omega) (by unfold maxLen at h4;omega) (DE k n ds hn) (fun _=>⟨b,0,rfl,fun j u hj=>⟨?_,hF b _ h1⟩⟩) (fun u hu=>?_) fun p q e x he hx=>?_
  rotate_left
  . obtain⟨j,hj⟩:=List.mem_iff_getElem?.1 hu
    have hjlt:j<n*k:=by
     have:=(A6.1 hj).1
     rw[F4]at this
     omega
    rw[E8 hjlt]at hj
    exact h10 j u (by omega) (by simpa using hj)
  rotate_left
  . have hjlt:j<n*k:=by
     have:=(A6.1 hj).1
     rw[F4]at this
     omega
    rw[E8 hjlt]at hj
    rw[E4]
    simp only[World.cell?,h7,Option.isSome_none,Bool.false_eq_true,if_false]
    simpa using hj
  . obtain⟨h13,-⟩:=Bh k n ds p q e x he hx hn
    obtain⟨y,h14,h15⟩:=h12 _ _ h13
    obtain⟨u,h16,h17⟩:=h9 _ _ h14
    exact⟨u,by rw[E8 (by have:=(A6.1 h13).1;omega)];simpa using h16,(h17.toD h15).mono hK⟩
 rwa [hlen]at this
section
theorem Br (s i:Nat) {k:Nat} {cs:List SV} (hn:ds.length=n*k) (hes:O9 k n ds=es) (hds:Ag cs=some ds) (hs:st.get s=.bs i n E k) (hi:st.bget i=some cs) (h:PW P B w0 c Q ((st.kill i).put (some s) (.d (.sl k es)))) (hlt:Nat.blt i 500000=true:=by rfl):PW P B w0 c Q st:=fun g a w hr=>by
 obtain⟨ev,hr'⟩:=hr.kill i
 subst hes
 have hv:=hr.slots s
 rw[hs]at hv
 have hd:DRep (Fx (g.delb i)) w (a.tmps.getD s undef) (.sl k (O9 k n ds)):=by
  refine Gs hr (C0 hlt) hi hds hn hv (fun b o hb=>⟨(hr.blk i b hb).1 o,fun j hj=>?_,fun t T n' c' hT hTv=>?_⟩) ev.fx
  . obtain⟨h1,h2⟩:=Gh.delb_bl hj
    exact h2 (hr.inj j i b h1 hb)
  . exact G5 hb ((hr.toks t T hT).2 i b (by rw[hTv];rfl))
 refine h _ a w { hr' with lim:=hr'.lim,size:=hr'.size,boxes:=hr'.boxes,maps:=hr'.maps,dom:=hr'.dom,tdom:=hr'.tdom,tlen:=hr'.tlen,glob:=hr'.glob,slots:=fun j=>?_ }
 rw[Q5]
 by_cases e:j=s
 . rw[B9 e,e];exact hd
 . rw[B5 e];exact hr'.slots j
end
theorem On (h:st.noTs t=true) (i:Nat):(st.get i).noTs t=true:=by
 unfold PS.noTs at h
 rw[D1,E5,E5]at h
 unfold PS.get
 cases e2:G1 st.s i with
 | none=>rfl
 | some x=>exact h.1 _ (M9 e2)
theorem Rd (h:st.noTs t=true) {cs:List SV} (hi:st.bget i=some cs) {c:SV} (hc:c∈cs):c.noTs t=true:=by
 unfold PS.noTs at h
 rw[D1,E5,E5]at h
 have h8:=h.2 _ (M9 hi)
 rw[E5]at h8
 exact h8 c hc
theorem Rep.tkb (h:Rep B w0 g st a w) {k:Nat} {cs:List SV} (hlt:i<500000) (hi:st.bget i=some cs) (hn:n*k<=cs.length) (hv:SRep g w v (.bs i n E k)) (hE:t / 100000=E) (hsm:smT t) (ht:st.tget t=none) (hno:st.noTs t=true):
 ∃ g',g'.f0=g.f0∧(∀ j,g'.bl j=(g.delb i).bl j)∧(∀ t',g'.tk t'=((g.delb i).sett t ⟨v,E,k⟩).tk t')∧Kp (Fx g) w (Fx g') w∧Rep B w0 g' ((st.kill i).tput t n) a w:=by
 obtain⟨b,c,h1,rfl,h3,h4,h5⟩:=hv
 obtain⟨b',xs,T0,h6,h7,h8,h9,h10⟩:=h.boxes i cs hi hlt
 rw[h1]at h6
 cases h6
 have hsh:T0=E∧xs.size=c*k:=by
  simp only[World.shape?,h7,Option.some.injEq,Prod.mk.injEq]at h5
  exact h5
 obtain⟨rfl,hsz⟩:=hsh
 have hown:w.ownsRow 0 T0 k (.slice (some ⟨b,0,none⟩) n c) n (xs.toList.take (n*k)):=by
  refine⟨?_,.inr ⟨b,c,xs,C,E7 _,h7,h3,h4,hsz,C⟩⟩
  rw[F4,Array.length_toList]
  omega
 have hgt:g.tk t=none:=by
  cases e:g.tk t with
  | none=>rfl
  | some T=>exact G5 ht (h.tdom t T e)
 have ev:Evo g w ((g.delb i).sett t ⟨.slice (some ⟨b,0,none⟩) n c,T0,k⟩) w:=by
  refine⟨Below.refl _ _,C,Kp.same fun b' o hf=>⟨hf.1,fun j hj=>hf.2.1 j (Gh.delb_bl hj).1,fun t' T' n' c' q1 q2=>?_⟩,fun _ _=>C,fun _ _ h=>.inl (Gh.delb_bl h).1,fun t' T' hT'=>?_,fun t' T' b' hT' hb'=>?_,fun _ _ _ _ _=>C⟩
  . simp only[Gh.sett]at q1
    by_cases e:t'=t
    . rw[B9 e]at q1;cases q1;cases q2;exact G5 h1 (hf.2.1 i)
    . rw[B5 e]at q1;exact hf.2.2 t' T' n' c' q1 q2
  . simp only[Gh.sett]at hT'
    by_cases e:t'=t
    . exact .inr (e ▸ hsm)
    . rw[B5 e]at hT';exact .inl ⟨T',hT',.inl C⟩
  . simp only[Gh.sett]at hT'
    by_cases e:t'=t
    . rw[B9 e]at hT';cases hT'
      obtain rfl:b=b':=by simpa[Value.ownBlock]using hb'
      exact .inr (.inl ⟨i,h1⟩)
    . rw[B5 e]at hT';exact .inr (.inr ⟨t',T',hT',hb'⟩)
 have srep:∀ v x,SRep g w v x->x.noTs t=true->SRep ((g.delb i).sett t ⟨.slice (some ⟨b,0,none⟩) n c,T0,k⟩) w v (x.kill i):=fun v x hx hxt=>by
  refine(hx.le (GL i x)).extp ev.fx (fun j hj b hb=>?_) (fun t' k' es e T' hT'=>?_) fun _ _ _ _=>C
  . simp only[Gh.sett,Gh.delb]
    rw[B5 (Cc hj).2]
    exact hb
  . have hxt':(x.kill i).noTs t=true:=by
     unfold SV.kill
     cases x.ids.any (Nat.beq i) with
     | true=>rfl
     | false=>exact hxt
    simp only[Gh.sett]at hT'
    rw[B5 (Ng hxt' e)]at hT'
    exact⟨T',hT',.inl C⟩
 obtain⟨-,hk⟩:=h.kill i
 refine⟨(g.delb i).sett t ⟨.slice (some ⟨b,0,none⟩) n c,T0,k⟩,C,fun _=>C,fun _=>C,ev.fx,{ hk with evo:=h.evo.trans ev,defers:=h.defers.evo ev,f0:=h.f0,lim:=h.lim,size:=h.size,glob:=fun q cs hq=>srep _ (.rd cs) (h.glob q cs hq) C,slots:=fun j=>?_,boxes:=fun j cs' hj hj5=>?_,maps:=fun j ms hj hge=>?_,blk:=hk.blk,dom:=hk.dom,inj:=hk.inj,toks:=fun t' T' hT'=>?_,tf0:=fun t' T' b' o hT' hb'=>?_,telt:=fun t' T' hT'=>?_,tdis:=fun t1 t2 T1 T2 b' q1 q2 q3 q4=>?_,tdom:=fun t' T' hT'=>?_,tlen:=fun t' n' hn'=>?_ }⟩
 . show SRep _ w _ ((st.kill i).get j)
   rw[EH]
   exact srep _ _ (h.slots j) (On hno j)
 . have hj':(st.kill i).bget j=some cs':=hj
   rw[R9]at hj'
   by_cases e:j=i
   . rw[B9 e]at hj';cases hj'
   . rw[B5 e,C7]at hj'
     obtain⟨cs0,q1,rfl⟩:=hj'
     obtain⟨b',xs',T,q2,q3,q4,q5,q6⟩:=h.boxes j cs0 q1 hj5
     refine⟨b',xs',T,by simp[Gh.sett,Gh.delb,e,q2],q3,by simpa using q4,fun q c hq=>?_,fun q u hq hu=>q6 q u (by simpa using hq) hu⟩
     rw[C6,C7]at hq
     obtain⟨c0,q7,rfl⟩:=hq
     obtain⟨x,q8,q9⟩:=q5 q c0 q7
     exact⟨x,q8,srep _ _ q9 (Rd hno q1 (B8 q7))⟩
 . have hj':(st.kill i).bget j=some [.mc ms]:=hj
   rw[R9]at hj'
   by_cases e:j=i
   . rw[B9 e]at hj';cases hj'
   . rw[B5 e,C7]at hj'
     obtain⟨cs0,q1,q2⟩:=hj'
     have q3:=GK q2
     subst q3
     obtain⟨b',es,c',q4,q5,q6⟩:=h.maps j ms q1 hge
     exact⟨b',es,c',by simp[Gh.sett,Gh.delb,e,q4],q5,q6.mono ev.fx⟩
 . simp only[Gh.sett]at hT'
   by_cases e:t'=t
   . rw[B9 e]at hT';cases hT'
     refine⟨⟨n,_,hown⟩,fun j b' hb' hj=>?_⟩
     obtain rfl:b=b':=by simpa[Value.ownBlock]using hb'
     obtain⟨q1,q2⟩:=Gh.delb_bl hj
     exact q2 (h.inj j i b q1 h1)
   . rw[B5 e]at hT'
     exact⟨(h.toks t' T' hT').1,fun j b' hb' hj=>(h.toks t' T' hT').2 j b' hb' (Gh.delb_bl hj).1⟩
 . simp only[Gh.sett]at hT'
   by_cases e:t'=t
   . rw[B9 e]at hT';cases hT'
     obtain rfl:b=b':=by simpa[Value.ownBlock]using hb'
     exact(h.blk i b h1).1 o
   . rw[B5 e]at hT';exact h.tf0 t' T' b' o hT' hb'
 . simp only[Gh.sett]at hT'
   by_cases e:t'=t
   . rw[B9 e]at hT';cases hT';rw[e,hE]
   . rw[B5 e]at hT';exact h.telt t' T' hT'
 . simp only[Gh.sett]at q1 q2
   by_cases e1:t1=t<;>by_cases e2:t2=t
   . omega
   . rw[B9 e1]at q1;rw[B5 e2]at q2;cases q1
     obtain rfl:b=b':=by simpa[Value.ownBlock]using q3
     exact G5 h1 ((h.toks t2 T2 q2).2 i b q4)
   . rw[B5 e1]at q1;rw[B9 e2]at q2;cases q2
     obtain rfl:b=b':=by simpa[Value.ownBlock]using q4
     exact G5 h1 ((h.toks t1 T1 q1).2 i b q3)
   . rw[B5 e1]at q1;rw[B5 e2]at q2;exact h.tdis t1 t2 T1 T2 b' q1 q2 q3 q4
 . rw[Z2]
   simp only[Gh.sett]at hT'
   by_cases e:t'=t
   . simp[e]
   . rw[B5 e]at hT' ⊢;exact h.tdom t' T' hT'
 . rw[Z2]at hn'
   by_cases e:t'=t
   . rw[B9 e]at hn';cases hn'
     exact⟨⟨.slice (some ⟨b,0,none⟩) n c,T0,k⟩,some ⟨b,0,none⟩,c,by simp[Gh.sett,e],rfl⟩
   . rw[B5 e]at hn'
     obtain⟨T',A,c',q1,q2⟩:=h.tlen t' n' hn'
     exact⟨T',A,c',by simp[Gh.sett,Gh.delb,e,q1],q2⟩
section
theorem Lt (s i t:Nat) {k:Nat} {cs:List SV} (hn:ds.length=n*k) (hes:O9 k n ds=es) (hds:Ag cs=some ds) (hs:st.get s=.bs i n E k) (hi:st.bget i=some cs) (hE:t / 100000=E) (ht:st.tget t=none) (hno:st.noTs t=true) (h:PW P B w0 c Q (((st.kill i).tput t n).put (some s) (.ts t k es))) (hlt:Nat.blt i 500000=true:=by rfl) (hsm:Nat.blt (t % 100000) 10000=true:=by rfl):PW P B w0 c Q st:=fun g a w hr=>by
 subst hes
 have hv:=hr.slots s
 rw[hs]at hv
 have hlt:=C0 hlt
 obtain⟨hdl,-⟩:=Y0 hds
 obtain⟨g',q1,q2,q3,q4,hr'⟩:=hr.tkb hlt hi (by omega) hv hE (C0 hsm) ht hno
 have hd0:DRep (fun b o=>Fx g b o∨(g.bl i=some b∧o<n*k)) w (a.tmps.getD s undef) (.sl k (O9 k n ds)):=by
  obtain⟨b,c,h1,hvv,h3,h4,h5⟩:=hv
  obtain⟨b',xs,T,h6,h7,h8,h9,h10⟩:=hr.boxes i cs hi hlt
  rw[h1]at h6
  cases h6
  obtain⟨h11,h12⟩:=Y0 hds
  have hlen:=S8 k n ds
  rw[hvv]
  have:DRep (fun b o=>Fx g b o∨(g.bl i=some b∧o<n*k)) w (.slice (some ⟨b,0,none⟩) (O9 k n ds).length c) (.sl k (O9 k n ds)):=by
   refine DRep.of_row (xs:=xs.toList.take (n*k)) (by omega) (by unfold maxLen at h4;omega) (DE k n ds hn) (fun _=>⟨b,0,rfl,fun j u hj=>⟨?_,.inr ⟨h1,?_⟩⟩⟩) (fun u hu=>by
    obtain⟨j,hj⟩:=List.mem_iff_getElem?.1 hu
    have hjlt:j<n*k:=by
     have:=(A6.1 hj).1
     rw[F4]at this
     omega
    rw[E8 hjlt]at hj
    exact h10 j u (by omega) (by simpa using hj)) fun p q e x he hx=>?_
   . have hjlt:j<n*k:=by
      have:=(A6.1 hj).1
      rw[F4]at this
      omega
     rw[E8 hjlt]at hj
     rw[E4]
     simp only[World.cell?,h7,Option.isSome_none,Bool.false_eq_true,if_false]
     simpa using hj
   . have:=(A6.1 hj).1
     rw[F4]at this
     omega
   . obtain⟨h13,-⟩:=Bh k n ds p q e x he hx hn
     obtain⟨y,h14,h15⟩:=h12 _ _ h13
     obtain⟨u,h16,h17⟩:=h9 _ _ h14
     refine⟨u,?_,(h17.toD h15).mono (Kp.same fun _ _ hf=>.inl hf)⟩
     rw[E8 (by have:=(A6.1 h13).1;omega)]
     simpa using h16
  rwa [hlen]at this
 have hkp:Kp (fun b o=>Fx g b o∨(g.bl i=some b∧o<n*k)) w (Fx g') w:=by
  rintro b o (hf|⟨hb,ho⟩) hs
  . exact q4 b o hf hs
  . refine⟨⟨by rw[q1];exact(hr.blk i b hb).1 o,fun j hj=>?_,fun t' T' n' c' hT hTv=>?_⟩,C⟩
    . rw[q2]at hj
      obtain⟨h1,h2⟩:=Gh.delb_bl hj
      exact h2 (hr.inj j i b h1 hb)
    . rw[q3]at hT
      simp only[Gh.sett]at hT
      by_cases e:t'=t
      . rw[B9 e]at hT;cases hT
        obtain⟨b2,c2,-,hvv,-⟩:=hv
        rw[show a.tmps.getD s undef=_ from hTv]at hvv
        obtain⟨-,e2,-⟩:=Value.slice.inj hvv
        show o<n'*k
        rw[e2];exact ho
      . rw[B5 e]at hT
        exact G5 hb ((hr.toks t' T' hT).2 i b (by rw[hTv];rfl))
 have hdd:=hd0.mono hkp
 refine h _ a w { hr' with lim:=hr'.lim,size:=hr'.size,boxes:=hr'.boxes,maps:=hr'.maps,dom:=hr'.dom,tdom:=hr'.tdom,tlen:=hr'.tlen,glob:=hr'.glob,slots:=fun j=>?_ }
 rw[Q5]
 by_cases e:j=s
 . rw[B9 e,e]
   refine⟨hdd,fun T hT=>?_⟩
   rw[q3]at hT
   simp only[Gh.sett,B9]at hT
   cases hT
   refine⟨rfl,fun A n' c' h1=>?_⟩
   obtain⟨b2,c2,-,hvv,-⟩:=hv
   obtain⟨-,e2,-⟩:=Value.slice.inj (h1.symm.trans hvv)
   rw[S8]
   exact⟨by omega,fun _=>rfl⟩
 . rw[B5 e];exact hr'.slots j
end
section
variable {sq:Bool} {rest:List Oper} {d:Option Nat} {op:Op} {ty:TypeId} {pos:String} {af:Array Edge} {gd:Option (Nat×Bool)} {q:Nat×Bool}
theorem ls_make (T:TypeId) (x y:Operand) {n c:Int} {kx ky:IntKind} [hA:AppOf P T E 1 bytes] [hL:LitOf P T E 1 [z]] (h0:0<=n) (hnc:n<=c) (hb:c*(bytes:Int)<=140737488355328) (hc:c<=140737488355328) (hx:st.ev x=.d (.val (.int kx n))) (hy:st.ev y=.d (.val (.int ky c))) (hi:st.bget e=none) (hd:I1 ⟨some e,.makeSlice T x y,ty,pos,af,gd⟩ st=true):
 M6 P ⟨some e,.makeSlice T x y,ty,pos,af,gd⟩ st (.bs e n.toNat E 1) (.box e (List.replicate n.toNat (.d (.val z)))):=fun st2 ha=>by
 intro B w0 g a w K Q hr hK
 have h1:=hr.eval x
 rw[ha.ev x (by simp[Op.operands]),hx]at h1
 have h2:=hr.eval y
 rw[ha.ev y (by simp[Op.operands]),hy]at h2
 have h1:=DRep.val_eq h1
 have h2:=DRep.val_eq h2
 obtain⟨i,z',q1,q2,q3,q4,q5⟩:=hA.inf
 have hin:e<st2.n:=H6 (ha.dst hd) e rfl
 have hlim:st2.n<=10000:=hr.lim
 have hi2:st2.bget e=none:=ha.fresh rfl e rfl e (Al (by omega)) hi
 have hzc:z'.cells = #[z]:=by
  obtain⟨z2,r1,r2⟩:=hL.zero w
  have:(zeroValue E).run P w=.ok z' w:=by simp[zeroValue,typeInfo,q1,q2]
  rw[this]at r1
  cases r1
  exact r2
 have hone:z.oneCell'=true:=hL.one z (by simp)
 have hrun:=run_make (P:=P) w T E i z' hA.und q1 q2 kx ky n c h0 hnc (by rw[q4,Int.mul_comm];omega) (by omega)
 rw[q3,Nat.mul_one,hzc]at hrun
 have hexec:(execOp a.eval ⟨some e,.makeSlice T x y,ty,pos,af,gd⟩).run P w=.ok (.value (.slice (some ⟨w.heap.size,0,none⟩) n.toNat c.toNat)) (w.alloc (.cells (madeCells #[z] c.toNat) E)):=by
  simp only[execOp,h1,h2,Sem.run_bind,hrun,D4,Sem.run_pure]
 have hlist:=toList_madeCells_one z c.toNat
 have hget:∀ j,j<c.toNat->(madeCells #[z] c.toNat)[j]? = some z:=fun j hj=>by
  rw[<-Array.getElem?_toList,hlist,List.getElem?_replicate,B9 hj]
 have hrep:=hr.newb e E hi2 hin (madeCells #[z] c.toNat) (List.replicate n.toNat (.d (.val z))) (by rw[List.length_replicate,size_madeCells];omega) (fun j cc hj=>by
  rw[List.getElem?_replicate]at hj
  split at hj
  . cases hj;exact⟨z,hget j (by omega),DRep.val z hone⟩
  . cases hj) (fun u hu=>by
  have:u∈(madeCells #[z] c.toNat).toList:=Array.mem_toList_iff.2 hu
  rw[hlist]at this
  rw[List.eq_of_mem_replicate this];exact hone)
 unfold Oper.wp
 rw[hexec]
 refine hK _ _ _ (hrep.put ?_ _ (H6 (st:=st2.bput e _) (ha.dst hd)))
 refine⟨w.heap.size,c.toNat,by simp[Gh.addb],rfl,by omega,by unfold maxLen;omega,?_⟩
 unfold World.shape?
 rw[heap_alloc_new]
 simp[size_madeCells]
theorem ls_litb (T:TypeId) {k:Nat} [hB:LitOf P T E k zs] (hi:st.bget e=none) (hd:I1 ⟨some e,.buildSlice T 0 ([]:List (Nat×Operand)).toArray,ty,pos,af,gd⟩ st=true):
 M6 P ⟨some e,.buildSlice T 0 ([]:List (Nat×Operand)).toArray,ty,pos,af,gd⟩ st (.bs e 0 E k) (.box e []):=fun st2 ha=>by
 intro B w0 g a w K Q hr hK
 have hin:e<st2.n:=H6 (ha.dst hd) e rfl
 have hlim:st2.n<=10000:=hr.lim
 have hi2:st2.bget e=none:=ha.fresh rfl e rfl e (Al (by omega)) hi
 obtain⟨us,h1,h2,-⟩:=HK (P:=P) (T:=T) (E:=E) (k:=k) (zs:=zs) (n:=0) (ps:=[]) (qs:=[]) (ys:=W0 zs 0) (es:=[]) (d:=some e) (ty:=ty) (pos:=pos) (af:=af) (gd:=gd) rfl rfl (by simp[O9]) (by omega) (by omega) hr
 have hu0:us = #[]:=by
  rw[Nat.zero_mul]at h2
  exact Array.eq_empty_of_size_eq_zero h2
 subst hu0
 have hrep:=hr.newb e E hi2 hin #[] [] (E0 _) (fun j cc hj=>by simp at hj) (fun u hu=>by simp at hu)
 unfold Oper.wp
 rw[h1]
 refine hK _ _ _ (hrep.put ?_ _ (H6 (st:=st2.bput e _) (ha.dst hd)))
 refine⟨w.heap.size,0,by simp[Gh.addb],rfl,E0 _,by unfold maxLen;omega,?_⟩
 unfold World.shape?
 rw[heap_alloc_new]
 simp
theorem yEb {k:Nat} [LitOf P T E k zs] (hi:st.bget e=none)
 (h:YR P sq ops K rest ((st.bput e []).put (some e) (.bs e 0 E k))) (zz:zk ops st ⟨some e,.buildSlice T 0 ([]:List (Nat×Operand)).toArray,ty,pos,af,gd⟩ (.box e [])=true:=by kernel_rfl):
 YR P sq ops K (⟨some e,.buildSlice T 0 ([]:List (Nat×Operand)).toArray,ty,pos,af,gd⟩::rest) st:=Dr (ls_litb T hi (zd zz)) (zo zz) (zw zz) h
theorem yMk {n c:Int} {kx ky:IntKind} [hA:AppOf P T E 1 bytes] [hL:LitOf P T E 1 [z]] (h0:0<=n) (hnc:n<=c) (hb:c*(bytes:Int)<=140737488355328) (hc:c<=140737488355328) (hx:st.ev x=.d (.val (.int kx n))) (hy:st.ev y=.d (.val (.int ky c))) (hi:st.bget e=none)
 (h:YR P sq ops K rest ((st.bput e (List.replicate n.toNat (.d (.val z)))).put (some e) (.bs e n.toNat E 1))) (hd:I1 ⟨some e,.makeSlice T x y,ty,pos,af,gd⟩ st=true:=by kernel_rfl) (hk:Dz ⟨some e,.makeSlice T x y,ty,pos,af,gd⟩ st (.box e (List.replicate n.toNat (.d (.val z))))=true:=by kernel_rfl) (hw:st.want ops ⟨some e,.makeSlice T x y,ty,pos,af,gd⟩=some true:=by rfl):
 YR P sq ops K (⟨some e,.makeSlice T x y,ty,pos,af,gd⟩::rest) st:=Dr (ls_make T x y h0 hnc hb hc hx hy hi hd) hk hw h
theorem Rk (T:TypeId) (x y:Operand) {k:Nat} [hS:SliceOf P T E' k'] (hx:st.ev x=.bs i n E k) (hkk:k'=k) (hy:st.ev y=.d (.val (.int kd m))) (h0:0<=m) (hm:m<n) (hd:I1 ⟨d,.indexAddr T x y,ty,pos,af,gd⟩ st=true):
 M6 P ⟨d,.indexAddr T x y,ty,pos,af,gd⟩ st (.bx i (m.toNat*k)) .no:=fun st2 ha=>
 OpS.value (ha.dst hd) fun _ _ g a w h=>by
  subst hkk
  have h1:=h.eval x
  rw[ha.ev x (by simp[Op.operands]),hx]at h1
  have h2:=h.eval y
  rw[ha.ev y (by simp[Op.operands]),hy]at h2
  obtain⟨b,c,q1,q2,q3,q4,q5⟩:=h1
  refine⟨.pointer (some ⟨b,m.toNat*k',none⟩),w,?_,Below.refl _ _,b,q1,C⟩
  have hn:0<=m∧m<(n:Int):=⟨h0,hm⟩
  simp only[execOp,Instr.indexAt,q2,DRep.val_eq h2,asIntOf,Sem.run_bind,Sem.run_pure,D4,hS.und,hn,and_self,if_true,hS.size,Addr.add_lit,E4]
theorem Ad {k:Nat} [SliceOf P T E' k'] (h0:0<=m) (hm:m<n) (hx:st.ev x=.bs i n E k) (hkk:k'=k) (hy:st.ev y=.d (.val (.int kd m))) (h:YR P sq ops K rest (st.put d (.bx i (m.toNat*k)))) (zz:zk ops st ⟨d,.indexAddr T x y,ty,pos,af,gd⟩ .no=true:=by kernel_rfl):
 YR P sq ops K (⟨d,.indexAddr T x y,ty,pos,af,gd⟩::rest) st:=M3 (Rk T x y hx hkk hy h0 hm (zd zz)) (zo zz) (zw zz) h
theorem PC (T:TypeId) (x:Operand) {k:Nat} [hS:SliceOf P T E' k'] (hx:st.ev x=.bs i n E k) (hd:I1 ⟨d,.call { callee:=.builtin .len,args:=#[x],argTypes:=#[T] },ty,pos,af,gd⟩ st=true):
 M6 P ⟨d,.call { callee:=.builtin .len,args:=#[x],argTypes:=#[T] },ty,pos,af,gd⟩ st (.d (.val (.int .i64 n))) .no:=fun st2 ha=>
 OpS.value (ha.dst hd) fun _ _ g a w h=>by
  have h1:=h.eval x
  rw[ha.ev x (by simp[Op.operands,Call.operands]),hx]at h1
  obtain⟨b,c,q1,q2,-⟩:=h1
  refine⟨.int .i64 n,w,?_,Below.refl _ _,DRep.val _ C⟩
  simp[execOp,resolve,invoke,builtin,Builtin.len_,q2,hS.und,goInt]
theorem yNb {k:Nat} [SliceOf P T E' k'] (hx:st.ev x=.bs i n E k) (h:YR P sq ops K rest (st.put d (.d (.val (.int .i64 n))))) (zz:zk ops st ⟨d,.call { callee:=.builtin .len,args:=#[x],argTypes:=#[T] },ty,pos,af,gd⟩ .no=true:=by kernel_rfl):
 YR P sq ops K (⟨d,.call { callee:=.builtin .len,args:=#[x],argTypes:=#[T] },ty,pos,af,gd⟩::rest) st:=M3 (PC T x hx (zd zz)) (zo zz) (zw zz) h
theorem Rm (T:TypeId) (x y:Operand) {k:Nat} [hS:SliceOf P T E' k'] (hx:st.ev x=.bs i n E k) (hy:st.ev y=.d (.val (.int kd m))) (h0:0<=m) (hm:m<=n) (hd:I1 ⟨d,.slice T x none (some y) none,ty,pos,af,gd⟩ st=true):
 M6 P ⟨d,.slice T x none (some y) none,ty,pos,af,gd⟩ st (.bs i m.toNat E k) .no:=fun st2 ha=>
 OpS.value (ha.dst hd) fun _ _ g a w h=>by
  have h1:=h.eval x
  rw[ha.ev x (by simp[Op.operands]),hx]at h1
  have h2:=h.eval y
  rw[ha.ev y (by simp[Op.operands]),hy]at h2
  obtain⟨b,c,q1,q2,q3,q4,q5⟩:=h1
  refine⟨.slice (some ⟨b,0,none⟩) m.toNat c,w,?_,Below.refl _ _,b,c,q1,C,by omega,q4,q5⟩
  have hn:0<=m∧m<=(c:Int):=⟨h0,by omega⟩
  simp only[execOp,Instr.sliceAt,Instr.slice,Instr.sliceBounds,Instr.sliceBound,q2,DRep.val_eq h2,asIntOf,Sem.run_bind,Sem.run_pure,D4,hS.und,hn,and_self,if_true,hS.size,Option.map_some,Option.map_none,Nat.sub_zero,Nat.zero_mul,Addr.add_lit,Nat.add_zero]
  simp
theorem yDb {k:Nat} [SliceOf P T E' k'] (h0:0<=m) (hm:m<=n) (hx:st.ev x=.bs i n E k) (hy:st.ev y=.d (.val (.int kd m))) (h:YR P sq ops K rest (st.put d (.bs i m.toNat E k))) (zz:zk ops st ⟨d,.slice T x none (some y) none,ty,pos,af,gd⟩ .no=true:=by kernel_rfl):
 YR P sq ops K (⟨d,.slice T x none (some y) none,ty,pos,af,gd⟩::rest) st:=M3 (Rm T x y hx hy h0 hm (zd zz)) (zo zz) (zw zz) h
theorem Do (hr:Rep B w0 g st a w) {k:Nat} (hx:asSl (st.ev x)=some (k,es)):
 ∃ A c,∃ news:List Value,a.eval x=.slice A es.length c∧news.length=es.length*k∧(0<es.length->∃ b off,A=some ⟨b,off,none⟩ ∧ ∀ j u,news[j]? = some u->w.cell? ⟨b,off+j,none⟩=some u)∧(∀ u∈news,u.oneCell'=true) ∧ ∀ (i j:Nat) e z,es[i]? = some e->e[j]? = some z->∃ u,news[i*k+j]? = some u∧DRep (Fx g) w u z:=by
 obtain⟨A,c,news,hv,-,-,-,hl,hcell,hone,hrep⟩:=DRep.row ((hr.eval x).asSl hx)
 exact⟨A,c,news,hv,hl,fun h0=>by
  obtain⟨b,off,h1,h2⟩:=hcell h0
  exact⟨b,off,h1,fun j u hj=>(h2 j u hj).1⟩,hone,hrep⟩
theorem yCp {e:Option Nat} {T2:Nat} {cs:List SV} [hS:SliceOf P T E' 1] (hds:es=ds.map fun z=>[z]) (hn:n<=es.length) (hlt0:i<500000) (hx:st.ev x=.bs i n E 1) (hi:st.bget i=some cs) (hcs:cs.length=n) (hy:asSl (st.ev y)=some (1,es))
 (h:YR P true ops K rest ((st.bput i ((ds.take n).map .d)).put e (.d (.val (.int .i64 n))))) (hd:I1 ⟨e,.call { callee:=.builtin .copy,args:=#[x,y],argTypes:=#[T,T2] },ty,pos,af,gd⟩ st=true:=by kernel_rfl) (hw:st.want ops ⟨e,.call { callee:=.builtin .copy,args:=#[x,y],argTypes:=#[T,T2] },ty,pos,af,gd⟩=some true:=by rfl):
 YR P true ops K (⟨e,.call { callee:=.builtin .copy,args:=#[x,y],argTypes:=#[T,T2] },ty,pos,af,gd⟩::rest) st:=by
 refine .any C fun B w0 Q hQ g a w hr=>?_
 have h1:=hr.eval x
 rw[hx]at h1
 obtain⟨b,c,q1,q2,q3,q4,q5⟩:=h1
 obtain⟨A,c2,news,r1,r2,r3,r4,r5⟩:=Do hr hy
 rw[Nat.mul_one]at r2
 have hdl:es.length=ds.length:=by rw[hds,A8]
 obtain⟨w',s1,s2⟩:=GZ (P:=P) hlt0 q1 0 (news.take n) ((ds.take n).map .d) st w cs 0 hr hi (by simp;omega) (by simp;omega) (fun p v z hv hz=>by
  rw[C6,C7]at hz
  obtain⟨u,hu,rfl⟩:=hz
  have hp:p<n:=by have:=(A6.1 hu).1;simp at this;omega
  rw[E8 hp]at hv hu
  obtain⟨u',t1,t2⟩:=r5 p 0 [u] u (by rw[hds,C6,hu];rfl) rfl
  rw[Nat.mul_one,Nat.add_zero,hv]at t1
  cases t1
  exact t2) (fun v hv=>r4 v (List.mem_of_mem_take hv))
 have hset:Bn cs (0+0) ((ds.take n).map .d)=(ds.take n).map .d:=by
  have key:∀ (xs cs pre:List SV),cs.length=xs.length->Bn (pre++cs) pre.length xs=pre++xs:=by
   intro xs
   induction xs with
   | nil=>intro cs pre hl;rw[List.eq_nil_of_length_eq_zero hl];rfl
   | cons z xs ih=>
    intro cs pre hl
    match cs,hl with
    | c0::cs,hl=>
     rw[Bn,List.set_append_right _ _ (E0 _),Nat.sub_self,List.set_cons_zero]
     have:=ih cs (pre++[z]) (by simpa using hl)
     simpa using this
  have:=key ((ds.take n).map .d) cs [] (by simp;omega)
  simpa using this
 rw[hset]at s2
 have hrun:(execOp a.eval ⟨e,.call { callee:=.builtin .copy,args:=#[x,y],argTypes:=#[T,T2] },ty,pos,af,gd⟩).run P w=.ok (.value (.int .i64 n)) w':=by
  have hmin:Nat.min es.length n=n:=Nat.min_eq_right hn
  have hfirst:(Builtin.firstCells 1 n (.slice A es.length c2)).run P w=.ok (news.take n).toArray w:=by
   rcases H7 n with h0|h0
   . subst h0
     cases A<;>simp[Builtin.firstCells,loadCells,loadCellsFrom]
   . obtain⟨b2,off2,rfl,t2⟩:=r3 (by omega)
     have:=AP P w ⟨b2,off2,none⟩ (news.take n) n 0 #[] (by simp;omega) (fun j u hj=>by
      rw[E4,Addr.add_lit]
      have hj':j<n:=by have:=(A6.1 hj).1;simp at this;omega
      rw[E8 hj']at hj
      exact t2 j u hj)
     simpa[Builtin.firstCells,loadCells]using this
  simp only[execOp,resolve,invoke,builtin,Builtin.copy_,Sem.run_bind,Sem.run_pure,D4,List.map_toArray,List.map_cons,List.map_nil,q2,r1,Builtin.lenOf]
  simp[hS.und,hS.size,hfirst,s1,goInt,hmin]
 unfold wpList
 rw[B9 (M4 hr hw)]
 refine .inl ?_
 unfold Oper.wp
 rw[hrun]
 exact h.sound hQ (s2.put (x:=.d (.val (.int .i64 n))) (DRep.val _ C) _ (H6 (st:=st) hd))
theorem yCob {k:Nat} [hB:HasBody P f] (hc:POwn P f ys E k es) (h0:0<es.length) (hds:O9 k es.length (vs.map .val)=es) (hdl:vs.length=es.length*k) (ha:Be st l=some ys) (hi:st.bget e=none)
 (h:YR P true ops K rest ((st.bput e (vs.map fun u=>.d (.val u))).put (some e) (.bs e es.length E k))) (hd:I1 ⟨some e,.call { callee:=.value (.func f),args:=l.toArray,argTypes:=ts },ty,pos,af,gd⟩ st=true:=by kernel_rfl)
 (hw:st.want ops ⟨some e,.call { callee:=.value (.func f),args:=l.toArray,argTypes:=ts },ty,pos,af,gd⟩=some true:=by rfl):
 YR P true ops K (⟨some e,.call { callee:=.value (.func f),args:=l.toArray,argTypes:=ts },ty,pos,af,gd⟩::rest) st:=by
 refine .any C fun B w0 Q hQ g a w hr=>?_
 obtain⟨h1,h2⟩:=Cg ha
 have V0:=hc (Fx g) w (l.map a.eval) (by simpa using h1) (fun i v x hv hx=>by
  rw[C6,C7]at hv
  obtain⟨y,h3,rfl⟩:=hv
  exact(hr.eval y).toD (h2 i y x h3 hx)) hr.gok
 unfold wpList
 rw[B9 (M4 hr hw)]
 refine .inl ?_
 unfold Oper.wp
 rw[CU]
 show Calls P f _ w _
 refine V0.mono ?_
 rintro e' w' ⟨v,xs,rfl,h3,h3o,h4,h5⟩
 obtain⟨hxl,(⟨-,q0⟩|⟨gb,cap,cur,rfl,q1,q2,q3,q4,q5,q6⟩)⟩:=h3
 . omega
 have hin:e<st.n:=H6 hd e rfl
 obtain⟨A,c2,news,r1,-,-,r4,r5,r6,r7,r8⟩:=DRep.row h4
 obtain⟨b2,off2,rfl,r9⟩:=r6 h0
 obtain⟨e1,-,-⟩:=Value.slice.inj r1
 have e1':gb=b2∧off2=0:=by
  have:=J0 e1
  exact⟨G4 Addr.block this,(G4 Addr.off this).symm⟩
 obtain⟨rfl,rfl⟩:=e1'
 have hcur:∀ (j:Nat) (u:Value),vs[j]? = some u->cur[j]? = some u∧u.oneCell'=true:=fun j u hj=>by
  have hjl:j<es.length*k:=by rw[<-hdl];exact(A6.1 hj).1
  have hk0:0<k:=by
   rcases H7 k with h|h
   . rw[h,Nat.mul_zero]at hjl;omega
   . exact h
  have hq:j / k<es.length:=Nat.div_lt_of_lt_mul (by rw[Nat.mul_comm];exact hjl)
  have hr':j % k<k:=Nat.mod_lt _ hk0
  have he:=A4 hq
  have hx:=A4 (l:=es[j / k]) (i:=j % k) (by rw[r4 _ (List.getElem_mem hq)];exact hr')
  obtain⟨u',t1,t2⟩:=r8 _ _ _ _ he hx
  have t3:=Bh k es.length (vs.map .val) (j / k) (j % k) es[j / k] _ (by rw[hds];exact he) hx (by simpa using hdl)
  rw[Nat.mul_comm,Nat.div_add_mod]at t1
  have t4:=t3.1
  rw[Nat.mul_comm (j / k),Nat.div_add_mod,C6,hj]at t4
  have t5:=J0 t4
  rw[<-t5]at t2
  have t6:=DRep.val_eq t2
  subst t6
  refine⟨?_,r7 u' (B8 t1)⟩
  have:=(r9 j u' t1).1
  rw[E4]at this
  simpa[World.cell?,q2]using this
 have hvl:vs.length<=cur.size:=by
  rw[hdl,q5];exact Nat.mul_le_mul_right _ q3
 obtain⟨ev,hr'⟩:=hr.adopt e gb E hi hin h5 q1 cur q2 (vs.map fun u=>.d (.val u)) (by simpa using hvl) (fun _ j c hj=>by
  rw[C6,C7]at hj
  obtain⟨u,hu,rfl⟩:=hj
  obtain⟨t1,t2⟩:=hcur j u hu
  exact⟨u,t1,DRep.val u t2⟩) (fun j u hj hu=>by
  obtain⟨t1,t2⟩:=hcur j _ (A4 (by simpa using hj))
  rw[hu]at t1
  cases t1
  exact t2)
 refine h.sound hQ (hr'.put ?_ (some e) fun i hi=>by cases hi;exact hin)
 refine⟨gb,cap,by simp[Gh.addb],rfl,q3,q4,?_⟩
 simp[World.shape?,q2,q5]
end
end Go.Proofs.YtddfimjiihggmaaGreatDoor.Px