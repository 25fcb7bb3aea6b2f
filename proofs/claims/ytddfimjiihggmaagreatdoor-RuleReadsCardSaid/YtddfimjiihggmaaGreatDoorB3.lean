/- The logic of pure states: calls that are handed boxes and rows of one's own. -/
import Derived.Test.YtddfimjiihggmaaGreatDoorB2
import Derived.Deep.Slices
import Derived.Test.YtddfimjiihggmaaGreatDoorProg
set_option maxHeartbeats 16000000
set_option maxRecDepth 20000
namespace Go.Proofs.YtddfimjiihggmaaGreatDoor.Px
open Go.RowKit
variable {l:List UInt8} {F:Nat->Nat->Prop} {g:Gh} {st:PS} {w w':World} {args:List SV} {bs bn:List (Nat×List SV)} {rs:List ResultVar} {x:Operand} {i T t B t':Nat} {tn ts:List (Nat×Nat)} {P:Program} {α:Type} {r:SV} {w0:Cx} {a:Act} {m n:Int} {kd:IntKind} {f:FuncId} {v:Value} {b:UInt8}
def SV.sh:SV->SV
 | .bx i o=>.bx (i+10000) o
 | .ts t k es=>.ts (t+10000) k es
 | .fn f caps=>.fn f (caps.map (· + 10000))
 | .fb f i o=>.fb f (i+10000) o
 | .bs i n E k=>.bs (i+10000) n E k
 | .mb i=>.mb (i+10000)
 | .tx i T n=>.tx (i+10000) T n
 | x=>x
def SV.fit (is ts:List Nat) (x:SV):Bool:=x.ids.all (fun i=>is.contains i)&&(match x with|.ts t _ _=>ts.contains t|_=>true)
def okB (i:Nat):Bool:=Nat.ble (i % 500000+10000) 490000
def Lc (t:Nat):Bool:=Nat.ble (t % 100000+10000) 90000
def Gh.pass (g:Gh) (F:Nat->Nat->Prop) (is ts:List Nat):Gh:=⟨F,fun j=>if 10000<=j∧(j-10000)∈is then g.bl (j-10000)else none,fun t=>if 10000<=t∧(t-10000)∈ts then g.tk (t-10000)else none⟩
def BT (g:Gh) (w:World) (is ts:List Nat) (b o:Nat):Prop:=Fx g b o∨w.heap.size<=b∨(∃ i∈is,g.bl i=some b) ∨ ∃ t∈ts,∃ T,g.tk t=some T∧T.v.ownBlock=some b
theorem Z9 {is ts:List Nat} {j b:Nat} (h:(g.pass F is ts).bl j=some b):10000<=j∧(j-10000)∈is∧g.bl (j-10000)=some b:=by
 simp only[Gh.pass]at h
 split at h
 . rename_i h1;exact⟨h1.1,h1.2,h⟩
 . cases h
theorem V8 {is ts:List Nat} {T:Tk} (h:(g.pass F is ts).tk t=some T):10000<=t∧(t-10000)∈ts∧g.tk (t-10000)=some T:=by
 simp only[Gh.pass]at h
 split at h
 . rename_i h1;exact⟨h1.1,h1.2,h⟩
 . cases h
theorem DG {is ts:List Nat} (hi:i∈is):(g.pass F is ts).bl (i+10000)=g.bl i:=by
 simp only[Gh.pass,Nat.add_sub_cancel]
 rw[B9 ⟨by omega,hi⟩]
theorem NI {is ts:List Nat} (ht:t∈ts):(g.pass F is ts).tk (t+10000)=g.tk t:=by
 simp only[Gh.pass,Nat.add_sub_cancel]
 rw[B9 ⟨by omega,ht⟩]
theorem JY (h:okB i=true):¬ Oe (i+10000):=by
 have:=C0 h
 unfold Oe
 omega
theorem JX (h:Lc t=true):¬ smT (t+10000)∧(t+10000) / 100000=t / 100000:=by
 have:=C0 h
 unfold smT
 omega
theorem GI (g:Gh) (w:World) (is ts:List Nat):Kp (Fx g) w (Fx (g.pass (BT g w is ts) is ts)) w:=Kp.same fun _ _ hf=>
 ⟨.inl hf,fun _ hj=>hf.2.1 _ (Z9 hj).2.2,fun _ T n c hT hv=>hf.2.2 _ T n c (V8 hT).2.2 hv⟩
theorem IL {is ts:List Nat} {x:SV} (h:SRep g w v x) (hf:x.fit is ts=true):SRep (g.pass (BT g w is ts) is ts) w v x.sh:=by
 have kp:=GI g w is ts
 simp only[SV.fit,D1,E5,List.contains_iff_mem]at hf
 have hb:∀ i∈x.ids,∀ b,g.bl i=some b->(g.pass (BT g w is ts) is ts).bl (i+10000)=some b:=fun i hi b hb=>by rw[DG (hf.1 i hi)];exact hb
 cases x with
 | any=>trivial
 | d x=>exact DRep.mono h kp
 | ts t k es=>
  refine⟨DRep.mono h.1 kp,fun T hT=>h.2 T ?_⟩
  obtain⟨-,-,h3⟩:=V8 hT
  simpa using h3
 | bx i off=>obtain⟨b,h1,h2⟩:=h;exact⟨b,hb i (by simp[SV.ids]) b h1,h2⟩
 | rd cs=>
  obtain⟨b,off,f,h1,h2⟩:=h
  refine⟨b,off,f,h1,fun j x hj=>?_⟩
  obtain⟨h3,h4,h5',h5⟩:=h2 j x hj
  obtain⟨h6,h7⟩:=kp.cell h4 h3
  exact⟨h7,h6,h5',h5.mono kp⟩
 | tup xs=>
  obtain⟨vs,h1,h2,h3⟩:=h
  exact⟨vs,h1,h2,fun i y x hy hx=>(h3 i y x hy hx).mono kp⟩
 | fn f caps=>
  obtain⟨bs,h1,h2,h3⟩:=h
  refine⟨bs,h1,by simpa using h2,fun i b c hbi hc=>?_⟩
  rw[C6,C7]at hc
  obtain⟨c0,h4,rfl⟩:=hc
  exact hb c0 (by simpa[SV.ids]using B8 h4) b (h3 i b c0 hbi h4)
 | fb f i off=>obtain⟨b,h1,h2⟩:=h;exact⟨b,hb i (by simp[SV.ids]) b h1,h2⟩
 | bs i n E k=>obtain⟨b,c,h1,h2⟩:=h;exact⟨b,c,hb i (by simp[SV.ids]) b h1,h2⟩
 | mb i=>obtain⟨b,h1,h2⟩:=h;exact⟨b,hb i (by simp[SV.ids]) b h1,h2⟩
 | tx i T n=>obtain⟨b,h1,h2⟩:=h;exact⟨b,hb i (by simp[SV.ids]) b h1,h2⟩
 | mc ms=>exact h
def FA:Nat->List SV->List (Nat×SV)
 | _,[]=>[]
 | i,x::l=>(i,x)::FA (i+1) l
theorem FB (i j:Nat) (l:List SV):G1 (FA i l) j=if i<=j then l[j-i]? else none:=by
 induction l generalizing i with
 | nil=>simp[FA,G1]
 | cons x l ih=>
  rw[FA,G3,ih]
  by_cases h:j=i
  . simp[h]
  . rw[B5 h]
    by_cases h2:i<=j
    . rw[B9 h2,B9 (by omega),show j-i=(j-(i+1))+1 by omega];simp
    . rw[B5 h2,B5 (by omega)]
def Gf (bs:List (Nat×List SV)):List (Nat×List SV):=bs.map fun p=>(p.1+10000,p.2.map SV.sh)
def Ge (ts:List (Nat×Nat)):List (Nat×Nat):=ts.map fun p=>(p.1+10000,p.2)
theorem Bj (bs:List (Nat×List SV)) (j:Nat):G1 (Gf bs) j=if 10000<=j then (G1 bs (j-10000)).map (List.map SV.sh)else none:=by
 induction bs with
 | nil=>simp[Gf,G1]
 | cons p bs ih=>
  obtain⟨i,cs⟩:=p
  have:Gf ((i,cs)::bs)=(i+10000,cs.map SV.sh)::Gf bs:=rfl
  rw[this,G3,ih,G3]
  by_cases h1:j=i+10000
  . subst h1;simp
  . rw[B5 h1]
    by_cases h2:10000<=j
    . rw[B9 h2,B9 h2,B5 (by omega)]
    . rw[B5 h2,B5 h2]
theorem Cj (ts:List (Nat×Nat)) (j:Nat):G1 (Ge ts) j=if 10000<=j then G1 ts (j-10000)else none:=by
 induction ts with
 | nil=>simp[Ge,G1]
 | cons p ts ih=>
  obtain⟨i,n⟩:=p
  have:Ge ((i,n)::ts)=(i+10000,n)::Ge ts:=rfl
  rw[this,G3,ih,G3]
  by_cases h1:j=i+10000
  . subst h1;simp
  . rw[B5 h1]
    by_cases h2:10000<=j
    . rw[B9 h2,B9 h2,B5 (by omega)]
    . rw[B5 h2,B5 h2]
structure Fit (st:PS) (bs:List (Nat×List SV)) (ts:List (Nat×Nat)):Prop where
 b:∀ i cs,G1 bs i=some cs->st.bget i=some cs
 t:∀ t n,G1 ts t=some n->st.tget t=some n
 ok:∀ p∈bs,okB p.1=true ∧ ∀ c∈p.2,c.fit (bs.map (·.1)) (ts.map (·.1))=true
 okt:∀ p∈ts,Lc p.1=true
theorem O6 {l:List (Nat×α)} (h:i∈l.map (·.1)):∃ x,G1 l i=some x:=by
 induction l with
 | nil=>simp at h
 | cons p l ih=>
  obtain⟨j,x⟩:=p
  rw[G3]
  by_cases e:i=j
  . exact⟨x,by rw[B9 e]⟩
  . rw[B5 e]
    exact ih (by simpa[e]using h)
theorem BD {l:List (Nat×α)} {x:α} (h:G1 l i=some x):i∈l.map (·.1):=H2.2 ⟨_,M9 h,rfl⟩
theorem Rep.not_own (h:Rep B w0 g st a w) {q:Nat} {cs:List DV} (hq:G1 gs q=some cs):¬ R4 g w q:=fun ho=>by
 have hn:=h.gown q cs hq
 rcases ho with h1|⟨i,h1⟩|⟨t,T,h1,h2⟩
 . obtain⟨vs,-,T,z,h2⟩:=(h.gok q cs hq).2
   have h3:=(D2.1 h2).1
   omega
 . rcases h.evo.bl i q h1 with h2|h2
   . exact hn (.inr (.inl ⟨i,h2⟩))
   . exact hn h2.2
 . exact hn (h.evo.tb t T q h1 h2)
theorem RV {is ts:List Nat} {b:Nat} (h:R4 (g.pass F is ts) w b):R4 g w b:=by
 rcases h with h1|⟨i,h1⟩|⟨t,T,h1,h2⟩
 . exact .inl h1
 . exact .inr (.inl ⟨_,(Z9 h1).2.2⟩)
 . exact .inr (.inr ⟨_,T,(V8 h1).2.2,h2⟩)
theorem Rep.pass (h:Rep B w0 g st a w) (hfit:Fit st bs ts) {vals:List Value} {n m:Nat} (hn:m=n) (hl:args.length<=n) (hlim:n<=10000) (hvl:vals.length=args.length)
 (hv:∀ (i:Nat) v x,vals[i]? = some v->args[i]? = some x->SRep g w v x) (ha:∀ x∈args,x.fit (bs.map (·.1)) (ts.map (·.1))=true):
 Rep w.heap.size ⟨w,g.pass (BT g w (bs.map (·.1)) (ts.map (·.1))) (bs.map (·.1)) (ts.map (·.1)),none,w.heap.size,E0 _⟩ (g.pass (BT g w (bs.map (·.1)) (ts.map (·.1))) (bs.map (·.1)) (ts.map (·.1))) ⟨n,FA 0 (args.map SV.sh),Gf bs,Ge ts⟩ { tmps:=vals.toArray++Array.replicate (m-vals.toArray.size) undef,defers:=[] } w:=by
 subst hn
 refine { evo:=Evo.refl _ _,base:=E0 _,f0:=fun b o h=>.inr (.inl h),lim:=hlim,size:=by simp;omega,defers:=Dfr.nil _ _ _,slots:=fun i=>?_,boxes:=fun i cs hi hlt=>?_,maps:=fun i ms hi hge=>?_,blk:=fun i b hi=>?_,dom:=fun i b hi=>?_,inj:=fun i j b hi hj=>?_,toks:=fun t T hT=>?_,tf0:=fun t T b o hT hb=>?_,telt:=fun t T hT=>?_,tdis:=fun t t' T T' b h1 h2 h3 h4=>?_,tdom:=fun t T hT=>?_,tlen:=fun t n ht=>?_,glob:=h.gok.rep (GI g w _ _),gown:=fun q cs hq ho=>h.not_own hq (RV ho),ghp:=fun q cs hq=>(h.gok q cs hq).2 }
 . unfold PS.get
   simp only[FB,E7,if_true,Nat.sub_zero,C6]
   cases hx:args[i]? with
   | none=>trivial
   | some x=>
    have hlt:i<vals.length:=by rw[hvl];exact(A6.1 hx).1
    have h1:=hv i _ x (A4 hlt) hx
    have h2:(vals.toArray++Array.replicate (m-vals.toArray.size) undef).getD i undef=vals[i]:=by
     simp[Array.getD,hlt]
     omega
    simp only[Option.map_some]
    rw[h2]
    exact IL h1 (ha x (B8 hx))
 . have hi':G1 (Gf bs) i=some cs:=hi
   rw[Bj]at hi'
   split at hi'
   . rename_i hge
     rw[C7]at hi'
     obtain⟨cs0,h1,rfl⟩:=hi'
     obtain⟨b,xs,T,h2,h3,h4,h5,h6⟩:=h.boxes _ cs0 (hfit.b _ _ h1) (by omega)
     have hmem:=BD h1
     refine⟨b,xs,T,?_,h3,by simpa using h4,fun j c hj=>?_,fun j u hj hu=>h6 j u (by simpa using hj) hu⟩
     . have:=DG (g:=g) (F:=BT g w (bs.map (·.1)) (ts.map (·.1))) (ts:=ts.map (·.1)) hmem
       rw[Nat.sub_add_cancel hge]at this
       rw[this];exact h2
     . rw[C6,C7]at hj
       obtain⟨c0,h7,rfl⟩:=hj
       obtain⟨x,h8,h9⟩:=h5 j c0 h7
       exact⟨x,h8,IL h9 ((hfit.ok _ (M9 h1)).2 c0 (B8 h7))⟩
   . cases hi'
 . have hi':G1 (Gf bs) i=some [.mc ms]:=hi
   rw[Bj,B9 (by omega),C7]at hi'
   obtain⟨cs0,h1,h2⟩:=hi'
   have h3:cs0=[.mc ms]:=by
    rw[List.map_eq_singleton_iff]at h2
    obtain⟨x,rfl,h2⟩:=h2
    cases x<;>cases h2
    rfl
   subst h3
   have hok:=C0 (hfit.ok _ (M9 h1)).1
   simp only at hok
   obtain⟨b,es,c,h4,h5,h6⟩:=h.maps _ ms (hfit.b _ _ h1) (by omega)
   refine⟨b,es,c,?_,h5,h6.mono (GI g w _ _)⟩
   have:=DG (g:=g) (F:=BT g w (bs.map (·.1)) (ts.map (·.1))) (ts:=ts.map (·.1)) (BD h1)
   rw[Nat.sub_add_cancel (by omega)]at this
   rw[this];exact h4
 . obtain⟨h1,h2,h3⟩:=Z9 hi
   exact⟨fun o=>.inr (.inr (.inl ⟨_,h2,h3⟩)),(h.blk _ b h3).2⟩
 . obtain⟨h1,h2,h3⟩:=Z9 hi
   show G1 (Gf bs) i≠none
   obtain⟨x,hx⟩:=O6 h2
   rw[Bj,B9 h1,hx]
   simp
 . obtain⟨h1,h2,h3⟩:=Z9 hi
   obtain⟨h4,h5,h6⟩:=Z9 hj
   have:=h.inj _ _ b h3 h6
   omega
 . obtain⟨h1,h2,h3⟩:=V8 hT
   obtain⟨h4,h5⟩:=h.toks _ T h3
   exact⟨h4,fun i b hb hi=>h5 _ b hb (Z9 hi).2.2⟩
 . obtain⟨h1,h2,h3⟩:=V8 hT
   exact .inr (.inr (.inr ⟨_,h2,T,h3,hb⟩))
 . obtain⟨h1,h2,h3⟩:=V8 hT
   obtain⟨x,hx⟩:=O6 h2
   have:=(JX (hfit.okt _ (M9 hx))).2
   rw[Nat.sub_add_cancel h1]at this
   rw[h.telt _ T h3,this]
 . obtain⟨q1,q2,q3⟩:=V8 h1
   obtain⟨q4,q5,q6⟩:=V8 h2
   have:=h.tdis _ _ T T' b q3 q6 h3 h4
   omega
 . obtain⟨h1,h2,h3⟩:=V8 hT
   show G1 (Ge ts) t≠none
   obtain⟨x,hx⟩:=O6 h2
   rw[Cj,B9 h1,hx]
   simp
 . have ht':G1 (Ge ts) t=some n:=ht
   rw[Cj]at ht'
   split at ht'
   . rename_i hge
     obtain⟨T,A,c,h1,h2⟩:=h.tlen _ n (hfit.t _ _ ht')
     refine⟨T,A,c,?_,h2⟩
     have:=NI (g:=g) (F:=BT g w (bs.map (·.1)) (ts.map (·.1))) (is:=bs.map (·.1)) (BD ht')
     rw[Nat.sub_add_cancel hge]at this
     rw[this];exact h1
   . cases ht'
theorem BH (l l':List (Nat×α)) (i:Nat):G1 (l++l') i=(G1 l i).or (G1 l' i):=by
 induction l with
 | nil=>rfl
 | cons p l ih=>
  obtain⟨j,x⟩:=p
  rw[List.cons_append,G3,G3,ih]
  by_cases e:i=j<;>simp[e]
theorem AZ {l:List (Nat×α)} (h:i ∉ l.map (·.1)):G1 l i=none:=by
 cases e:G1 l i with
 | none=>rfl
 | some x=>exact G5 (BD e) h
theorem Od {g' G:Gh} {is ts:List Nat} {x:SV} (kp:Kp (Fx g') w' (Fx G) w') (hb:∀ i∈is,g'.bl (i+10000)=G.bl i) (ht:∀ t∈ts,g'.tk (t+10000)=G.tk t) (h:SRep g' w' v x.sh) (hf:x.fit is ts=true):SRep G w' v x:=by
 simp only[SV.fit,D1,E5,List.contains_iff_mem]at hf
 have hb:∀ i∈x.ids,∀ b,g'.bl (i+10000)=some b->G.bl i=some b:=fun i hi b h1=>by rw[<-hb i (hf.1 i hi)];exact h1
 cases x with
 | any=>trivial
 | d x=>exact DRep.mono h kp
 | ts t k es=>
  refine⟨DRep.mono h.1 kp,fun T hT=>h.2 T ?_⟩
  rw[ht t (by simpa using hf.2)]
  exact hT
 | bx i off=>obtain⟨b,h1,h2⟩:=h;exact⟨b,hb i (by simp[SV.ids]) b h1,h2⟩
 | rd cs=>
  obtain⟨b,off,f,h1,h2⟩:=h
  refine⟨b,off,f,h1,fun j x hj=>?_⟩
  obtain⟨h3,h4,h5',h5⟩:=h2 j x hj
  obtain⟨h6,h7⟩:=kp.cell h4 h3
  exact⟨h7,h6,h5',h5.mono kp⟩
 | tup xs=>
  obtain⟨vs,h1,h2,h3⟩:=h
  exact⟨vs,h1,h2,fun i y x hy hx=>(h3 i y x hy hx).mono kp⟩
 | fn f caps=>
  obtain⟨bs,h1,h2,h3⟩:=h
  refine⟨bs,h1,by simpa using h2,fun i b c hbi hc=>?_⟩
  exact hb c (by simpa[SV.ids]using B8 hc) b (h3 i b (c+10000) hbi (by rw[C6,hc];rfl))
 | fb f i off=>obtain⟨b,h1,h2⟩:=h;exact⟨b,hb i (by simp[SV.ids]) b h1,h2⟩
 | bs i n E k=>obtain⟨b,c,h1,h2⟩:=h;exact⟨b,c,hb i (by simp[SV.ids]) b h1,h2⟩
 | mb i=>obtain⟨b,h1,h2⟩:=h;exact⟨b,hb i (by simp[SV.ids]) b h1,h2⟩
 | tx i T n=>obtain⟨b,h1,h2⟩:=h;exact⟨b,hb i (by simp[SV.ids]) b h1,h2⟩
 | mc ms=>exact h
def PS.puts (st:PS) (bn:List (Nat×List SV)) (tn:List (Nat×Nat)):PS:=⟨st.n,st.s,bn++st.b,tn++st.t⟩
theorem Rep.back (h:Rep B w0 g st a w) (hfit:Fit st bs ts) {g':Gh} {st':PS} {a':Act} 
 (hc:Rep w.heap.size ⟨w,g.pass (BT g w (bs.map (·.1)) (ts.map (·.1))) (bs.map (·.1)) (ts.map (·.1)),none,w.heap.size,E0 _⟩ g' st' a' w') (bn:List (Nat×List SV)) (tn:List (Nat×Nat)) (hbk:bn.map (·.1)=bs.map (·.1)) (htk:tn.map (·.1)=ts.map (·.1))
 (hbn:∀ i cs,G1 bn i=some cs->st'.bget (i+10000)=some (cs.map SV.sh)) (htn:∀ t n,G1 tn t=some n->st'.tget (t+10000)=some n) (hok:∀ p∈bn,∀ c∈p.2,c.fit (bs.map (·.1)) (ts.map (·.1))=true) (hmc:∀ i cs,G1 bn i=some cs->490000<=i->∃ ms,cs=[.mc ms]):
 ∃ G,Evo g w G w'∧Kp (Fx g') w' (Fx G) w'∧Rep B w0 G (st.puts bn tn) a w':=by
 obtain⟨is,his⟩:=H8 (bs.map (·.1))
 obtain⟨tl,htl⟩:=H8 (ts.map (·.1))
 rw[<-his]at hbk hok hc
 rw[<-htl]at htk hok hc
 have hev:=hc.evo
 simp only at hev
 have hokB:∀ i∈is,okB i=true:=fun i hi=>by
  rw[his]at hi
  obtain⟨cs,hcs⟩:=O6 hi
  exact(hfit.ok _ (M9 hcs)).1
 have hokT:∀ t∈tl,Lc t=true:=fun t ht=>by
  rw[htl]at ht
  obtain⟨n,hn⟩:=O6 ht
  exact hfit.okt (t,n) (M9 hn)
 have hbl:∀ i∈is,g'.bl (i+10000)=g.bl i:=fun i hi=>by
  obtain⟨cs,hcs⟩:=O6 (l:=bn) (i:=i) (by rw[hbk];exact hi)
  have h1:=hbn i cs hcs
  have h2:∃ b,g'.bl (i+10000)=some b:=by
   by_cases hlt:i+10000<500000
   . obtain⟨b,xs,T,q1,-⟩:=hc.boxes _ _ h1 hlt
     exact⟨b,q1⟩
   . obtain⟨ms,hms⟩:=hmc i cs hcs (by omega)
     rw[hms]at h1
     obtain⟨b,es,c,q1,-⟩:=hc.maps _ ms h1 (by omega)
     exact⟨b,q1⟩
  obtain⟨b,hb⟩:=h2
  rcases hev.bl _ _ hb with h3|h3
  . exact hb.trans ((DG hi).symm.trans h3).symm
  . exact G5 h3.1 (JY (hokB i hi))
 have hOwn:∀ b,R4 (g.pass (BT g w is tl) is tl) w b->R4 g w b:=fun b hb=>by
  rcases hb with h1|⟨i,h1⟩|⟨t,T,h1,h2⟩
  . exact .inl h1
  . exact .inr (.inl ⟨_,(Z9 h1).2.2⟩)
  . exact .inr (.inr ⟨_,T,(V8 h1).2.2,h2⟩)
 have hfar:∀ i b,i ∉ is->g.bl i=some b->¬ R4 (g.pass (BT g w is tl) is tl) w b:=fun i b hi hb hO=>by
  rcases hO with h1|⟨j,h1⟩|⟨t,T,h1,h2⟩
  . have:=(h.blk i b hb).2;omega
  . obtain⟨-,q2,q3⟩:=Z9 h1
    exact hi (h.inj i _ b hb q3 ▸ q2)
  . exact(h.toks _ T (V8 h1).2.2).2 i b h2 hb
 have htfar:∀ t T b,t ∉ tl->g.tk t=some T->T.v.ownBlock=some b->¬ R4 (g.pass (BT g w is tl) is tl) w b:=fun t T b ht hT hb hO=>by
  obtain⟨⟨n,xs,q0⟩,q0'⟩:=h.toks t T hT
  rcases hO with h1|⟨j,h1⟩|⟨t',T',h1,h2⟩
  . have:=(q0.lt b hb).2;omega
  . exact q0' _ b hb (Z9 h1).2.2
  . obtain⟨-,q2,q3⟩:=V8 h1
    exact ht (h.tdis t _ T T' b hT q3 hb h2 ▸ q2)
 obtain⟨G,hG⟩:∃ G:Gh,G=⟨g.f0,g.bl,fun t=>if t∈tl then g'.tk (t+10000)else g.tk t⟩:=⟨_,rfl⟩
 have hGf:G.f0=g.f0:=by rw[hG]
 have hGb:G.bl=g.bl:=by rw[hG]
 have hGt:∀ t∈tl,g'.tk (t+10000)=G.tk t:=fun t ht=>by rw[hG];simp[ht]
 have hGn:∀ t,t ∉ tl->G.tk t=g.tk t:=fun t ht=>by rw[hG];simp[ht]
 have hle:∀ t T',t∈tl->G.tk t=some T'->∃ T,g.tk t=some T∧LZ T T':=fun t T' ht hT'=>by
  rw[<-hGt t ht]at hT'
  rcases hev.tk _ _ hT' with⟨T,q1,q2⟩|q1
  . exact⟨T,by rw[<-NI ht];exact q1,q2⟩
  . exact G5 q1 (JX (hokT t ht)).1
 have kp:Kp (Fx g') w' (Fx G) w':=Kp.same fun b o hf=>by
  have hF:BT g w is tl b o:=by have:=hf.1;rw[hev.f0]at this;exact this
  refine⟨?_,fun i hi=>?_,fun t T n c hT hv=>?_⟩
  . rw[hGf]
    rcases hF with q|q|⟨i,q1,q2⟩|⟨t,q1,T,q2,q3⟩
    . exact q.1
    . exact h.f0 b o (D9 h.base q)
    . exact(h.blk i b q2).1 o
    . exact h.tf0 t T b o q2 q3
  . rw[hGb]at hi
    by_cases hm:i∈is
    . exact hf.2.1 _ (by rw[hbl i hm];exact hi)
    . rcases hF with q|q|⟨j,q1,q2⟩|⟨t,q1,T,q2,q3⟩
      . exact q.2.1 i hi
      . have:=(h.blk i b hi).2;omega
      . exact hm (h.inj i j b hi q2 ▸ q1)
      . exact(h.toks t T q2).2 i b q3 hi
  . by_cases hm:t∈tl
    . rw[<-hGt t hm]at hT;exact hf.2.2 _ T n c hT hv
    . rw[hGn t hm]at hT
      have hb:T.v.ownBlock=some b:=by rw[hv];rfl
      rcases hF with q|q|⟨j,q1,q2⟩|⟨t',q1,T',q2,q3⟩
      . exact q.2.2 t T n c hT hv
      . obtain⟨⟨n',xs,q0⟩,-⟩:=h.toks t T hT
        have:=(q0.lt b hb).2;omega
      . exact G5 q2 ((h.toks t T hT).2 j b hb)
      . exact G5 (h.tdis t t' T T' b hT q2 hb q3 ▸ q1) hm
 have kp0:=(GI g w is tl).trans hev.fx
 have hsize:=hev.bel.size
 have ev:Evo g w G w':=by
  refine⟨hev.bel,hGf,kp0.trans kp,fun b hb=>hev.heap b fun hO=>hb (hOwn b hO),fun i b hi=>.inl (by rw[hGb]at hi;exact hi),fun t T' hT'=>?_,fun t T' b hT' hb=>?_,fun i b _ hi _=>?_⟩
  . by_cases hm:t∈tl
    . exact .inl (hle t T' hm hT')
    . rw[hGn t hm]at hT';exact .inl ⟨T',hT',.inl C⟩
  . by_cases hm:t∈tl
    . rw[<-hGt t hm]at hT'
      exact hOwn b (hev.tb _ T' b hT' hb)
    . rw[hGn t hm]at hT';exact .inr (.inr ⟨t,T',hT',hb⟩)
  . by_cases hm:i∈is
    . exact hev.sh (i+10000) b (JY (hokB i hm)) (by rw[DG hm];exact hi) (by rw[hbl i hm];exact hi)
    . exact J9 (hev.heap b (hfar i b hm hi))
 have e:Ext g w G w':=by
  refine⟨ev.fx,fun i b hi=>by rw[hGb];exact hi,fun t T' hT'=>?_,fun i b hi=>?_⟩
  . by_cases hm:t∈tl
    . exact hle t T' hm hT'
    . rw[hGn t hm]at hT';exact⟨T',hT',.inl C⟩
  . by_cases hm:i∈is
    . exact hev.sh (i+10000) b (JY (hokB i hm)) (by rw[DG hm];exact hi) (by rw[hbl i hm];exact hi)
    . exact J9 (hev.heap b (hfar i b hm hi))
 have hbget:∀ i,(st.puts bn tn).bget i=if i∈is then G1 bn i else st.bget i:=fun i=>by
  show G1 (bn++st.b) i=_
  rw[BH]
  by_cases hm:i∈is
  . obtain⟨x,hx⟩:=O6 (l:=bn) (i:=i) (by rw[hbk];exact hm)
    rw[B9 hm,hx];rfl
  . rw[B5 hm,AZ (by rw[hbk];exact hm)];rfl
 have htget:∀ t,(st.puts bn tn).tget t=if t∈tl then G1 tn t else st.tget t:=fun t=>by
  show G1 (tn++st.t) t=_
  rw[BH]
  by_cases hm:t∈tl
  . obtain⟨x,hx⟩:=O6 (l:=tn) (i:=t) (by rw[htk];exact hm)
    rw[B9 hm,hx];rfl
  . rw[B5 hm,AZ (by rw[htk];exact hm)];rfl
 have hback:∀ v x,SRep g' w' v x.sh->x.fit is tl=true->SRep G w' v x:=fun v x hx hf=>Od kp (fun i hi=>by rw[hGb];exact hbl i hi) hGt hx hf
 refine⟨G,ev,kp,{ evo:=h.evo.trans ev,base:=D9 h.base hsize,f0:=by rw[hGf];exact h.f0,lim:=h.lim,size:=h.size,defers:=h.defers.evo ev,slots:=fun i=>(h.slots i).ext e,glob:=fun q cs hq=>(h.glob q cs hq).ext e,gown:=h.gown,ghp:=h.ghp,boxes:=fun i cs hi hlt=>?_,maps:=fun i ms hi hge=>?_,blk:=fun i b hi=>?_,dom:=fun i b hi=>?_,inj:=by rw[hGb];exact h.inj,toks:=fun t T hT=>?_,tf0:=fun t T b o hT hb=>?_,telt:=fun t T hT=>?_,tdis:=fun t t' T T' b q1 q2 q3 q4=>?_,tdom:=fun t T hT=>?_,tlen:=fun t n ht=>?_ }⟩
 . rw[hbget]at hi
   by_cases hm:i∈is
   . rw[B9 hm]at hi
     have hok':=C0 (hokB i hm)
     obtain⟨b,xs,T,q1,q2,q3,q4,q5⟩:=hc.boxes _ _ (hbn i cs hi) (by omega)
     refine⟨b,xs,T,by rw[hGb,<-hbl i hm];exact q1,q2,by simpa using q3,fun j c hj=>?_,fun j u hj hu=>q5 j u (by simpa using hj) hu⟩
     obtain⟨x,q6,q7⟩:=q4 j c.sh (by rw[C6,hj];rfl)
     exact⟨x,q6,hback _ _ q7 (hok _ (M9 hi) c (B8 hj))⟩
   . rw[B5 hm]at hi
     obtain⟨b,xs,T,q1,q2,q3,q4,q5⟩:=h.boxes i cs hi hlt
     refine⟨b,xs,T,by rw[hGb];exact q1,(hev.heap b (hfar i b hm q1)).trans q2,q3,fun j c hj=>?_,q5⟩
     obtain⟨x,q6,q7⟩:=q4 j c hj
     exact⟨x,q6,q7.ext e⟩
 . rw[hbget]at hi
   by_cases hm:i∈is
   . rw[B9 hm]at hi
     obtain⟨b,es,c,q1,q2,q3⟩:=hc.maps (i+10000) ms (hbn i _ hi) (by omega)
     exact⟨b,es,c,by rw[hGb,<-hbl i hm];exact q1,q2,q3.mono kp⟩
   . rw[B5 hm]at hi
     obtain⟨b,es,c,q1,q2,q3⟩:=h.maps i ms hi hge
     exact⟨b,es,c,by rw[hGb];exact q1,(hev.heap b (hfar i b hm q1)).trans q2,q3.mono e.fx⟩
 . rw[hGb]at hi
   rw[hGf]
   exact⟨(h.blk i b hi).1,I9 (h.blk i b hi).2 hsize⟩
 . rw[hGb]at hi
   rw[hbget]
   by_cases hm:i∈is
   . rw[B9 hm]
     obtain⟨x,hx⟩:=O6 (l:=bn) (i:=i) (by rw[hbk];exact hm)
     rw[hx];simp
   . rw[B5 hm];exact h.dom i b hi
 . by_cases hm:t∈tl
   . rw[<-hGt t hm]at hT
     obtain⟨q1,q2⟩:=hc.toks _ T hT
     refine⟨q1,fun i b hb hi=>?_⟩
     rw[hGb]at hi
     by_cases hm':i∈is
     . exact q2 _ b hb (by rw[hbl i hm'];exact hi)
     . exact hfar i b hm' hi (hev.tb _ T b hT hb)
   . rw[hGn t hm]at hT
     obtain⟨⟨n,xs,q1⟩,q2⟩:=h.toks t T hT
     refine⟨⟨n,xs,M8 q1 fun b hb=>hev.heap b (htfar t T b hm hT hb)⟩,fun i b hb hi=>q2 i b hb (by rw[hGb]at hi;exact hi)⟩
 . rw[hGf]
   by_cases hm:t∈tl
   . rw[<-hGt t hm]at hT
     rcases hOwn b (hev.tb _ T b hT hb)with q|⟨i,q⟩|⟨t',T',q1,q2⟩
     . exact h.f0 b o (D9 h.base q)
     . exact(h.blk i b q).1 o
     . exact h.tf0 t' T' b o q1 q2
   . rw[hGn t hm]at hT;exact h.tf0 t T b o hT hb
 . by_cases hm:t∈tl
   . rw[<-hGt t hm]at hT
     rw[hc.telt _ T hT,(JX (hokT t hm)).2]
   . rw[hGn t hm]at hT;exact h.telt t T hT
 . by_cases hm:t∈tl<;>by_cases hm':t'∈tl
   . rw[<-hGt t hm]at q1
     rw[<-hGt t' hm']at q2
     have:=hc.tdis _ _ T T' b q1 q2 q3 q4
     omega
   . rw[<-hGt t hm]at q1
     rw[hGn t' hm']at q2
     exact G5 (hev.tb _ T b q1 q3) (htfar t' T' b hm' q2 q4)
   . rw[hGn t hm]at q1
     rw[<-hGt t' hm']at q2
     exact G5 (hev.tb _ T' b q2 q4) (htfar t T b hm q1 q3)
   . rw[hGn t hm]at q1
     rw[hGn t' hm']at q2
     exact h.tdis t t' T T' b q1 q2 q3 q4
 . rw[htget]
   by_cases hm:t∈tl
   . rw[B9 hm]
     obtain⟨x,hx⟩:=O6 (l:=tn) (i:=t) (by rw[htk];exact hm)
     rw[hx];simp
   . rw[B5 hm]
     rw[hGn t hm]at hT
     exact h.tdom t T hT
 . rw[htget]at ht
   by_cases hm:t∈tl
   . rw[B9 hm]at ht
     obtain⟨T,A,c,q1,q2⟩:=hc.tlen _ n (htn t n ht)
     exact⟨T,A,c,by rw[<-hGt t hm];exact q1,q2⟩
   . rw[B5 hm]at ht
     obtain⟨T,A,c,q1,q2⟩:=h.tlen t n ht
     exact⟨T,A,c,by rw[hGn t hm];exact q1,q2⟩
def EM (st:PS):List (Nat×List SV)->Prop
 | []=>True
 | (i,cs)::l=>st.bget i=some cs∧EM st l
def EK (st:PS):List (Nat×Nat)->Prop
 | []=>True
 | (t,n)::l=>st.tget t=some n∧EK st l
theorem EL {l:List (Nat×List SV)} (h:EM st l) {cs:List SV} (hi:G1 l i=some cs):st.bget i=some cs:=by
 have:=M9 hi
 clear hi
 induction l with
 | nil=>cases this
 | cons p l ih=>
  rcases List.mem_cons.1 this with e|e
  . rw[<-e]at h;exact h.1
  . exact ih h.2 e
theorem EJ {l:List (Nat×Nat)} (h:EK st l) {n:Nat} (ht:G1 l t=some n):st.tget t=some n:=by
 have:=M9 ht
 clear ht
 induction l with
 | nil=>cases this
 | cons p l ih=>
  rcases List.mem_cons.1 this with e|e
  . rw[<-e]at h;exact h.1
  . exact ih h.2 e
def PR:List SV->Bool
 | [.mc _]=>true
 | _=>false
def EO (args:List SV) (bs:List (Nat×List SV)) (ts:List (Nat×Nat)) (bn:List (Nat×List SV)):Bool:=
 bs.all (fun p=>okB p.1&&p.2.all (SV.fit (bs.map (·.1)) (ts.map (·.1))))&&ts.all (fun p=>Lc p.1)&&args.all (SV.fit (bs.map (·.1)) (ts.map (·.1)))&&bn.all fun p=>p.2.all (SV.fit (bs.map (·.1)) (ts.map (·.1)))&&(Nat.blt p.1 490000||PR p.2)
def QX (P:Program) (rs:List ResultVar) (r:SV) (bn:List (Nat×List SV)) (tn:List (Nat×Nat)):Exit->PS->Prop
 | .normal,st|.ret,st=>(∃ xs,ResV P st rs xs∧r=AD xs)∧EM st (Gf bn)∧EK st (Ge tn)
 | _,_=>False
theorem q_x (xs:List DV) (h:ResV P st rs xs) (hr:r=AD xs) (hb:EM st (Gf bn)) (ht:EK st (Ge tn)):QX P rs r bn tn .ret st:=⟨⟨xs,h,hr⟩,hb,ht⟩
theorem q_xe (xs:List DV) (h:ResV P st rs xs) (hr:r=AD xs) (hb:EM st (Gf bn)) (ht:EK st (Ge tn)):QX P rs r bn tn .normal st:=⟨⟨xs,h,hr⟩,hb,ht⟩
def Jz (P:Program) (f:FuncId) (args:List SV) (bs:List (Nat×List SV)) (ts:List (Nat×Nat)) (r:SV) (bn:List (Nat×List SV)) (tn:List (Nat×Nat)):Prop:=
 ∃ fn c rs n,P.funcs[f]? = some fn∧fn.body=some c∧fn.ntmps=n∧fn.results=rs.toArray∧args.length<=n∧n<=10000 ∧ ∀ B w0,PW P B w0 c (QX P rs r bn tn) ⟨n,FA 0 (args.map SV.sh),Gf bs,Ge ts⟩
theorem P5 {fn:Func} {c:Code} {n:Nat} (hf:P.funcs[f]? = some fn) (hb:fn.body=some c) (hn:fn.ntmps=n) (hrs:fn.results=rs.toArray) (hl:args.length<=n)
 (h:∀ B w0,PW P B w0 c (QX P rs r bn tn) ⟨n,FA 0 (args.map SV.sh),Gf bs,Ge ts⟩) (hlim:Nat.ble n 10000=true:=by rfl):Jz P f args bs ts r bn tn:=⟨fn,c,rs,n,hf,hb,hn,hrs,hl,C0 hlim,h⟩
theorem callX (hr:Rep B w0 g st a w) (hc:Jz P f args bs ts r bn tn) (hbs:EM st bs) (hts:EK st ts) (hbk:bn.map (·.1)=bs.map (·.1)) (htk:tn.map (·.1)=ts.map (·.1)) (hfit:EO args bs ts bn=true)
 {vals:List Value} (hvl:vals.length=args.length) (hv:∀ (i:Nat) v x,vals[i]? = some v->args[i]? = some x->SRep g w v x):
 Calls P f vals.toArray w fun e w'=>∃ v G,e=.returned v∧SRep G w' v r∧Rep B w0 G (st.puts bn tn) a w':=by
 obtain⟨fn,c,rs,n,hf,hb,hn,hrs,hl,hlim,hpw⟩:=hc
 unfold EO at hfit
 simp only[D1,E5]at hfit
 obtain⟨⟨⟨f1,f2⟩,f3⟩,f4⟩:=hfit
 have hF:Fit st bs ts:=⟨fun i cs hi=>EL hbs hi,fun t n ht=>EJ hts ht,fun p hp=>f1 p hp,fun p hp=>f2 p hp⟩
 refine AV hf hb ?_
 have hrep:=hr.pass hF (vals:=vals) (args:=args) hn hl hlim hvl hv f3
 refine wpIn_mono (hpw _ _ _ _ _ hrep) fun e a' w' ⟨g',st',h1,h2⟩=>?_
 have fin:((∃ xs,ResV P st' rs xs∧r=AD xs)∧EM st' (Gf bn)∧EK st' (Ge tn))->LeavesInM Fence.wide 0 P fn a'.tmps (fun e w'=>∃ v' G,e=.returned v'∧SRep G w' v' r∧Rep B w0 G (st.puts bn tn) a w') a'.defers .returning w':=by
  rintro⟨⟨xs,h3,rfl⟩,h3b,h3t⟩
  refine BI (st:=st') (E0 _) (fun w' h1=>?_) a'.defers w' h1
  obtain⟨vs,h4,h5,h6⟩:=CV h1 h3
  have hrun:(results fn a'.tmps).run P w'=.ok (if h:vs.toArray.size=1 then vs.toArray[0]else .tuple vs.toArray) w':=by
   rw[show results fn a'.tmps=(fn.results.mapM (Hv a'.tmps) >>= fun vs=>pure (if h:vs.size=1 then vs[0]else .tuple vs))from rfl,hrs,Array.mapM_eq_mapM_toList]
   simp only[Sem.run_bind,Sem.run_map]
   rw[h4]
   rfl
  obtain⟨G,-,kp,hR⟩:=hr.back hF h1 bn tn hbk htk (fun i cs hi=>EL h3b (by rw[Bj,B9 (by omega),Nat.add_sub_cancel,hi];rfl)) (fun t n ht=>EJ h3t (by rw[Cj,B9 (by omega),Nat.add_sub_cancel,ht])) (fun p hp=>(f4 p hp).1) (fun i cs hi hge=>by
   have h7:=(f4 _ (M9 hi)).2
   rw[Bool.or_eq_true]at h7
   rcases h7 with h7|h7
   . have:=C0 h7;simp only at this;omega
   . simp only at h7
     unfold PR at h7
     split at h7
     . rename_i ms;exact⟨ms,C⟩
     . cases h7)
  have h7:∀ (i:Nat) v x,vs[i]? = some v->xs[i]? = some x->DRep (Fx G) w' v x:=fun i v x hv hx=>(h6 i v x hv hx).mono kp
  refine⟨_,hrun,_,G,C,?_,hR⟩
  match vs,xs,h5,h7 with
  | [],[],_,_=>exact⟨[],C,C,fun i y x hy=>by simp at hy⟩
  | [v],[x],_,h7=>exact h7 0 v x C C
  | v::v'::vs,x::x'::xs,h5,h7=>exact⟨v::v'::vs,by simp,h5,h7⟩
 cases e with
 | normal=>exact fin h2
 | ret=>exact fin h2
 | _=>exact h2.elim
section
variable {ops:Array Oper} {K:PS->Prop} {rest:List Oper} {ty:TypeId} {pos:String} {af:Array Edge} {gd:Option (Nat×Bool)}
theorem CN {f:Nat} {e:Option Nat} {l:List Operand} {ts:Array TypeId} {tt:List (Nat×Nat)} [hB:HasBody P f] (hc:Jz P f args bs tt r bn tn) (ha:l.map st.ev=args) (hbs:EM st bs) (hts:EK st tt)
 (h:YR P true ops K rest ((st.puts bn tn).put e r)) (hbk:bn.map (·.1)=bs.map (·.1):=by rfl) (htk:tn.map (·.1)=tt.map (·.1):=by rfl) (hfit:EO args bs tt bn=true:=by rfl) (hd:I1 ⟨e,.call { callee:=.value (.func f),args:=l.toArray,argTypes:=ts },ty,pos,af,gd⟩ st=true:=by kernel_rfl)
 (hw:st.want ops ⟨e,.call { callee:=.value (.func f),args:=l.toArray,argTypes:=ts },ty,pos,af,gd⟩=some true:=by rfl):
 YR P true ops K (⟨e,.call { callee:=.value (.func f),args:=l.toArray,argTypes:=ts },ty,pos,af,gd⟩::rest) st:=by
 refine .any C fun B w0 Q hQ g a w hr=>?_
 have V0:=callX hr hc hbs hts hbk htk hfit (vals:=l.map a.eval) (by rw[<-ha];simp) (fun i v x hv hx=>by
  rw[<-ha,C6,C7]at hx
  obtain⟨y,h1,rfl⟩:=hx
  rw[C6,h1]at hv
  cases hv
  exact hr.eval y)
 unfold wpList
 rw[B9 (M4 hr hw)]
 refine .inl ?_
 unfold Oper.wp
 rw[CU]
 show Calls P f _ w _
 refine V0.mono ?_
 rintro e' w' ⟨v,G,rfl,h3,h4⟩
 exact h.sound hQ (h4.put h3 _ (H6 (st:=st) hd))
end
abbrev vS (l:List UInt8):Value:=.string ⟨l.toArray⟩
abbrev dS (l:List UInt8):DV:=.val (vS l)
abbrev lt8 (a b:List UInt8):Bool:=Op.bytesLess a b
theorem T4 (l:List UInt8):(ByteArray.mk l.toArray).toList=l:=ByteArray.toList_mk l
section
variable {sq:Bool} {ops:Array Oper} {K:PS->Prop} {rest:List Oper} {d:Option Nat} {op:Op} {ty:TypeId} {pos:String} {af:Array Edge} {gd:Option (Nat×Bool)} {q:Nat×Bool}
theorem N6 {y:Operand} {l1 l2:List UInt8} (hx:st.ev x=.d (dS l1)) (hy:st.ev y=.d (dS l2)) (h:YR P sq ops K rest (st.put d (.d (.val (.bool (l1==l2)))))) (zz:zk ops st ⟨d,.binOp .eql t x y t',ty,pos,af,gd⟩ .no=true:=by kernel_rfl):
 YR P sq ops K (⟨d,.binOp .eql t x y t',ty,pos,af,gd⟩::rest) st:=M3 (Dd .eql t t' x y hx hy (by
  show Sem.pure (Value.bool ((ByteArray.mk l1.toArray).toList==(ByteArray.mk l2.toArray).toList))=_
  rw[T4,T4]) rfl (zd zz)) (zo zz) (zw zz) h
theorem L8 {y:Operand} {l1 l2:List UInt8} (hx:st.ev x=.d (dS l1)) (hy:st.ev y=.d (dS l2)) (h:YR P sq ops K rest (st.put d (.d (.val (.bool (!(l1==l2))))))) (zz:zk ops st ⟨d,.binOp .neq t x y t',ty,pos,af,gd⟩ .no=true:=by kernel_rfl):
 YR P sq ops K (⟨d,.binOp .neq t x y t',ty,pos,af,gd⟩::rest) st:=M3 (Dd .neq t t' x y hx hy (by
  show Sem.pure (Value.bool (!((ByteArray.mk l1.toArray).toList==(ByteArray.mk l2.toArray).toList)))=_
  rw[T4,T4]) rfl (zd zz)) (zo zz) (zw zz) h
theorem yBsl {y:Operand} {l1 l2:List UInt8} (hx:st.ev x=.d (dS l1)) (hy:st.ev y=.d (dS l2)) (h:YR P sq ops K rest (st.put d (.d (.val (.bool (lt8 l1 l2)))))) (zz:zk ops st ⟨d,.binOp .lss t x y t',ty,pos,af,gd⟩ .no=true:=by kernel_rfl):
 YR P sq ops K (⟨d,.binOp .lss t x y t',ty,pos,af,gd⟩::rest) st:=M3 (Dd .lss t t' x y hx hy (by
  show Sem.pure (Value.bool (Op.bytesLess (ByteArray.mk l1.toArray).toList (ByteArray.mk l2.toArray).toList))=_
  rw[T4,T4]) rfl (zd zz)) (zo zz) (zw zz) h
theorem yBsm {y:Operand} {l1 l2:List UInt8} (hx:st.ev x=.d (dS l1)) (hy:st.ev y=.d (dS l2)) (h:YR P sq ops K rest (st.put d (.d (.val (.bool (lt8 l1 l2||l1==l2)))))) (zz:zk ops st ⟨d,.binOp .leq t x y t',ty,pos,af,gd⟩ .no=true:=by kernel_rfl):
 YR P sq ops K (⟨d,.binOp .leq t x y t',ty,pos,af,gd⟩::rest) st:=M3 (Dd .leq t t' x y hx hy (by
  show Sem.pure (Value.bool (Op.bytesLess (ByteArray.mk l1.toArray).toList (ByteArray.mk l2.toArray).toList||(ByteArray.mk l1.toArray).toList==(ByteArray.mk l2.toArray).toList))=_
  rw[T4,T4]) rfl (zd zz)) (zo zz) (zw zz) h
theorem yBsg {y:Operand} {l1 l2:List UInt8} (hx:st.ev x=.d (dS l1)) (hy:st.ev y=.d (dS l2)) (h:YR P sq ops K rest (st.put d (.d (.val (.bool (!(lt8 l1 l2||l1==l2))))))) (zz:zk ops st ⟨d,.binOp .gtr t x y t',ty,pos,af,gd⟩ .no=true:=by kernel_rfl):
 YR P sq ops K (⟨d,.binOp .gtr t x y t',ty,pos,af,gd⟩::rest) st:=M3 (Dd .gtr t t' x y hx hy (by
  show Sem.pure (Value.bool (!(Op.bytesLess (ByteArray.mk l1.toArray).toList (ByteArray.mk l2.toArray).toList||(ByteArray.mk l1.toArray).toList==(ByteArray.mk l2.toArray).toList)))=_
  rw[T4,T4]) rfl (zd zz)) (zo zz) (zw zz) h
theorem O2 {y:Operand} {l1 l2:List UInt8} (hb:l1.length+l2.length<=1000000000) (hx:st.ev x=.d (dS l1)) (hy:st.ev y=.d (dS l2)) (h:YR P sq ops K rest (st.put d (.d (dS (l1++l2))))) (zz:zk ops st ⟨d,.binOp .add t x y t',ty,pos,af,gd⟩ .no=true:=by kernel_rfl):
 YR P sq ops K (⟨d,.binOp .add t x y t',ty,pos,af,gd⟩::rest) st:=M3 (Dd .add t t' x y hx hy (by
  show(if (((ByteArray.mk l1.toArray).size+(ByteArray.mk l2.toArray).size:Nat):Int) > IntKind.i64.max then _ else pure (Value.string (ByteArray.mk l1.toArray++ByteArray.mk l2.toArray)))=_
  have h1:(ByteArray.mk l1.toArray).size=l1.length:=by simp[ByteArray.size]
  have h2:(ByteArray.mk l2.toArray).size=l2.length:=by simp[ByteArray.size]
  rw[B5 (by rw[h1,h2,show IntKind.i64.max=9223372036854775807 by decide];omega)]
  have:ByteArray.mk l1.toArray++ByteArray.mk l2.toArray=ByteArray.mk (l1++l2).toArray:=by
   apply ByteArray.ext
   simp
  rw[this]
  rfl) rfl (zd zz)) (zo zz) (zw zz) h
theorem Rj (T:TypeId) (x:Operand) [hS:UndS P T] (hx:st.ev x=.d (dS l)) (hd:I1 ⟨d,.call { callee:=.builtin .len,args:=#[x],argTypes:=#[T] },ty,pos,af,gd⟩ st=true):
 M6 P ⟨d,.call { callee:=.builtin .len,args:=#[x],argTypes:=#[T] },ty,pos,af,gd⟩ st (.d (.val (.int .i64 l.length))) .no:=fun st2 ha=>
 OpS.value (ha.dst hd) fun _ _ g a w h=>by
  have h1:=h.eval x
  rw[ha.ev x (by simp[Op.operands,Call.operands]),hx]at h1
  refine⟨.int .i64 l.length,w,?_,Below.refl _ _,DRep.val _ C⟩
  have h2:(ByteArray.mk l.toArray).size=l.length:=by simp[ByteArray.size]
  simp[execOp,resolve,invoke,builtin,Builtin.len_,DRep.val_eq h1,hS.run,goInt,h2]
theorem N3 [UndS P T] (hx:st.ev x=.d (dS l)) (h:YR P sq ops K rest (st.put d (.d (.val (.int .i64 l.length))))) (zz:zk ops st ⟨d,.call { callee:=.builtin .len,args:=#[x],argTypes:=#[T] },ty,pos,af,gd⟩ .no=true:=by kernel_rfl):
 YR P sq ops K (⟨d,.call { callee:=.builtin .len,args:=#[x],argTypes:=#[T] },ty,pos,af,gd⟩::rest) st:=M3 (Rj T x hx (zd zz)) (zo zz) (zw zz) h
theorem ls_ix_s (T:TypeId) (x y:Operand) [hS:UndS P T] (hx:st.ev x=.d (dS l)) (hy:st.ev y=.d (.val (.int kd m))) (h0:0<=m) (hb:l[m.toNat]? = some b) (hd:I1 ⟨d,.index T x y,ty,pos,af,gd⟩ st=true):
 M6 P ⟨d,.index T x y,ty,pos,af,gd⟩ st (.d (.val (.int .u8 b.toNat))) .no:=fun st2 ha=>
 OpS.value (ha.dst hd) fun _ _ g a w h=>by
  have h1:=h.eval x
  rw[ha.ev x (by simp[Op.operands]),hx]at h1
  have h2:=h.eval y
  rw[ha.ev y (by simp[Op.operands]),hy]at h2
  refine⟨.int .u8 b.toNat,w,?_,Below.refl _ _,DRep.val _ C⟩
  have h3:(ByteArray.mk l.toArray)[m.toNat]? = some b:=by
   have hlt:=(A6.1 hb).1
   rw[getElem?_pos _ _ (by simpa[ByteArray.size]using hlt)]
   have:(ByteArray.mk l.toArray)[m.toNat]'(by simpa[ByteArray.size]using hlt)=l[m.toNat]:=by simp[ByteArray.getElem_eq_getElem_data]
   rw[this,<-hb,A4 hlt]
  simp[execOp,Instr.index,DRep.val_eq h1,DRep.val_eq h2,asIntOf,hS.run,h0,h3]
theorem U9 {y:Operand} [UndS P T] (hb:l[m.toNat]? = some b) (h0:0<=m) (hx:st.ev x=.d (dS l)) (hy:st.ev y=.d (.val (.int kd m))) (h:YR P sq ops K rest (st.put d (.d (.val (.int .u8 b.toNat))))) (zz:zk ops st ⟨d,.index T x y,ty,pos,af,gd⟩ .no=true:=by kernel_rfl):
 YR P sq ops K (⟨d,.index T x y,ty,pos,af,gd⟩::rest) st:=M3 (ls_ix_s T x y hx hy h0 hb (zd zz)) (zo zz) (zw zz) h
theorem CS (l:List UInt8) (a b:Nat):(ByteArray.mk l.toArray).extract a b=ByteArray.mk ((l.take b).drop a).toArray:=by
 apply ByteArray.ext
 simp[ByteArray.data_extract,List.extract_toArray,List.drop_take]
theorem Jc (T:TypeId) (x:Operand) (lo hi:Option Operand) [hS:UndS P T] (hx:st.ev x=.d (dS l)) (hlo:(lo=none∧m=0) ∨ ∃ y k,lo=some y∧st.ev y=.d (.val (.int k m))) (hhi:(hi=none∧n=l.length) ∨ ∃ y k,hi=some y∧st.ev y=.d (.val (.int k n))) (h0:0<=m) (hmn:m<=n) (hn:n<=l.length) (hd:I1 ⟨d,.slice T x lo hi none,ty,pos,af,gd⟩ st=true):
 M6 P ⟨d,.slice T x lo hi none,ty,pos,af,gd⟩ st (.d (dS ((l.take n.toNat).drop m.toNat))) .no:=fun st2 ha=>
 OpS.value (ha.dst hd) fun _ _ g a w h=>by
  have h1:=h.eval x
  rw[ha.ev x (by simp[Op.operands]),hx]at h1
  refine⟨_,w,?_,Below.refl _ _,DRep.val _ C⟩
  have hsz:(ByteArray.mk l.toArray).size=l.length:=by simp[ByteArray.size]
  have n1:0<=n∧n<=(l.length:Int):=⟨by omega,hn⟩
  have n2:0<=m∧m<=(n.toNat:Int):=⟨h0,by omega⟩
  rcases hlo with⟨rfl,rfl⟩|⟨y,k,rfl,hy⟩<;>rcases hhi with⟨rfl,rfl⟩|⟨y',k',rfl,hy'⟩
  . simp[execOp,Instr.sliceAt,Instr.slice,Instr.sliceBounds,DRep.val_eq h1,hS.run]
  . have h3:=h.eval y'
    rw[ha.ev y' (by simp[Op.operands]),hy']at h3
    simp[execOp,Instr.sliceAt,Instr.slice,Instr.sliceBounds,Instr.sliceBound,DRep.val_eq h1,DRep.val_eq h3,asIntOf,hS.run,hsz,CS,n1]
  . have h2:=h.eval y
    rw[ha.ev y (by simp[Op.operands]),hy]at h2
    have n3:0<=m∧m<=(l.length:Int):=⟨h0,by omega⟩
    simp[execOp,Instr.sliceAt,Instr.slice,Instr.sliceBounds,Instr.sliceBound,DRep.val_eq h1,DRep.val_eq h2,asIntOf,hS.run,hsz,CS,n3]
  . have h2:=h.eval y
    rw[ha.ev y (by simp[Op.operands]),hy]at h2
    have h3:=h.eval y'
    rw[ha.ev y' (by simp[Op.operands]),hy']at h3
    simp[execOp,Instr.sliceAt,Instr.slice,Instr.sliceBounds,Instr.sliceBound,DRep.val_eq h1,DRep.val_eq h2,DRep.val_eq h3,asIntOf,hS.run,hsz,CS,n1,n2]
    intro h4;omega
theorem ySlh {y y':Operand} {l':List UInt8} {k k':IntKind} [UndS P T] (h0:0<=m) (hmn:m<=n) (hn:n<=l.length) (hl:(l.take n.toNat).drop m.toNat=l') (hx:st.ev x=.d (dS l)) (hy:st.ev y=.d (.val (.int k m))) (hy':st.ev y'=.d (.val (.int k' n))) (h:YR P sq ops K rest (st.put d (.d (dS l')))) (zz:zk ops st ⟨d,.slice T x (some y) (some y') none,ty,pos,af,gd⟩ .no=true:=by kernel_rfl):
 YR P sq ops K (⟨d,.slice T x (some y) (some y') none,ty,pos,af,gd⟩::rest) st:=by subst hl;exact M3 (Jc T x _ _ hx (.inr ⟨y,k,C,hy⟩) (.inr ⟨y',k',C,hy'⟩) h0 hmn hn (zd zz)) (zo zz) (zw zz) h
theorem V3 {y:Operand} {l':List UInt8} {k:IntKind} [UndS P T] (h0:0<=m) (hn:m<=l.length) (hl:l.drop m.toNat=l') (hx:st.ev x=.d (dS l)) (hy:st.ev y=.d (.val (.int k m))) (h:YR P sq ops K rest (st.put d (.d (dS l')))) (zz:zk ops st ⟨d,.slice T x (some y) none none,ty,pos,af,gd⟩ .no=true:=by kernel_rfl):
 YR P sq ops K (⟨d,.slice T x (some y) none none,ty,pos,af,gd⟩::rest) st:=by
 have hl':(l.take (l.length:Int).toNat).drop m.toNat=l':=by rw[H1,I2];exact hl
 subst hl'
 exact M3 (Jc T x _ _ hx (.inr ⟨y,k,C,hy⟩) (.inl ⟨rfl,C⟩) h0 hn (Int.le_refl _) (zd zz)) (zo zz) (zw zz) h
theorem W6 {y:Operand} {l':List UInt8} {k:IntKind} [UndS P T] (h0:0<=n) (hn:n<=l.length) (hl:l.take n.toNat=l') (hx:st.ev x=.d (dS l)) (hy:st.ev y=.d (.val (.int k n))) (h:YR P sq ops K rest (st.put d (.d (dS l')))) (zz:zk ops st ⟨d,.slice T x none (some y) none,ty,pos,af,gd⟩ .no=true:=by kernel_rfl):
 YR P sq ops K (⟨d,.slice T x none (some y) none,ty,pos,af,gd⟩::rest) st:=by
 have hl':(l.take n.toNat).drop (0:Int).toNat=l':=by simpa using hl
 subst hl'
 exact M3 (Jc T x _ _ hx (.inl ⟨rfl,C⟩) (.inr ⟨y,k,C,hy⟩) (Int.le_refl _) h0 hn (zd zz)) (zo zz) (zw zz) h
theorem ls_rune (S D:TypeId) (x:Operand) {k0 k:IntKind} [hS:UndI P S k0] [hD:UndS P D] (hl:Utf8.encode n=ByteArray.mk l.toArray) (hx:st.ev x=.d (.val (.int k n))) (hd:I1 ⟨d,.convert S D x,ty,pos,af,gd⟩ st=true):
 M6 P ⟨d,.convert S D x,ty,pos,af,gd⟩ st (.d (dS l)) .no:=fun st2 ha=>
 OpS.value (ha.dst hd) fun _ _ g a w h=>by
  have h1:=h.eval x
  rw[ha.ev x (by simp[Op.operands]),hx]at h1
  refine⟨vS l,w,?_,Below.refl _ _,DRep.val _ C⟩
  simp[execOp,convert,hS.run,hD.run,DRep.val_eq h1,Conv.intToString,hl]
theorem yJs {S D:Nat} {k0 k:IntKind} [UndI P S k0] [UndS P D] (hl:Utf8.encode n=ByteArray.mk l.toArray) (hx:st.ev x=.d (.val (.int k n))) (h:YR P sq ops K rest (st.put d (.d (dS l)))) (zz:zk ops st ⟨d,.convert S D x,ty,pos,af,gd⟩ .no=true:=by kernel_rfl):
 YR P sq ops K (⟨d,.convert S D x,ty,pos,af,gd⟩::rest) st:=M3 (ls_rune S D x hl hx (zd zz)) (zo zz) (zw zz) h
abbrev dBy (l:List UInt8):List (List DV):=l.map fun b=>[.val (.int .u8 b.toNat)]
theorem Rr (S D:TypeId) (x:Operand) {E:Nat} (hS:P.underlying S=some .string) (hD:P.underlying D=some (.slice E)) (hE:P.underlying E=some (.int .u8)) (hl:l.length<=1000000000) (hx:st.ev x=.d (dS l)) (hd:I1 ⟨d,.convert S D x,ty,pos,af,gd⟩ st=true):
 M6 P ⟨d,.convert S D x,ty,pos,af,gd⟩ st (.d (.sl 1 (dBy l))) .no:=fun st2 ha=>
 OpS.value (ha.dst hd) fun _ _ g a w h=>by
  have h1:=h.eval x
  rw[ha.ev x (by simp[Op.operands]),hx]at h1
  have h1:a.eval x=.string ⟨l.toArray⟩:=DRep.val_eq h1
  have hsz:(ByteArray.mk l.toArray).size=l.length:=by simp[ByteArray.size]
  have hrun:=run_bytes_of_string (P:=P) w S D E ⟨l.toArray⟩ hS hD hE
  obtain⟨cap,hcap⟩:=H8 (grownCap w (ByteArray.mk l.toArray).size 0 E)
  have hge:(ByteArray.mk l.toArray).size<=cap:=by rw[hcap];exact grownCap_ge _ _ _ _
  rw[<-hcap]at hrun
  have hb:Below w.heap.size w (w.drew.alloc (.cells (bytesRow ⟨l.toArray⟩ cap) E ((bytesRow ⟨l.toArray⟩ cap).size,(bytesRow ⟨l.toArray⟩ cap).size+1))):=
   ⟨rfl,rfl,rfl,by simp,fun k hk=>Below.heap_alloc w.drew _ k hk⟩
  refine⟨.slice (some ⟨w.heap.size,0,none⟩) (ByteArray.mk l.toArray).size cap,_,by simp only[execOp,h1,Sem.run_bind,hrun,D4,Sem.run_pure],hb,?_⟩
  have hheap:(w.drew.alloc (.cells (bytesRow ⟨l.toArray⟩ cap) E ((bytesRow ⟨l.toArray⟩ cap).size,(bytesRow ⟨l.toArray⟩ cap).size+1))).heap[w.heap.size]? = some (.cells (bytesRow ⟨l.toArray⟩ cap) E ((bytesRow ⟨l.toArray⟩ cap).size,(bytesRow ⟨l.toArray⟩ cap).size+1)):=heap_alloc_new w.drew _
  have hlen:(dBy l).length=l.length:=by simp
  have hcell:∀ (j:Nat) b,l[j]? = some b->(bytesRow ⟨l.toArray⟩ cap)[j]? = some (.int .u8 b.toNat):=fun j b hj=>by
   have hlt:=(A6.1 hj).1
   unfold bytesRow
   rw[Array.getElem?_append_left (by simpa using hlt)]
   simp[hj]
  rw[hsz]
  have:DRep (Fx g) (w.drew.alloc (.cells (bytesRow ⟨l.toArray⟩ cap) E ((bytesRow ⟨l.toArray⟩ cap).size,(bytesRow ⟨l.toArray⟩ cap).size+1))) (.slice (some ⟨w.heap.size,0,none⟩) (dBy l).length cap) (.sl 1 (dBy l)):=by
   refine DRep.of_row (xs:=l.map fun b=>.int .u8 b.toNat) (by omega) (by omega) (fun e he=>by obtain⟨b,-,rfl⟩:=H2.1 he;rfl) (fun _=>⟨w.heap.size,0,rfl,fun j u hj=>⟨?_,?_⟩⟩) (fun u hu=>by obtain⟨b,-,rfl⟩:=H2.1 hu;rfl) fun p q e z he hz=>?_
   . rw[C6,C7]at hj
     obtain⟨b,h2,rfl⟩:=hj
     rw[E4]
     simp only[World.cell?,hheap,Option.isSome_none,Bool.false_eq_true,if_false]
     exact hcell j b h2
   . refine⟨h.f0 _ _ h.base,fun i' hi'=>?_,fun t T n' c' hT hv=>?_⟩
     . have:=(h.blk i' _ hi').2;omega
     . obtain⟨⟨n'',xs,h8⟩,-⟩:=h.toks t T hT
       have:=(h8.lt w.heap.size (by rw[hv];rfl)).2
       omega
   . rw[C6,C7]at he
     obtain⟨b,h2,rfl⟩:=he
     match q,hz with
     | 0,hz=>cases hz;exact⟨_,by rw[Nat.mul_one,Nat.add_zero,C6,h2];rfl,.val _ rfl⟩
     | q+1,hz=>simp at hz
  rwa [hlen]at this
theorem yTb {S D E:Nat} (hl:l.length<=1000000000) (hS:P.underlying S=some .string) (hD:P.underlying D=some (.slice E)) (hE:P.underlying E=some (.int .u8)) (hx:st.ev x=.d (dS l)) (h:YR P sq ops K rest (st.put d (.d (.sl 1 (dBy l))))) (zz:zk ops st ⟨d,.convert S D x,ty,pos,af,gd⟩ .no=true:=by kernel_rfl):
 YR P sq ops K (⟨d,.convert S D x,ty,pos,af,gd⟩::rest) st:=M3 (Rr S D x hS hD hE hl hx (zd zz)) (zo zz) (zw zz) h
end
open Go.RowKit Go.ChangeShapes Go.WideShapes Go.Deep
variable {ys:List (Nat×List DV)} {y:Operand} {l:List (Nat×Operand)} {v:Value} {w:World} {P:Program} {g:Gh} {t:TypeId} {f:FuncId} {i B:Nat} {w0:Cx} {a:Act}
inductive Sh where
 | i (k:IntKind)
 | s
 | b
 | sl (e:Sh)
 | un
 | pr (f r:Sh)
@[reducible] def Dat:Sh->Type
 | .i _=>Int
 | .s=>List UInt8
 | .b=>Bool
 | .sl e=>List (Dat e)
 | .un=>Unit
 | .pr f r=>Dat f×Dat r
@[reducible] def Sh.k:Sh->Nat
 | .un=>0
 | .pr f r=>f.k+r.k
 | _=>1
@[reducible] def Dat.cs:(sh:Sh)->Dat sh->List DV
 | .i k,(n:Int)=>[.val (.int k n)]
 | .s,(l:List UInt8)=>[dS l]
 | .b,(b:Bool)=>[.val (.bool b)]
 | .sl e,(l:List (Dat e))=>[.sl e.k (l.map (Dat.cs e))]
 | .un,_=>[]
 | .pr f r,d=>Dat.cs f d.1++Dat.cs r d.2
@[reducible] def Dat.dv (sh:Sh) (d:Dat sh):DV:=match sh,d with
 | .i k,(n:Int)=>.val (.int k n)
 | .s,(l:List UInt8)=>dS l
 | .b,(b:Bool)=>.val (.bool b)
 | .sl e,(l:List (Dat e))=>.sl e.k (l.map (Dat.cs e))
 | .un,_=>.agg []
 | .pr f r,d=>.agg (Dat.cs (.pr f r) d)
def Dat.ok:(sh:Sh)->Dat sh->Prop
 | .i k,(n:Int)=>(Lit.int k n).wf=true
 | .s,(l:List UInt8)=>l.length<=maxLen
 | .b,_=>True
 | .sl e,(l:List (Dat e))=>l.length<=maxLen ∧ ∀ x∈l,Dat.ok e x
 | .un,_=>True
 | .pr f r,d=>Dat.ok f d.1∧Dat.ok r d.2
theorem Ew:(sh:Sh)->(d:Dat sh)->(Dat.cs sh d).length=sh.k
 | .i _,_=>rfl
 | .s,_=>rfl
 | .b,_=>rfl
 | .sl _,_=>rfl
 | .un,_=>rfl
 | .pr f r,d=>by show(Dat.cs f d.1++Dat.cs r d.2).length=f.k+r.k;rw[C9,Ew f,Ew r]
def intB (P:Program) (t:TypeId) (k:IntKind):Bool:=match P.underlying t with|some (.int k')=>decide (k'=k)|_=>false
def Db (P:Program):Sh->TypeId ⊕ (List Field×Nat)->Bool
 | .i k,.inl t=>(match P.underlying t with|some (.int k')=>decide (k'=k)|_=>false)&&Nat.beq (P.cellsOf t) 1
 | .s,.inl t=>(match P.underlying t with|some .string=>true|_=>false)&&Nat.beq (P.cellsOf t) 1
 | .b,.inl t=>(match P.underlying t with|some .bool=>true|_=>false)&&Nat.beq (P.cellsOf t) 1
 | .sl e,.inl t=>(match P.underlying t with|some (.slice u)=>Db P e (.inl u)&&Nat.blt 0 e.k|_=>false)&&Nat.beq (P.cellsOf t) 1
 | .pr f r,.inl t=>(match P.underlying t with
  | some (.struct fs)=>(match fs.toList with|fd::fs'=>Nat.beq fd.offset 0&&Db P f (.inl fd.type)&&Db P r (.inr (fs',f.k)) | []=>false)
  | _=>false)&&Nat.beq (P.cellsOf t) (f.k+r.k)
 | .pr f r,.inr (fd::fs',off)=>Nat.beq fd.offset off&&Db P f (.inl fd.type)&&Db P r (.inr (fs',off+f.k))
 | .un,.inr ([],_)=>true
 | _,_=>false
theorem KJ {sh:Sh} (h:Db P sh (.inl t)=true):P.cellsOf t=sh.k:=by
 cases sh<;>simp only[Db,D1]at h<;>first|exact F8 h.2|cases h
section
variable {H:Type} {enc:TypeId×Value->H} {base:Nat} {spare:Nat->Bool} {held:Bool}
abbrev TT:Nat->Nat->Prop:=fun _ _=>True
theorem CW {x:DV} (h1:v.oneCell'=true) (h:DRep TT w v x):Reps TT w [v] [x]:=
 ⟨rfl,fun u hu=>by rw[List.mem_singleton.1 hu];exact h1,fun i u y hu hy=>by
  cases i with
  | zero=>cases hu;cases hy;exact h
  | succ i=>simp at hu⟩
theorem KZ {vs us:List Value} {xs ys:List DV} (h:Reps TT w vs xs) (k:Reps TT w us ys):Reps TT w (vs++us) (xs++ys):=by
 refine⟨by simp[h.len,k.len],fun v hv=>?_,fun i v x hv hx=>?_⟩
 . rcases List.mem_append.1 hv with e|e
   . exact h.one v e
   . exact k.one v e
 . by_cases hi:i<vs.length
   . rw[F3 hi]at hv
     rw[F3 (by rw[<-h.len];exact hi)]at hx
     exact h.rep i v x hv hx
   . rw[E9 (by omega)]at hv
     rw[E9 (by rw[<-h.len];omega),<-h.len]at hx
     exact k.rep _ v x hv hx
theorem trod_sh (sh:Sh):(∀ t fuel (cs:List Value) x,Db P sh (.inl t)=true->DataW.trod enc P w base spare held fuel t cs=some x->∃ d:Dat sh,Dat.ok sh d∧Reps TT w cs (Dat.cs sh d)) ∧
 ∀ fs off (cs:List Value),Db P sh (.inr (fs,off))=true->(∀ f∈fs,∃ n x,DataW.trod enc P w base spare held n f.type ((cs.drop f.offset).take (P.cellsOf f.type))=some x)->cs.length=off+sh.k->∃ d:Dat sh,Dat.ok sh d∧Reps TT w (cs.drop off) (Dat.cs sh d):=by
 induction sh with
 | i k=>
  refine⟨fun t fuel cs x ht h=>?_,fun fs off cs ht=>by simp[Db]at ht⟩
  simp only[Db,D1]at ht
  have hu:P.underlying t=some (.int k):=by
   revert ht
   cases e:P.underlying t with
   | none=>simp
   | some u=>cases u<;>simp;rintro rfl;simp
  obtain⟨n,rfl,-,hw⟩:=DataW.trod_int hu h
  exact⟨n,hw,CW C (.val _ C)⟩
 | s=>
  refine⟨fun t fuel cs x ht h=>?_,fun fs off cs ht=>by simp[Db]at ht⟩
  simp only[Db,D1]at ht
  have hu:P.underlying t=some .string:=by
   revert ht
   cases e:P.underlying t with
   | none=>simp
   | some u=>cases u<;>simp
  obtain⟨s,rfl,-,hs⟩:=DataW.trod_string hu h
  refine⟨s.data.toList,by simpa[Dat.ok]using hs,CW rfl ?_⟩
  show DRep TT w (.string s) (.val (.string ⟨s.data.toList.toArray⟩))
  exact .val _ C
 | b=>
  refine⟨fun t fuel cs x ht h=>?_,fun fs off cs ht=>by simp[Db]at ht⟩
  simp only[Db,D1]at ht
  have hu:P.underlying t=some .bool:=by
   revert ht
   cases e:P.underlying t with
   | none=>simp
   | some u=>cases u<;>simp
  obtain⟨b,rfl,-⟩:=DataW.trod_bool hu h
  exact⟨b,D3,CW C (.val _ C)⟩
 | sl e ih=>
  refine⟨fun t fuel cs x ht h=>?_,fun fs off cs ht=>by simp[Db]at ht⟩
  simp only[Db,D1]at ht
  obtain⟨u,hu,hte,hk⟩:∃ u,P.underlying t=some (.slice u)∧Db P e (.inl u)=true∧Nat.blt 0 e.k=true:=by
   revert ht
   cases e':P.underlying t with
   | none=>simp
   | some u=>
    cases u with
    | slice u=>exact fun h=>by simp only[D1]at h;exact⟨_,C,h.1.1,h.1.2⟩
    | _=>simp
  have hk:0<e.k:=C0 hk
  have hce:=KJ hte
  rcases open_slice hu h with⟨rfl,-⟩|⟨a,len,cap,m,n,D,Pl,rfl,hb,hl,hm,hmm,-,hx⟩
  . exact⟨([]:List (Dat e)),⟨E7 _,fun x hx=>by cases hx⟩,CW rfl DRep.nil⟩
  . have hlm:len<=m:=by rw[hmm];split<;>omega
    have each:∀ i,i<len->∃ q:List Value×Option (Dat e),∃ d,q.2=some d∧(∀ j,j<e.k->w.cell? (a.add (i*e.k+j))=q.1[j]?)∧q.1.length=e.k∧Dat.ok e d∧Reps TT w q.1 (Dat.cs e d):=fun i hi=>by
     obtain⟨cs',h1,h2⟩:=hx i (by omega)
     obtain⟨d,h3,h4⟩:=ih.1 u n cs' _ hte h2
     rw[hce]at h1
     obtain⟨-,h5,h6⟩:=World.cells?_some h1
     refine⟨(cs',some d),d,C,fun j hj=>?_,h5,h3,h4⟩
     rw[<-h6 j hj]
     congr 1
     unfold Addr.add
     split<;>split<;>split<;>simp_all<;>omega
    obtain⟨q,hq⟩:=choose_lt each
    have each2:∀ i,i<len->∃ d:Dat e,(q i).2=some d:=fun i hi=>by obtain⟨d,h1,-⟩:=hq i hi;exact⟨d,h1⟩
    obtain⟨ds,hds⟩:∃ ds:List (Dat e),ds.length=len ∧ ∀ (i:Nat) d,ds[i]? = some d->(q i).2=some d:=by
     have:∀ l,l<=len->∃ ds:List (Dat e),ds.length=l ∧ ∀ (i:Nat) d,ds[i]? = some d->(q i).2=some d:=by
      intro l
      induction l with
      | zero=>exact fun _=>⟨[],C,fun i d hd=>by simp at hd⟩
      | succ l ihl=>
       intro hl'
       obtain⟨ds,h1,h2⟩:=ihl (by omega)
       obtain⟨d,hd⟩:=each2 l (by omega)
       refine⟨ds++[d],by simp[h1],fun i d' hi=>?_⟩
       by_cases hil:i<l
       . rw[F3 (by omega)]at hi
         exact h2 i d' hi
       . rw[E9 (by omega)]at hi
         have hz:i-ds.length=0:=by
          have:=(A6.1 hi).1
          simp at this
          omega
         rw[hz]at hi
         simp at hi
         obtain rfl:i=l:=by omega
         rw[hd,hi]
     exact this len (E0 _)
    have hat:∀ (i:Nat) d,ds[i]? = some d->i<len∧(∀ j,j<e.k->w.cell? (a.add (i*e.k+j))=(q i).1[j]?)∧(q i).1.length=e.k∧Dat.ok e d∧Reps TT w (q i).1 (Dat.cs e d):=fun i d hi=>by
     have hil:i<len:=by rw[<-hds.1];exact(A6.1 hi).1
     obtain⟨d',h1,h2⟩:=hq i hil
     have:=hds.2 i d hi
     rw[h1]at this
     cases this
     exact⟨hil,h2⟩
    refine⟨ds,⟨by rw[hds.1];exact D9 hl hm,fun d hd=>?_⟩,CW C ?_⟩
    . obtain⟨i,hi,rfl⟩:=List.getElem_of_mem hd
      exact(hat i _ (A4 hi)).2.2.2.1
    . have hspot:0<len->∃ b off,a=⟨b,off,none⟩:=fun h0=>by
       obtain⟨d,hd⟩:∃ d,ds[0]? = some d:=⟨_,A4 (by omega)⟩
       obtain⟨-,h2,h3,-⟩:=hat 0 d hd
       have h4:=h2 0 hk
       rw[A4 (by omega)]at h4
       obtain⟨b,off,spot⟩:=a
       have hsp:=World.cell?_spot h4
       have:spot=none:=by simpa[Addr.add]using hsp
       exact⟨b,off,by rw[this]⟩
      refine .sl (fun i j=>((q i).1[j]?).getD default) (by rw[A8,hds.1]) hl (by unfold maxLen at hm;omega) (fun x hx=>?_) (fun h0=>?_) (fun i j hi hj=>?_) fun i j ce x hce' hx'=>?_
      . obtain⟨d,-,rfl⟩:=H2.1 hx
        exact Ew e d
      . obtain⟨b,off,rfl⟩:=hspot h0
        refine⟨b,off,C,fun i j hi hj=>⟨?_,D3⟩⟩
        obtain⟨d,hd⟩:∃ d,ds[i]? = some d:=⟨_,A4 (by omega)⟩
        obtain⟨-,h2,h3,-⟩:=hat i d hd
        have h4:=h2 j hj
        have e1:(⟨b,off,none⟩:Addr).add (i*e.k+j)=⟨b,off+i*e.k+j,none⟩:=by unfold Addr.add;split<;>simp_all[Nat.add_assoc]
        rw[e1]at h4
        rw[h4,A4 (by omega)]
        rfl
      . obtain⟨d,hd⟩:∃ d,ds[i]? = some d:=⟨_,A4 (by omega)⟩
        obtain⟨-,h2,h3,-,h5⟩:=hat i d hd
        rw[A4 (by omega)]
        exact h5.one _ (List.getElem_mem _)
      . rw[C6,C7]at hce'
        obtain⟨d,hd,rfl⟩:=hce'
        obtain⟨-,h2,h3,-,h5⟩:=hat i d hd
        have hj:j<(q i).1.length:=by rw[h5.len];exact(A6.1 hx').1
        rw[A4 hj]
        exact h5.rep j _ x (A4 hj) hx'
 | un=>
  refine⟨fun t fuel cs x ht h=>by simp[Db]at ht,fun fs off cs ht hf hl=>⟨(),D3,?_⟩⟩
  have:cs.drop off=[]:=J6 (by simp[Sh.k]at hl;omega)
  rw[this]
  exact⟨rfl,fun v hv=>(by cases hv),fun i v x hv=>(by simp at hv)⟩
 | pr f r ihf ihr=>
  have main:∀ fd fs' off (cs:List Value),fd.offset=off->Db P f (.inl fd.type)=true->Db P r (.inr (fs',off+f.k))=true->(∀ g∈fd::fs',∃ n x,DataW.trod enc P w base spare held n g.type ((cs.drop g.offset).take (P.cellsOf g.type))=some x)->cs.length=off+(f.k+r.k)->∃ d:Dat (.pr f r),Dat.ok (.pr f r) d∧Reps TT w (cs.drop off) (Dat.cs (.pr f r) d):=fun fd fs' off cs ho h1 h2 hf hl=>by
   obtain⟨n,x,h3⟩:=hf fd (by simp)
   rw[ho,KJ h1]at h3
   obtain⟨d1,h4,h5⟩:=ihf.1 _ _ _ _ h1 h3
   obtain⟨d2,h6,h7⟩:=ihr.2 fs' (off+f.k) cs h2 (fun g hg=>hf g (by simp[hg])) (by omega)
   refine⟨(d1,d2),⟨h4,h6⟩,?_⟩
   have:cs.drop off=(cs.drop off).take f.k++cs.drop (off+f.k):=by rw[<-List.drop_drop,List.take_append_drop]
   rw[this]
   exact KZ h5 h7
  refine⟨fun t fuel cs x ht h=>?_,fun fs off cs ht hf hl=>?_⟩
  . simp only[Db,D1]at ht
    obtain⟨hs,hc⟩:=ht
    have hc:=F8 hc
    obtain⟨fs,hu,hs⟩:∃ fs,P.underlying t=some (.struct fs)∧(match fs.toList with|fd::fs'=>Nat.beq fd.offset 0&&Db P f (.inl fd.type)&&Db P r (.inr (fs',f.k)) | []=>false)=true:=by
     revert hs
     cases e':P.underlying t with
     | none=>simp
     | some u=>
      cases u with
      | struct fs=>exact fun h=>⟨_,C,h⟩
      | _=>simp
    obtain⟨xs,n,-,-,hl,hlen,hf⟩:=DataW.trod_struct hu h
    have hfs:∀ g∈fs.toList,∃ n x,DataW.trod enc P w base spare held n g.type ((cs.drop g.offset).take (P.cellsOf g.type))=some x:=fun g hg=>by
     obtain⟨i,hi,rfl⟩:=List.getElem_of_mem hg
     have hi':i<fs.size:=by simpa using hi
     have:=hf i fs[i] (Array.getElem?_eq_getElem hi')
     rw[A4 (by omega)]at this
     exact⟨n,_,this⟩
    cases hfl:fs.toList with
    | nil=>rw[hfl]at hs;simp at hs
    | cons fd fs'=>
     rw[hfl]at hs hfs
     simp only[D1]at hs
     obtain⟨d,h1,h2⟩:=main fd fs' 0 cs (F8 hs.1.1) hs.1.2 (by rw[E4];exact hs.2) hfs (by rw[hl,hc,E4])
     exact⟨d,h1,by simpa using h2⟩
  . cases fs with
    | nil=>simp[Db]at ht
    | cons fd fs'=>
     simp only[Db,D1]at ht
     exact main fd fs' off cs (F8 ht.1.1) ht.1.2 ht.2 hf hl
theorem Nd {sh:Sh} {b0:Nat} {d:DataW H} {p:List MemPlace} (ht:Db P sh (.inl t)=true) (hv:Value.okWide P w .any b0 t v) (h:DataW.Trod enc P w base spare held t v d p):∃ x:Dat sh,Dat.ok sh x∧DRep TT w v (Dat.dv sh x):=by
 obtain⟨fuel,hf⟩:=h
 obtain⟨x,h1,h2⟩:=(trod_sh sh).1 t fuel _ _ ht hf
 refine⟨x,h1,?_⟩
 cases sh with
 | un=>simp[Db]at ht
 | pr f r=>
  simp only[Db,D1]at ht
  obtain⟨fs,hu⟩:∃ fs,P.underlying t=some (.struct fs):=by
   revert ht
   cases e':P.underlying t with
   | none=>simp
   | some u=>cases u<;>simp
  obtain⟨cs,rfl,-⟩:=okWide_struct hu hv
  have h3:Reps TT w cs.toList (Dat.cs (.pr f r) x):=h2
  have:=DRep.agg h3.len h3.one h3.rep
  simpa using this
 | _=>
  have hl:=h2.len
  have hlen:v.cells.toList.length=1:=by rw[hl];rfl
  have hv1:v.cells.toList=[v]:=by
   cases v<;>first|rfl|skip
   rename_i cs
   exfalso
   obtain⟨y,hy⟩:=List.length_eq_one_iff.1 hlen
   have hcs:P.underlying t≠none:=fun e=>by simp[Db,e]at ht
   simp only[Value.cells]at hy
   revert hv
   unfold Value.okWide
   cases e':P.underlying t with
   | none=>exact G5 e' hcs
   | some u=>cases u<;>first|(simp[Db,e']at ht;done)|(intro hv;simp[Cell.okWide,Cell.ok,e']at hv)
  rw[hv1]at h2
  exact h2.rep 0 v _ C C
end
section
variable {sq:Bool} {ops:Array Oper} {K:PS->Prop} {rest:List Oper} {st:PS} {d:Option Nat} {op:Op} {ty:TypeId} {pos:String} {af:Array Edge} {gd:Option (Nat×Bool)} {q:Nat×Bool}
theorem yCxv {f:Nat} {caps:List Nat} {e:Option Nat} {x:Operand} {l:List Operand} {ts:Array TypeId} {args:List SV} {bs bn:List (Nat×List SV)} {tt tn:List (Nat×Nat)} {r:SV} [hB:HasBody P f] (hc:Jz P f args bs tt r bn tn) (hx:st.ev x=.fn f caps) (ha:l.map st.ev++caps.map (fun c=>.bx c 0)=args) (hbs:EM st bs) (hts:EK st tt)
 (h:YR P true ops K rest ((st.puts bn tn).put e r)) (hbk:bn.map (·.1)=bs.map (·.1):=by rfl) (htk:tn.map (·.1)=tt.map (·.1):=by rfl) (hfit:EO args bs tt bn=true:=by rfl) (hd:I1 ⟨e,.call { callee:=.value x,args:=l.toArray,argTypes:=ts },ty,pos,af,gd⟩ st=true:=by kernel_rfl)
 (hw:st.want ops ⟨e,.call { callee:=.value x,args:=l.toArray,argTypes:=ts },ty,pos,af,gd⟩=some true:=by rfl):
 YR P true ops K (⟨e,.call { callee:=.value x,args:=l.toArray,argTypes:=ts },ty,pos,af,gd⟩::rest) st:=by
 refine .any C fun B w0 Q hQ g a w hr=>?_
 have hxe:=hr.eval x
 rw[hx]at hxe
 obtain⟨bs',q1,q2,q3⟩:=hxe
 have V0:=callX hr hc hbs hts hbk htk hfit (vals:=l.map a.eval++bs'.map fun b=>Value.pointer (some ⟨b,0,none⟩)) (by rw[<-ha];simp[q2]) (fun i v y hv hy=>by
  rw[<-ha]at hy
  by_cases hi:i<l.length
  . rw[F3 (by simpa using hi),C6,C7]at hy hv
    obtain⟨z,h1,rfl⟩:=hy
    obtain⟨z',h2,rfl⟩:=hv
    rw[h1]at h2
    cases h2
    exact hr.eval z
  . rw[E9 (by simpa using hi),C6,C7,A8]at hy hv
    obtain⟨c,h1,rfl⟩:=hy
    obtain⟨b,h2,rfl⟩:=hv
    exact⟨b,q3 _ b c h2 h1,C⟩)
 have hrun:(execOp a.eval ⟨e,.call { callee:=.value x,args:=l.toArray,argTypes:=ts },ty,pos,af,gd⟩).run P w=.ok (.enter f (l.map a.eval++bs'.map fun b=>Value.pointer (some ⟨b,0,none⟩)).toArray) w:=by
  simp only[execOp,resolve,q1,Deferred.ofValue,Sem.run_bind,Sem.run_pure,D4,invoke]
  rw[hB.run]
  simp
 unfold wpList
 rw[B9 (M4 hr hw)]
 refine .inl ?_
 unfold Oper.wp
 rw[hrun]
 show Calls P f _ w _
 refine V0.mono ?_
 rintro e' w' ⟨v,G,rfl,h3,h4⟩
 exact h.sound hQ (h4.put h3 _ (H6 (st:=st) hd))
inductive ToD (st:PS):SV->DV->Prop
 | d {x:SV} {y:DV} (h:toD x=some y):ToD st x y
 | bs {i n E k:Nat} {cs:List SV} {ds:List DV} {es:List (List DV)} (hlt:i<500000) (hi:st.bget i=some cs) (hds:Ag cs=some ds) (hn:ds.length=n*k) (hes:O9 k n ds=es):ToD st (.bs i n E k) (.sl k es)
theorem ToD.rep (hr:Rep B w0 g st a w) {x:SV} {y:DV} (h:ToD st x y) (hv:SRep g w v x):DRep (FxB g) w v y:=by
 cases h with
 | d h=>exact(hv.toD h).mono (Kp.same fun _ _ hf=>.inl hf)
 | bs hlt hi hds hn hes=>
  subst hes
  exact Gs hr hlt hi hds hn hv (fun b o hb=>.inr ⟨_,hb⟩) (Kp.same fun _ _ hf=>.inl hf)
inductive ToDs (st:PS):List SV->List DV->Prop
 | nil:ToDs st [] []
 | cons {x:SV} {y:DV} {l:List SV} {ys:List DV} (h:ToD st x y) (hl:ToDs st l ys):ToDs st (x::l) (y::ys)
theorem ToDs.get {l:List SV} {ys:List DV} (h:ToDs st l ys):l.length=ys.length ∧ ∀ (j:Nat) x y,l[j]? = some x->ys[j]? = some y->ToD st x y:=by
 induction h with
 | nil=>exact⟨rfl,fun j x y hj=>by simp at hj⟩
 | cons h _ ih=>
  refine⟨by simp[ih.1],fun j x y hx hy=>?_⟩
  cases j with
  | zero=>simp at hx hy;subst hx hy;exact h
  | succ j=>exact ih.2 j x y (by simpa using hx) (by simpa using hy)
inductive BoxD (st:PS):List Nat->List (List DV)->Prop
 | nil:BoxD st [] []
 | cons {c:Nat} {cs:List SV} {ds:List DV} {l:List Nat} {css:List (List DV)} (hlt:c<500000) (hc:st.bget c=some cs) (hd:ToDs st cs ds) (hl:BoxD st l css):BoxD st (c::l) (ds::css)
theorem BoxD.get {l:List Nat} {css:List (List DV)} (h:BoxD st l css):l.length=css.length ∧ ∀ (j:Nat) c ds,l[j]? = some c->css[j]? = some ds->c<500000 ∧ ∃ cs,st.bget c=some cs∧ToDs st cs ds:=by
 induction h with
 | nil=>exact⟨rfl,fun j x y hj=>by simp at hj⟩
 | cons hlt hc hd _ ih=>
  refine⟨by simp[ih.1],fun j x y hx hy=>?_⟩
  cases j with
  | zero=>simp at hx hy;subst hx hy;exact⟨hlt,_,hc,hd⟩
  | succ j=>exact ih.2 j x y (by simpa using hx) (by simpa using hy)
end
section
variable {sq:Bool} {ops:Array Oper} {K:PS->Prop} {rest:List Oper} {st:PS} {d:Option Nat} {op:Op} {ty:TypeId} {pos:String} {af:Array Edge} {gd:Option (Nat×Bool)} {q:Nat×Bool}
theorem AM {n E k:Nat} (hx:st.ev y=.bs i n E k) (h:YR P sq ops K rest (st.put d (.bs i n E k))) (zz:zk ops st ⟨d,.move y,ty,pos,af,gd⟩ .no=true:=by kernel_rfl):YR P sq ops K (⟨d,.move y,ty,pos,af,gd⟩::rest) st:=M3 (lm (x:=.bs i n E k) hx (zd zz)) (zo zz) (zw zz) h
theorem EZ {n E k:Nat} (hx:st.ev y=.bs i n E k) (h:YR P sq ops K rest (st.put d (.bs i n E k))) (zz:zk ops st ⟨d,.assign y,ty,pos,af,gd⟩ .no=true:=by kernel_rfl):YR P sq ops K (⟨d,.assign y,ty,pos,af,gd⟩::rest) st:=M3 (la (x:=.bs i n E k) hx (zd zz)) (zo zz) (zw zz) h
theorem yMm (hx:st.ev y=.mb i) (h:YR P sq ops K rest (st.put d (.mb i))) (zz:zk ops st ⟨d,.move y,ty,pos,af,gd⟩ .no=true:=by kernel_rfl):YR P sq ops K (⟨d,.move y,ty,pos,af,gd⟩::rest) st:=M3 (lm (x:=.mb i) hx (zd zz)) (zo zz) (zw zz) h
theorem yAm (hx:st.ev y=.mb i) (h:YR P sq ops K rest (st.put d (.mb i))) (zz:zk ops st ⟨d,.assign y,ty,pos,af,gd⟩ .no=true:=by kernel_rfl):YR P sq ops K (⟨d,.assign y,ty,pos,af,gd⟩::rest) st:=M3 (la (x:=.mb i) hx (zd zz)) (zo zz) (zw zz) h
end
section
variable {sq:Bool} {ops:Array Oper} {K:PS->Prop} {rest:List Oper} {st:PS} {d:Option Nat} {op:Op} {ty:TypeId} {pos:String} {af:Array Edge} {gd:Option (Nat×Bool)} {q:Nat×Bool}
theorem Ry {α:Type} {l:List α} {c:Nat} (h:l.length=[c].length):∃ b,l=[b]:=by
 match l,h with
 | [b],_=>exact⟨b,C⟩
theorem fn_beh {φ:List DV->SV->Prop} (hB:HasBody P f) (hc:∀ xs r,φ xs r->PCalls P f xs r) (h:SRep g w v (.fn f [])):DRep (Fx g) w v (dF P φ):=by
 obtain⟨bs,h1,h2,-⟩:=h
 have:bs=[]:=List.eq_nil_of_length_eq_zero (by simpa using h2)
 subst this
 refine DRep.of_beh ⟨f,[],h1,hB.run,fun F' w' hk xs r vals hφ hl hv hgo=>?_⟩
 rw[List.append_nil]
 exact hc xs r hφ F' w' vals hl hv hgo
variable {Q:Exit->PS->Prop} {c:Code}
inductive PartF (P:Program) (st:PS):List (Nat×Operand)->List (Nat×List DV)->Prop
 | nil:PartF P st [] []
 | d {i:Nat} {x:Operand} {y:List DV} {l:List (Nat×Operand)} {ys:List (Nat×List DV)} (h:partD (st.ev x)=some y) (hl:PartF P st l ys):PartF P st ((i,x)::l) ((i,y)::ys)
 | fn {i:Nat} {x:Operand} {f:FuncId} {φ:List DV->SV->Prop} {l:List (Nat×Operand)} {ys:List (Nat×List DV)} (hB:HasBody P f) (hc:∀ xs r,φ xs r->PCalls P f xs r) (h:st.ev x=.fn f []) (hl:PartF P st l ys):PartF P st ((i,x)::l) ((i,[dF P φ])::ys)
theorem PartF.congr {st2:PS} (h:PartF P st l ys) (h1:∀ p∈l,st2.ev p.2=st.ev p.2):PartF P st2 l ys:=by
 induction h with
 | nil=>exact .nil
 | @d i x y l ys h _ ih=>exact .d (by rw[h1 (i,x) (by simp)];exact h) (ih fun p hp=>h1 p (by simp[hp]))
 | @fn i x f φ l ys hB hc h _ ih=>exact .fn hB hc (by rw[h1 (i,x) (by simp)];exact h) (ih fun p hp=>h1 p (by simp[hp]))
theorem PartF.get (h:PartF P st l ys) (hr:Rep B w0 g st a w):l.length=ys.length ∧ ∀ (j:Nat) p q,l[j]? = some p->ys[j]? = some q->p.1=q.1∧Reps (Fx g) w (a.eval p.2).cells.toList q.2:=by
 induction h with
 | nil=>exact⟨rfl,fun j p q hp=>by simp at hp⟩
 | @d i x y l ys h _ ih=>
  refine⟨by simp[ih.1],fun j p q hp hq=>?_⟩
  cases j with
  | zero=>simp at hp hq;subst hp hq;exact⟨rfl,(hr.eval x).partD h⟩
  | succ j=>exact ih.2 j p q (by simpa using hp) (by simpa using hq)
 | @fn i x f φ l ys hB hc h _ ih=>
  refine⟨by simp[ih.1],fun j p q hp hq=>?_⟩
  cases j with
  | zero=>
   simp at hp hq
   subst hp hq
   have hv:=hr.eval x
   rw[h]at hv
   have hd:=fn_beh hB hc hv
   obtain⟨bs,h1,-⟩:=hv
   refine⟨rfl,?_⟩
   simp only[h1]at hd ⊢
   refine⟨rfl,fun u hu=>?_,fun k u y hu hy=>?_⟩
   . simp[Value.cells]at hu;subst hu;rfl
   . cases k with
     | zero=>simp[Value.cells]at hu hy;subst hu hy;exact hd
     | succ k=>simp at hy
  | succ j=>exact ih.2 j p q (by simpa using hp) (by simpa using hq)
end
instance:AggOf Tryz.prog 3 false 1:=⟨fun _=>by kernel_rfl,fun _=>by kernel_rfl⟩
instance:ZeroOf Tryz.prog 3 [.int .i64 0]:=⟨fun _=>⟨(.int .i64 0:Value),by kernel_rfl,rfl⟩,by simp[Value.oneCell']⟩
instance:UndI Tryz.prog 3 .i64:=⟨fun _=>by kernel_rfl⟩
instance:AggOf Tryz.prog 4 false 1:=⟨fun _=>by kernel_rfl,fun _=>by kernel_rfl⟩
instance:ZeroOf Tryz.prog 4 [.bool false]:=⟨fun _=>⟨(.bool false:Value),by kernel_rfl,rfl⟩,by simp[Value.oneCell']⟩
instance:AggOf Tryz.prog 5 false 1:=⟨fun _=>by kernel_rfl,fun _=>by kernel_rfl⟩
instance:UndI Tryz.prog 5 .u8:=⟨fun _=>by kernel_rfl⟩
instance:AggOf Tryz.prog 9 false 1:=⟨fun _=>by kernel_rfl,fun _=>by kernel_rfl⟩
instance:ZeroOf Tryz.prog 9 [.string ⟨#[]⟩]:=⟨fun _=>⟨(.string ⟨#[]⟩:Value),by kernel_rfl,rfl⟩,by simp[Value.oneCell']⟩
instance:UndS Tryz.prog 9:=⟨fun _=>by kernel_rfl⟩
instance:UndI Tryz.prog 21 .i32:=⟨fun _=>by kernel_rfl⟩
instance:AggOf Tryz.prog 22 false 1:=⟨fun _=>by kernel_rfl,fun _=>by kernel_rfl⟩
instance:ZeroOf Tryz.prog 22 [.slice none 0 0]:=⟨fun _=>⟨(.slice none 0 0:Value),by kernel_rfl,rfl⟩,by simp[Value.oneCell']⟩
instance:SliceOf Tryz.prog 22 32 2:=⟨fun _=>by kernel_rfl,fun _=>by kernel_rfl⟩
theorem Tryz.inf22:(Tryz.prog.info? 32).map (fun i=>(i.zero,i.size,i.bytes))=some (some (Value.agg #[.int .i64 0,.slice none 0 0]),2,32):=by kernel_rfl
instance:AppOf Tryz.prog 22 32 2 32:=AJ (z:=Value.agg #[.int .i64 0,.slice none 0 0]) (by kernel_rfl) Tryz.inf22 rfl
instance:LitOf Tryz.prog 22 32 2 [.int .i64 0,.slice none 0 0]:=⟨fun _=>by kernel_rfl,fun _=>by kernel_rfl,fun _=>⟨Value.agg #[.int .i64 0,.slice none 0 0],by kernel_rfl,rfl⟩,rfl,by simp[Value.oneCell']⟩
instance:AggOf Tryz.prog 23 false 1:=⟨fun _=>by kernel_rfl,fun _=>by kernel_rfl⟩
instance:ZeroOf Tryz.prog 23 [.slice none 0 0]:=⟨fun _=>⟨(.slice none 0 0:Value),by kernel_rfl,rfl⟩,by simp[Value.oneCell']⟩
instance:SliceOf Tryz.prog 23 48 2:=⟨fun _=>by kernel_rfl,fun _=>by kernel_rfl⟩
theorem Tryz.inf23:(Tryz.prog.info? 48).map (fun i=>(i.zero,i.size,i.bytes))=some (some (Value.agg #[.string ⟨#[]⟩,.int .i64 0]),2,24):=by kernel_rfl
instance:AppOf Tryz.prog 23 48 2 24:=AJ (z:=Value.agg #[.string ⟨#[]⟩,.int .i64 0]) (by kernel_rfl) Tryz.inf23 rfl
instance:LitOf Tryz.prog 23 48 2 [.string ⟨#[]⟩,.int .i64 0]:=⟨fun _=>by kernel_rfl,fun _=>by kernel_rfl,fun _=>⟨Value.agg #[.string ⟨#[]⟩,.int .i64 0],by kernel_rfl,rfl⟩,rfl,by simp[Value.oneCell']⟩
instance:AggOf Tryz.prog 27 false 1:=⟨fun _=>by kernel_rfl,fun _=>by kernel_rfl⟩
instance:ZeroOf Tryz.prog 27 [.int .i64 0]:=⟨fun _=>⟨(.int .i64 0:Value),by kernel_rfl,rfl⟩,by simp[Value.oneCell']⟩
instance:AggOf Tryz.prog 30 false 1:=⟨fun _=>by kernel_rfl,fun _=>by kernel_rfl⟩
instance:SliceOf Tryz.prog 30 53 3:=⟨fun _=>by kernel_rfl,fun _=>by kernel_rfl⟩
theorem Tryz.inf30:(Tryz.prog.info? 53).map (fun i=>(i.zero,i.size,i.bytes))=some (some (Value.agg #[.string ⟨#[]⟩,.bool false,.slice none 0 0]),3,48):=by kernel_rfl
instance:AppOf Tryz.prog 30 53 3 48:=AJ (z:=Value.agg #[.string ⟨#[]⟩,.bool false,.slice none 0 0]) (by kernel_rfl) Tryz.inf30 rfl
instance:LitOf Tryz.prog 30 53 3 [.string ⟨#[]⟩,.bool false,.slice none 0 0]:=⟨fun _=>by kernel_rfl,fun _=>by kernel_rfl,fun _=>⟨Value.agg #[.string ⟨#[]⟩,.bool false,.slice none 0 0],by kernel_rfl,rfl⟩,rfl,by simp[Value.oneCell']⟩
instance:AggOf Tryz.prog 32 true 2:=⟨fun _=>by kernel_rfl,fun _=>by kernel_rfl⟩
instance:ZeroOf Tryz.prog 32 [.int .i64 0,.slice none 0 0]:=⟨fun _=>⟨Value.agg #[.int .i64 0,.slice none 0 0],by kernel_rfl,rfl⟩,by simp[Value.oneCell']⟩
instance:FieldOf Tryz.prog 32 0 0 3:=⟨fun _ _=>by kernel_rfl,fun _ _=>by kernel_rfl⟩
instance:FieldOf Tryz.prog 32 1 1 30:=⟨fun _ _=>by kernel_rfl,fun _ _=>by kernel_rfl⟩
instance:BuildOf Tryz.prog 32 [(0,1),(1,1)] [.int .i64 0,.slice none 0 0]:=X1 (z:=Value.agg #[.int .i64 0,.slice none 0 0]) (fs:=Tryz.prog.fieldsOf 32) (fun _=>by kernel_rfl) rfl (fun _=>by kernel_rfl) (fun _=>by kernel_rfl) (by simp[Value.oneCell'])
instance:AggOf Tryz.prog 36 false 1:=⟨fun _=>by kernel_rfl,fun _=>by kernel_rfl⟩
instance:ZeroOf Tryz.prog 36 [.slice none 0 0]:=⟨fun _=>⟨(.slice none 0 0:Value),by kernel_rfl,rfl⟩,by simp[Value.oneCell']⟩
instance:SliceOf Tryz.prog 36 9 1:=⟨fun _=>by kernel_rfl,fun _=>by kernel_rfl⟩
theorem Tryz.inf36:(Tryz.prog.info? 9).map (fun i=>(i.zero,i.size,i.bytes))=some (some ((.string ⟨#[]⟩:Value)),1,16):=by kernel_rfl
instance:AppOf Tryz.prog 36 9 1 16:=AJ (z:=(.string ⟨#[]⟩:Value)) (by kernel_rfl) Tryz.inf36 rfl
instance:LitOf Tryz.prog 36 9 1 [.string ⟨#[]⟩]:=⟨fun _=>by kernel_rfl,fun _=>by kernel_rfl,fun _=>⟨(.string ⟨#[]⟩:Value),by kernel_rfl,rfl⟩,rfl,by simp[Value.oneCell']⟩
instance:AggOf Tryz.prog 48 true 2:=⟨fun _=>by kernel_rfl,fun _=>by kernel_rfl⟩
instance:ZeroOf Tryz.prog 48 [.string ⟨#[]⟩,.int .i64 0]:=⟨fun _=>⟨Value.agg #[.string ⟨#[]⟩,.int .i64 0],by kernel_rfl,rfl⟩,by simp[Value.oneCell']⟩
instance:FieldOf Tryz.prog 48 0 0 9:=⟨fun _ _=>by kernel_rfl,fun _ _=>by kernel_rfl⟩
instance:FieldOf Tryz.prog 48 1 1 3:=⟨fun _ _=>by kernel_rfl,fun _ _=>by kernel_rfl⟩
instance:BuildOf Tryz.prog 48 [(0,1),(1,1)] [.string ⟨#[]⟩,.int .i64 0]:=X1 (z:=Value.agg #[.string ⟨#[]⟩,.int .i64 0]) (fs:=Tryz.prog.fieldsOf 48) (fun _=>by kernel_rfl) rfl (fun _=>by kernel_rfl) (fun _=>by kernel_rfl) (by simp[Value.oneCell'])
instance:AggOf Tryz.prog 51 false 1:=⟨fun _=>by kernel_rfl,fun _=>by kernel_rfl⟩
instance:ZeroOf Tryz.prog 51 [.slice none 0 0]:=⟨fun _=>⟨(.slice none 0 0:Value),by kernel_rfl,rfl⟩,by simp[Value.oneCell']⟩
instance:SliceOf Tryz.prog 51 113 2:=⟨fun _=>by kernel_rfl,fun _=>by kernel_rfl⟩
theorem Tryz.inf51:(Tryz.prog.info? 113).map (fun i=>(i.zero,i.size,i.bytes))=some (some (Value.agg #[.string ⟨#[]⟩,.string ⟨#[]⟩]),2,32):=by kernel_rfl
instance:AppOf Tryz.prog 51 113 2 32:=AJ (z:=Value.agg #[.string ⟨#[]⟩,.string ⟨#[]⟩]) (by kernel_rfl) Tryz.inf51 rfl
instance:LitOf Tryz.prog 51 113 2 [.string ⟨#[]⟩,.string ⟨#[]⟩]:=⟨fun _=>by kernel_rfl,fun _=>by kernel_rfl,fun _=>⟨Value.agg #[.string ⟨#[]⟩,.string ⟨#[]⟩],by kernel_rfl,rfl⟩,rfl,by simp[Value.oneCell']⟩
instance:AggOf Tryz.prog 53 true 3:=⟨fun _=>by kernel_rfl,fun _=>by kernel_rfl⟩
instance:ZeroOf Tryz.prog 53 [.string ⟨#[]⟩,.bool false,.slice none 0 0]:=⟨fun _=>⟨Value.agg #[.string ⟨#[]⟩,.bool false,.slice none 0 0],by kernel_rfl,rfl⟩,by simp[Value.oneCell']⟩
instance:FieldOf Tryz.prog 53 0 0 9:=⟨fun _ _=>by kernel_rfl,fun _ _=>by kernel_rfl⟩
instance:FieldOf Tryz.prog 53 1 1 4:=⟨fun _ _=>by kernel_rfl,fun _ _=>by kernel_rfl⟩
instance:FieldOf Tryz.prog 53 2 2 51:=⟨fun _ _=>by kernel_rfl,fun _ _=>by kernel_rfl⟩
instance:BuildOf Tryz.prog 53 [(0,1),(1,1),(2,1)] [.string ⟨#[]⟩,.bool false,.slice none 0 0]:=X1 (z:=Value.agg #[.string ⟨#[]⟩,.bool false,.slice none 0 0]) (fs:=Tryz.prog.fieldsOf 53) (fun _=>by kernel_rfl) rfl (fun _=>by kernel_rfl) (fun _=>by kernel_rfl) (by simp[Value.oneCell'])
instance:AggOf Tryz.prog 72 false 1:=⟨fun _=>by kernel_rfl,fun _=>by kernel_rfl⟩
instance:UndS Tryz.prog 72:=⟨fun _=>by kernel_rfl⟩
instance:AggOf Tryz.prog 86 false 1:=⟨fun _=>by kernel_rfl,fun _=>by kernel_rfl⟩
instance:SliceOf Tryz.prog 91 22 1:=⟨fun _=>by kernel_rfl,fun _=>by kernel_rfl⟩
instance:LitOf Tryz.prog 91 22 1 [.slice none 0 0]:=⟨fun _=>by kernel_rfl,fun _=>by kernel_rfl,fun _=>⟨(.slice none 0 0:Value),by kernel_rfl,rfl⟩,rfl,by simp[Value.oneCell']⟩
instance:AggOf Tryz.prog 97 true 3:=⟨fun _=>by kernel_rfl,fun _=>by kernel_rfl⟩
instance:ZeroOf Tryz.prog 97 [.string ⟨#[]⟩,.slice none 0 0,.string ⟨#[]⟩]:=⟨fun _=>⟨Value.agg #[.string ⟨#[]⟩,.slice none 0 0,.string ⟨#[]⟩],by kernel_rfl,rfl⟩,by simp[Value.oneCell']⟩
instance:FieldOf Tryz.prog 97 0 0 9:=⟨fun _ _=>by kernel_rfl,fun _ _=>by kernel_rfl⟩
instance:FieldOf Tryz.prog 97 1 1 36:=⟨fun _ _=>by kernel_rfl,fun _ _=>by kernel_rfl⟩
instance:FieldOf Tryz.prog 97 2 2 9:=⟨fun _ _=>by kernel_rfl,fun _ _=>by kernel_rfl⟩
instance:BuildOf Tryz.prog 97 [(0,1),(1,1),(2,1)] [.string ⟨#[]⟩,.slice none 0 0,.string ⟨#[]⟩]:=X1 (z:=Value.agg #[.string ⟨#[]⟩,.slice none 0 0,.string ⟨#[]⟩]) (fs:=Tryz.prog.fieldsOf 97) (fun _=>by kernel_rfl) rfl (fun _=>by kernel_rfl) (fun _=>by kernel_rfl) (by simp[Value.oneCell'])
instance:AggOf Tryz.prog 113 true 2:=⟨fun _=>by kernel_rfl,fun _=>by kernel_rfl⟩
instance:ZeroOf Tryz.prog 113 [.string ⟨#[]⟩,.string ⟨#[]⟩]:=⟨fun _=>⟨Value.agg #[.string ⟨#[]⟩,.string ⟨#[]⟩],by kernel_rfl,rfl⟩,by simp[Value.oneCell']⟩
instance:FieldOf Tryz.prog 113 0 0 9:=⟨fun _ _=>by kernel_rfl,fun _ _=>by kernel_rfl⟩
instance:FieldOf Tryz.prog 113 1 1 72:=⟨fun _ _=>by kernel_rfl,fun _ _=>by kernel_rfl⟩
instance:BuildOf Tryz.prog 113 [(0,1),(1,1)] [.string ⟨#[]⟩,.string ⟨#[]⟩]:=X1 (z:=Value.agg #[.string ⟨#[]⟩,.string ⟨#[]⟩]) (fs:=Tryz.prog.fieldsOf 113) (fun _=>by kernel_rfl) rfl (fun _=>by kernel_rfl) (fun _=>by kernel_rfl) (by simp[Value.oneCell'])
instance:AggOf Tryz.prog 128 false 1:=⟨fun _=>by kernel_rfl,fun _=>by kernel_rfl⟩
instance:AggOf Tryz.prog 129 false 1:=⟨fun _=>by kernel_rfl,fun _=>by kernel_rfl⟩
instance:SliceOf Tryz.prog 129 5 1:=⟨fun _=>by kernel_rfl,fun _=>by kernel_rfl⟩
theorem Tryz.inf129:(Tryz.prog.info? 5).map (fun i=>(i.zero,i.size,i.bytes))=some (some ((.int .u8 0:Value)),1,1):=by kernel_rfl
instance:AppOf Tryz.prog 129 5 1 1:=AJ (z:=(.int .u8 0:Value)) (by kernel_rfl) Tryz.inf129 rfl
instance:LitOf Tryz.prog 129 5 1 [.int .u8 0]:=⟨fun _=>by kernel_rfl,fun _=>by kernel_rfl,fun _=>⟨(.int .u8 0:Value),by kernel_rfl,rfl⟩,rfl,by simp[Value.oneCell']⟩
instance:ZeroOf Tryz.prog 131 [.pointer none,.slice none 0 0]:=⟨fun _=>⟨Value.agg #[.pointer none,.slice none 0 0],by kernel_rfl,rfl⟩,by simp[Value.oneCell']⟩
instance:FieldOf Tryz.prog 131 0 0 128:=⟨fun _ _=>by kernel_rfl,fun _ _=>by kernel_rfl⟩
instance:FieldOf Tryz.prog 131 1 1 129:=⟨fun _ _=>by kernel_rfl,fun _ _=>by kernel_rfl⟩
instance:AggOf Tryz.prog 181 false 1:=⟨fun _=>by kernel_rfl,fun _=>by kernel_rfl⟩
instance:SliceOf Tryz.prog 181 198 1:=⟨fun _=>by kernel_rfl,fun _=>by kernel_rfl⟩
theorem Tryz.inf181:(Tryz.prog.info? 198).map (fun i=>(i.zero,i.size,i.bytes))=some (some ((.int .u64 0:Value)),1,8):=by kernel_rfl
instance:AppOf Tryz.prog 181 198 1 8:=AJ (z:=(.int .u64 0:Value)) (by kernel_rfl) Tryz.inf181 rfl
instance:LitOf Tryz.prog 181 198 1 [.int .u64 0]:=⟨fun _=>by kernel_rfl,fun _=>by kernel_rfl,fun _=>⟨(.int .u64 0:Value),by kernel_rfl,rfl⟩,rfl,by simp[Value.oneCell']⟩
instance:AggOf Tryz.prog 183 true 2:=⟨fun _=>by kernel_rfl,fun _=>by kernel_rfl⟩
instance:ZeroOf Tryz.prog 183 [.bool false,.slice none 0 0]:=⟨fun _=>⟨Value.agg #[.bool false,.slice none 0 0],by kernel_rfl,rfl⟩,by simp[Value.oneCell']⟩
instance:FieldOf Tryz.prog 183 0 0 4:=⟨fun _ _=>by kernel_rfl,fun _ _=>by kernel_rfl⟩
instance:FieldOf Tryz.prog 183 1 1 181:=⟨fun _ _=>by kernel_rfl,fun _ _=>by kernel_rfl⟩
instance:BuildOf Tryz.prog 183 [(0,1),(1,1)] [.bool false,.slice none 0 0]:=X1 (z:=Value.agg #[.bool false,.slice none 0 0]) (fs:=Tryz.prog.fieldsOf 183) (fun _=>by kernel_rfl) rfl (fun _=>by kernel_rfl) (fun _=>by kernel_rfl) (by simp[Value.oneCell'])
instance:AggOf Tryz.prog 198 false 1:=⟨fun _=>by kernel_rfl,fun _=>by kernel_rfl⟩
instance:AggOf Tryz.prog 212 false 1:=⟨fun _=>by kernel_rfl,fun _=>by kernel_rfl⟩
instance:ZeroOf Tryz.prog 212 [.nilFunc]:=⟨fun _=>⟨(.nilFunc:Value),by kernel_rfl,rfl⟩,by simp[Value.oneCell']⟩
instance:AggOf Tryz.prog 236 false 1:=⟨fun _=>by kernel_rfl,fun _=>by kernel_rfl⟩
instance:SliceOf Tryz.prog 236 3 1:=⟨fun _=>by kernel_rfl,fun _=>by kernel_rfl⟩
theorem Tryz.inf236:(Tryz.prog.info? 3).map (fun i=>(i.zero,i.size,i.bytes))=some (some ((.int .i64 0:Value)),1,8):=by kernel_rfl
instance:AppOf Tryz.prog 236 3 1 8:=AJ (z:=(.int .i64 0:Value)) (by kernel_rfl) Tryz.inf236 rfl
instance:LitOf Tryz.prog 236 3 1 [.int .i64 0]:=⟨fun _=>by kernel_rfl,fun _=>by kernel_rfl,fun _=>⟨(.int .i64 0:Value),by kernel_rfl,rfl⟩,rfl,by simp[Value.oneCell']⟩
instance:AggOf Tryz.prog 238 true 2:=⟨fun _=>by kernel_rfl,fun _=>by kernel_rfl⟩
instance:ZeroOf Tryz.prog 238 [.bool false,.slice none 0 0]:=⟨fun _=>⟨Value.agg #[.bool false,.slice none 0 0],by kernel_rfl,rfl⟩,by simp[Value.oneCell']⟩
instance:FieldOf Tryz.prog 238 0 0 4:=⟨fun _ _=>by kernel_rfl,fun _ _=>by kernel_rfl⟩
instance:FieldOf Tryz.prog 238 1 1 236:=⟨fun _ _=>by kernel_rfl,fun _ _=>by kernel_rfl⟩
instance:BuildOf Tryz.prog 238 [(0,1),(1,1)] [.bool false,.slice none 0 0]:=X1 (z:=Value.agg #[.bool false,.slice none 0 0]) (fs:=Tryz.prog.fieldsOf 238) (fun _=>by kernel_rfl) rfl (fun _=>by kernel_rfl) (fun _=>by kernel_rfl) (by simp[Value.oneCell'])
abbrev HZ:=HasBody Tryz.prog
theorem hB (h:∀ w args,(callFunc f args).run P w=.ok (.enter f args) w:=by exact fun _ _=>by kernel_rfl):HasBody P f:=⟨h⟩
instance:HZ 11:=hB
instance:HZ 13:=hB
instance:HZ 14:=hB
instance:HZ 16:=hB
instance:HZ 22:=hB
instance:HZ 25:=hB
instance:HZ 26:=hB
instance:HZ 29:=hB
instance:HZ 33:=hB
instance:HZ 35:=hB
instance:HZ 37:=hB
instance:HZ 38:=hB
instance:HZ 39:=hB
instance:HZ 40:=hB
instance:HZ 44:=hB
instance:HZ 47:=hB
instance:HZ 50:=hB
instance:HZ 54:=hB
instance:HZ 55:=hB
instance:HZ 56:=hB
instance:HZ 57:=hB
instance:HZ 58:=hB
instance:HZ 59:=hB
instance:HZ 61:=hB
instance:HZ 65:=hB
instance:HZ 66:=hB
instance:HZ 68:=hB
instance:HZ 70:=hB
instance:HZ 71:=hB
instance:HZ 76:=hB
instance:HZ 77:=hB
instance:HZ 78:=hB
instance:HZ 79:=hB
instance:HZ 80:=hB
instance:HZ 81:=hB
instance:HZ 82:=hB
instance:HZ 83:=hB
instance:HZ 84:=hB
instance:HZ 85:=hB
instance:HZ 86:=hB
instance:HZ 87:=hB
instance:HZ 88:=hB
instance:HZ 89:=hB
instance:HZ 90:=hB
instance:HZ 91:=hB
instance:HZ 92:=hB
instance:HZ 93:=hB
instance:HZ 94:=hB
instance:HZ 96:=hB
instance:HZ 98:=hB
instance:HZ 99:=hB
instance:HZ 101:=hB
instance:HZ 105:=hB
instance:HZ 106:=hB
instance:HZ 107:=hB
instance:HZ 108:=hB
instance:HZ 109:=hB
instance:HZ 112:=hB
instance:HZ 113:=hB
instance:HZ 119:=hB
instance:HZ 120:=hB
instance:HZ 121:=hB
instance:HZ 124:=hB
instance:HZ 125:=hB
instance:HZ 126:=hB
instance:HZ 127:=hB
instance:HZ 128:=hB
instance:HZ 129:=hB
instance:HZ 130:=hB
instance:HZ 131:=hB
instance:HZ 132:=hB
instance:HZ 133:=hB
instance:HZ 134:=hB
instance:HZ 135:=hB
instance:HZ 136:=hB
instance:HZ 137:=hB
instance:HZ 138:=hB
instance:HZ 139:=hB
instance:HZ 142:=hB
instance:HZ 143:=hB
instance:HZ 144:=hB
instance:HZ 155:=hB
instance:HZ 156:=hB
instance:HZ 157:=hB
instance:HZ 158:=hB
instance:HZ 159:=hB
instance:HZ 160:=hB
instance:HZ 162:=hB
instance:HZ 163:=hB
instance:HZ 164:=hB
instance:HZ 176:=hB
instance:HZ 177:=hB
instance:HZ 178:=hB
instance:HZ 179:=hB
instance:HZ 180:=hB
instance:HZ 181:=hB
instance:HZ 182:=hB
instance:HZ 183:=hB
instance:HZ 184:=hB
instance:HZ 185:=hB
instance:HZ 187:=hB
instance:HZ 188:=hB
instance:HZ 189:=hB
instance:HZ 190:=hB
instance:HZ 192:=hB
instance:HZ 193:=hB
instance:HZ 194:=hB
instance:HZ 195:=hB
instance:HZ 196:=hB
instance:HZ 197:=hB
instance:HZ 198:=hB
instance:HZ 204:=hB
instance:HZ 205:=hB
instance:HZ 206:=hB
instance:HZ 207:=hB
instance:HZ 208:=hB
instance:HZ 209:=hB
instance:HZ 210:=hB
instance:HZ 211:=hB
instance:HZ 219:=hB
instance:HZ 224:=hB
instance:HZ 233:=hB
instance:HZ 235:=hB
instance:HZ 238:=hB
instance:HZ 240:=hB
instance:HZ 241:=hB
instance:HZ 242:=hB
instance:HZ 263:=hB
instance:HZ 264:=hB
theorem Tryz.mixed:Tryz.prog.follows .mixedOrders=true:=by kernel_rfl
end Go.Proofs.YtddfimjiihggmaaGreatDoor.Px
namespace Go.Proofs.YtddfimjiihggmaaGreatDoor
variable {d n:Nat} {b:UInt8}
abbrev F6:=List UInt8
def U7 (b:UInt8):Bool:=decide (48<=b.toNat)&&decide (b.toNat<=57)
def dv (b:UInt8):Nat:=b.toNat-48
def natOf (l:F6):Nat:=l.foldl (fun n b=>10*n+dv b) 0
def dig (d:Nat):UInt8:=UInt8.ofNat (48+d)
def BE (n:Nat):F6:=if _:n=0 then []else BE (n / 10)++[dig (n % 10)]
termination_by n
decreasing_by exact Nat.div_lt_self (by omega) (by omega)
def J3 (z:Int):F6:=if z<0 then 45::BE z.natAbs else BE z.natAbs
def BM (a:F6):F6:=if a.head? = some 45 then a.tail else a
def L9 (a:F6):F6×Bool:=if (BM a).all U7 then ((BM a).dropWhile (· == 48),decide (a.head? = some 45) && !((BM a).dropWhile (· == 48)).isEmpty)else ([],false)
theorem Gc {α:Type} {p:List α->Prop} (h0:p []) (h1:∀ l b,p l->p (l++[b])) (l:List α):p l:=by
 have:∀ r:List α,p r.reverse:=by
  intro r
  induction r with
  | nil=>simpa using h0
  | cons b r ih=>rw[List.reverse_cons];exact h1 _ _ ih
 simpa using this l.reverse
def val (a:F6):Int:=if (L9 a).2 then -(natOf (L9 a).1:Int)else natOf (L9 a).1
theorem DB (h:d<10):(dig d).toNat=48+d:=by
 unfold dig
 rw[UInt8.toNat_ofNat']
 omega
theorem Np (h:d<10):U7 (dig d)=true:=by
 unfold U7
 rw[DB h]
 simp
 omega
theorem Sf (h:d<10):dv (dig d)=d:=by
 unfold dv
 rw[DB h]
 omega
theorem Se (h:U7 b=true):dv b<10:=by
 simp[U7]at h
 unfold dv
 omega
theorem Mh (h:U7 b=true):dig (dv b)=b:=by
 simp[U7]at h
 apply UInt8.toNat_inj.1
 rw[DB (by unfold dv;omega)]
 unfold dv
 omega
theorem S6 (l:F6) (b:UInt8):natOf (l++[b])=10*natOf l+dv b:=by simp[natOf]
theorem EC (l r:F6):natOf (l++r)=natOf l*10 ^ r.length+natOf r:=by
 induction r using Gc with
 | h0=>simp[natOf]
 | h1 r b ih=>
  rw[<-G8,S6,ih,S6,C9,List.length_singleton,Nat.pow_succ]
  rw[Nat.mul_add,<-Nat.mul_assoc,Nat.mul_comm 10 (natOf l),Nat.mul_assoc (natOf l) 10,Nat.mul_comm 10 (10 ^ r.length)]
  omega
theorem O1:BE 0=[]:=by rw[BE];simp
theorem AR (h:n≠0):BE n=BE (n / 10)++[dig (n % 10)]:=by rw[BE];simp[h]
theorem Em (n:Nat):natOf (BE n)=n:=by
 induction n using Nat.strongRecOn with
 | _ n ih=>
  by_cases h:n=0
  . subst h;rw[O1];rfl
  . rw[AR h,S6,ih (n / 10) (Nat.div_lt_self (by omega) (by omega)),Sf (Nat.mod_lt _ (by omega))]
    omega
theorem Jo (n:Nat):(BE n).all U7=true:=by
 induction n using Nat.strongRecOn with
 | _ n ih=>
  by_cases h:n=0
  . subst h;rw[O1];rfl
  . rw[AR h,List.all_append,ih (n / 10) (Nat.div_lt_self (by omega) (by omega))]
    simp[Np (Nat.mod_lt n (by omega:0<10))]
theorem OE:BE n=[]↔n=0:=by
 constructor
 . intro h
   have:=Em n
   rw[h]at this
   exact this.symm
 . rintro rfl;exact O1
theorem LL (n:Nat):(BE n).head? ≠ some 48:=by
 induction n using Nat.strongRecOn with
 | _ n ih=>
  by_cases h:n=0
  . subst h;rw[O1];simp
  . rw[AR h]
    by_cases h':n / 10=0
    . rw[h',O1]
      have hlt:n<10:=by omega
      rw[Nat.mod_eq_of_lt hlt]
      simp only[List.nil_append,List.head?_cons,ne_eq,Option.some.injEq]
      intro e
      have:=G4 UInt8.toNat e
      rw[DB hlt]at this
      simp at this
      omega
    . have h1:=ih (n / 10) (Nat.div_lt_self (by omega) (by omega))
      have h2:BE (n / 10)≠[]:=fun e=>h' (OE.1 e)
      match hd:BE (n / 10),h2,h1 with
      | x::l,_,h1=>simpa using h1
theorem DC {l:F6} (h:l.all U7=true) (h0:l.head? ≠ some 48):BE (natOf l)=l:=by
 induction l using Gc with
 | h0=>exact O1
 | h1 l b ih=>
  rw[List.all_append,D1]at h
  have hb:U7 b=true:=by simpa using h.2
  have hlt:=Se hb
  by_cases hl:l=[]
  . subst hl
    have hne:dv b≠0:=fun e=>by
     apply h0
     have:=Mh hb
     rw[e]at this
     simp[<-this,dig]
    rw[S6]
    have e1:10*natOf []+dv b=dv b:=by simp[natOf]
    show BE (10*natOf []+dv b)=[b]
    rw[e1,AR hne,Nat.div_eq_of_lt hlt,O1,Nat.mod_eq_of_lt hlt,Mh hb]
    rfl
  . have h0':l.head? ≠ some 48:=by
     match l,hl with
     | x::l,_=>simpa using h0
    have ih':=ih h.1 h0'
    have hne:natOf l≠0:=fun e=>by rw[e,O1]at ih';exact hl ih'.symm
    rw[S6,AR (by omega)]
    have e1:(10*natOf l+dv b) / 10=natOf l:=by omega
    have e2:(10*natOf l+dv b) % 10=dv b:=by omega
    rw[e1,e2,ih',Mh hb]
theorem Mf (l:F6):(l.dropWhile (· == 48)).head? ≠ some 48:=by
 induction l with
 | nil=>simp
 | cons x l ih=>
  rw[List.dropWhile_cons]
  split
  . exact ih
  . rename_i h;simpa using h
theorem LI (l:F6):natOf (l.dropWhile (· == 48))=natOf l:=by
 induction l with
 | nil=>rfl
 | cons x l ih=>
  rw[List.dropWhile_cons]
  split
  . rename_i h
    have hx:x=48:=by simpa using h
    rw[ih]
    subst hx
    simp[natOf,dv]
  . rfl
theorem Pc {l:F6} (h:l.all U7=true):(l.dropWhile (· == 48)).all U7=true:=by
 rw[E5]at h ⊢
 exact fun x hx=>h x ((List.dropWhile_sublist _).mem hx)
theorem LJ {l:F6} (h:l.head? ≠ some 48):l.dropWhile (· == 48)=l:=by
 match l,h with
 | [],_=>rfl
 | x::l,h=>rw[List.dropWhile_cons,B5 (by simpa using h)]
theorem U8 (a:F6):(L9 a).1.all U7=true:=by
 unfold L9
 split
 . rename_i h;exact Pc h
 . rfl
theorem Bg (a:F6):(L9 a).1.head? ≠ some 48:=by
 unfold L9
 split
 . exact Mf _
 . simp
theorem Jn {a:F6} (h:(L9 a).2=true):(L9 a).1≠[]:=by
 unfold L9 at h ⊢
 split at h
 . rename_i h1
   rw[B9 h1]
   simp only[D1,Bool.not_eq_true',List.isEmpty_eq_false_iff]at h
   exact h.2
 . cases h
theorem BW (a:F6):natOf (L9 a).1=(val a).natAbs:=by unfold val;split<;>omega
theorem dec_dgs (a:F6):BE (val a).natAbs=(L9 a).1:=by rw[<-BW];exact DC (U8 a) (Bg a)
theorem JZ (a:F6):(L9 a).2=decide (val a<0):=by
 cases h:(L9 a).2 with
 | true=>
  have h1:=Jn h
  have h2:natOf (L9 a).1≠0:=fun e=>h1 (by rw[<-DC (U8 a) (Bg a),e,O1])
  unfold val
  rw[B9 h]
  simp
  omega
 | false=>
  unfold val
  rw[B5 (by rw[h];simp)]
  simp
theorem Bi (a:F6):J3 (val a)=if (L9 a).2 then 45::(L9 a).1 else (L9 a).1:=by
 unfold J3
 rw[dec_dgs,JZ]
 by_cases h:val a<0<;>simp[h]
theorem head45 (n:Nat):(BE n).head? ≠ some 45:=by
 intro h
 have h1:=Jo n
 match hd:BE n,h,h1 with
 | x::l,h,h1=>
  simp at h
  subst h
  simp[U7]at h1
theorem Pe (z:Int):L9 (J3 z)=(BE z.natAbs,decide (z<0)):=by
 by_cases h:z<0
 . have h1:J3 z=45::BE z.natAbs:=by rw[J3,B9 h]
   have h2:BE z.natAbs≠[]:=fun e=>by have:=OE.1 e;omega
   unfold L9
   rw[h1]
   simp only[BM,List.head?_cons,if_true,List.tail_cons,Jo,LJ (LL _),h,decide_true,Bool.true_and]
   cases hd:BE z.natAbs with
   | nil=>exact G5 hd h2
   | cons x l=>rfl
 . have h1:J3 z=BE z.natAbs:=by rw[J3,B5 h]
   unfold L9
   rw[h1]
   simp only[BM,head45,if_false,Jo,if_true,LJ (LL _),h,decide_false,Bool.false_and]
theorem R5 (z:Int):val (J3 z)=z:=by
 unfold val
 rw[Pe]
 simp only[Em,decide_eq_true_eq]
 split<;>omega
theorem Pk {y z:Int} (h:J3 y=J3 z):y=z:=by rw[<-R5 y,h,R5]
def Cu (a:F6):Bool:=decide (J3 (val a)=a)
theorem Ct (z:Int):Cu (J3 z)=true:=by unfold Cu;rw[R5];simp
theorem SM {a:F6} (h:Cu a=true):J3 (val a)=a:=by simpa[Cu]using h
theorem S9:J3 0=[]:=by simp[J3,O1]
theorem Ey {z:Int}:J3 z=[]↔z=0:=by
 constructor
 . intro h;apply Pk;rw[h,S9]
 . rintro rfl;exact S9
end Go.Proofs.YtddfimjiihggmaaGreatDoor