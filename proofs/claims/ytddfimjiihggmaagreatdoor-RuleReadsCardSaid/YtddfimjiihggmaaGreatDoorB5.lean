/- Ranges over functions: iterators as data, rounds as code that is handed the boxes. -/
import Derived.Test.YtddfimjiihggmaaGreatDoorB4
import Derived.OrdersHeld
set_option maxHeartbeats 16000000
set_option maxRecDepth 20000
namespace Go.Proofs.YtddfimjiihggmaaGreatDoor.Px
open Go.RowKit
variable {w w':World} {a:Act} {g:Gh} {st st':PS} {l:List Oper} {B id b n d0:Nat} {v:Value} {seen:Array Nat} {P:Program} {c:Code} {F:Nat->Nat->Prop} {fs:List (Value×DV)} {xs:List (List Value)} {w0:Cx} {S:List (Nat×SV)} {af:Array Edge} {d:Option Nat} {ds:List DV} {y:Operand} {o:Oper} {x:SV}
def Mx (P:Program) (gf:FuncId) (lb:Array Value) (xs:List (List Value)) (F:Nat->Nat->Prop) (w:World):Prop:=
 ∀ (l:Nat) (J:Nat->World->Prop) (Jx:World->Prop),
  (∀ i A A',J i A->Below A.heap.size A A'->J i A')->(∀ A A',Jx A->Below A.heap.size A A'->Jx A') →
  (∀ i x A,xs[i]? = some x->J i A->YieldAt Fence.wide 0 P l x.toArray A fun e A'=>(e=.returned (.bool true)∧J (i+1) A'∧Kp F A F A'∧GlobOk F A')∨(e=.returned (.bool false)∧Jx A')) →
  GlobOk F w->J 0 w->CallsIn Fence.wide 0 P gf (#[.func (.yield l) #[] #[]]++lb) w fun e w'=>(∃ v,e=.returned v)∧(J xs.length w'∨Jx w')
def ItR (P:Program) (xs:List (List Value)) (F:Nat->Nat->Prop) (w:World) (v:Value):Prop:=
 ∃ gf lb,v=.func (.func gf) #[] lb∧(∀ args w,(callFunc gf args).run P w=.ok (.enter gf args) w) ∧ ∀ F' w',Kp F w F' w'->Mx P gf lb xs F' w'
def dIt (P:Program) (xs:List (List Value)):DV:=.abs (ItR P xs)
theorem DRep.of_it (h:ItR P xs F w v):DRep F w v (dIt P xs):=by
 refine .abs (fun F1 F2 w1 w2 u ⟨gf,lb,h1,h2,h3⟩ k=>⟨gf,lb,h1,h2,fun F' w' k'=>h3 F' w' (k.trans k')⟩) ?_ h
 obtain⟨gf,lb,rfl,-,-⟩:=h
 rfl
theorem DRep.it (h:DRep F w v (dIt P xs)):ItR P xs F w v:=by
 cases h with
 | abs _ _ h=>exact h
section
variable {Q:Exit->PS->Prop}
theorem pw_it1 (s i:Nat) {f:FuncId} (xs:List (List Value)) {cs:List SV} [hB:HasBody P f] (hspec:∀ F w p,DRep F w p (.ref ds)->Mx P f #[p] xs F w) (hi:st.bget i=some cs) (hds:Ag cs=some ds) (hs:st.get s=.fn f [i]) (h:PW P B w0 c Q ((st.kill i).put (some s) (.d (dIt P xs)))) (hlt:Nat.blt i 500000=true:=by rfl):PW P B w0 c Q st:=fun g a w hr=>by
 have hlt5:i<500000:=C0 hlt
 clear hlt
 obtain⟨ev,hr'⟩:=hr.kill i
 have hv:=hr.slots s
 rw[hs]at hv
 obtain⟨bs,h1,h2,h3⟩:=hv
 obtain⟨b,rfl⟩:∃ b,bs=[b]:=Ry h2
 have hb:=h3 0 b i rfl rfl
 have href:DRep (Fx (g.delb i)) w (.pointer (some ⟨b,0,none⟩)) (.ref ds):=by
  obtain⟨b',xs,T,q1,q2,q3,q4,q5⟩:=hr.boxes i cs hi hlt5
  rw[hb]at q1
  cases q1
  obtain⟨t1,t2⟩:=Y0 hds
  refine .ref (fun j=>(xs[j]?).getD undef) (fun j hj=>?_) fun j x hx=>?_
  . obtain⟨u,hu⟩:∃ u,xs[j]? = some u:=⟨_,Array.getElem?_eq_getElem (by omega)⟩
    refine⟨?_,⟨(hr.blk i b hb).1 _,fun k hk=>?_,fun t T n' c' hT hTv=>?_⟩,?_⟩
    . rw[hu,AC,BP q2,E4,hu];rfl
    . obtain⟨h5,h6⟩:=Gh.delb_bl hk
      exact h6 (hr.inj k i b h5 hb)
    . exact G5 hb ((hr.toks t T hT).2 i b (by rw[hTv];rfl))
    . rw[hu];exact q5 j u (by omega) hu
  . obtain⟨c0,t3,t4⟩:=t2 j x hx
    obtain⟨u,t5,t6⟩:=q4 j c0 t3
    rw[t5]
    exact(t6.toD t4).mono ev.fx
 have hd:DRep (Fx (g.delb i)) w (a.tmps.getD s undef) (dIt P xs):=by
  rw[h1]
  exact DRep.of_it ⟨f,#[.pointer (some ⟨b,0,none⟩)],C,fun args w=>hB.run w args,fun F' w' k=>hspec F' w' _ (href.mono k)⟩
 refine h _ a w { hr' with lim:=hr'.lim,size:=hr'.size,boxes:=hr'.boxes,maps:=hr'.maps,dom:=hr'.dom,tdom:=hr'.tdom,tlen:=hr'.tlen,glob:=hr'.glob,slots:=fun j=>?_ }
 rw[Q5]
 by_cases e:j=s
 . rw[B9 e,e];exact hd
 . rw[B5 e];exact hr'.slots j
end
theorem Rep.rl {w1:World} {g1:Gh} {r:Option Nat} {d:Nat} {hd:d<=w1.heap.size} (h:Rep B ⟨w1,g1,r,d,hd⟩ g st a w) (r':Option Nat):Rep B ⟨w1,g1,r',d,hd⟩ g st a w:=
 ⟨h.evo,h.base,h.f0,h.lim,h.size,h.defers,h.slots,h.boxes,h.maps,h.blk,h.dom,h.inj,h.toks,h.tf0,h.telt,h.tdis,h.tdom,h.tlen,h.glob,h.gown,h.ghp⟩
theorem Rep.mark (h:Rep B w0 g st a w) {ds:List Deferred} (hd:Dfr w0 g w ds):Rep B w0 g st { a with defers:=ds } w:=
 { h with size:=h.size,slots:=h.slots,defers:=hd }
theorem Rep.not_tok (h:Rep B w0 g st a w) (hb:w.heap.size<=b):(∀ i,g.bl i≠some b) ∧ ∀ t T,g.tk t=some T->T.v.ownBlock≠some b:=by
 refine⟨fun i hi=>?_,fun t T hT e=>?_⟩
 . have:=(h.blk i b hi).2;omega
 . obtain⟨⟨n,xs,h1⟩,-⟩:=h.toks t T hT
   have:=(h1.lt b e).2
   omega
def Ms:Code->Option (List (Nat×Nat))
 | .skip=>some []
 | .region _ ops false=>match ops.toList with
  | [⟨some d,.assign (.tmp t),_,_,_,none⟩]=>some [(d,t)]
  | _=>none
 | .seq x y=>match Ms x,Ms y with
  | some l,some l'=>some (l++l')
  | _,_=>none
 | _=>none
def Ft (l:List (Nat×Nat)) (T:Array Value):Array Value:=l.foldl (fun T p=>T.setIfInBounds p.1 (T.getD p.2 undef)) T
theorem LR (l l':List (Nat×Nat)) (T:Array Value):Ft (l++l') T=Ft l' (Ft l T):=List.foldl_append ..
theorem Ss {rl:Option Nat}:∀ {l:List (Nat×Nat)} {T:Array Value} {W:World} {Q:Exit->Act->World->Prop},Ms c=some l->Q .normal { tmps:=Ft l T,defers:=[] } W->c.wpIn (rF rl) n P Q { tmps:=T,defers:=[] } W:=by
 induction c with
 | skip=>intro l T W Q h hq;cases h;exact wpIn_skip hq
 | region id ops b=>
  intro l T W Q h hq
  cases b with
  | true=>cases h
  | false=>
   unfold Ms at h
   split at h
   . rename_i d t ty pos af e
     cases h
     refine wpIn_region_list ?_
     rw[e]
     unfold wpListIn
     rw[B9 (by unfold Region.wanted;rfl)]
     refine⟨fun _ _=>trivial,?_⟩
     rw[Oper.semAt_eq _ _ _ (fun c e=>by cases e)]
     exact hq
   . cases h
 | seq x y ihx ihy=>
  intro l T W Q h hq
  unfold Ms at h
  split at h
  . rename_i l1 l2 e1 e2
    cases h
    rw[LR]at hq
    exact wpIn_seq (ihx e1 (ihy e2 hq))
  . cases h
 | _=>intro l T W Q h;cases h
theorem Bd (T:Array Value) (e j:Nat) (v:Value) (he:e<T.size):(T.setIfInBounds e v).getD j undef=if j=e then v else T.getD j undef:=Hb _ _ _ _ _ he
def GR (ps:List Nat) (x:List Value) (T:Array Value):Array Value:=(ps.toArray.zip x.toArray).foldl (fun t (p,v)=>t.setIfInBounds p v) T
theorem zipA_eq (ps:List Nat) (x:List Value) (T:Array Value):GR ps x T=(ps.zip x).foldl (fun t p=>t.setIfInBounds p.1 p.2) T:=by
 unfold GR
 rw[List.zip_toArray,List.foldl_toArray]
theorem IF (ps:List Nat):∀ (x:List Value) (T:Array Value),(∀ p∈ps,p<T.size)->ps.Nodup->(GR ps x T).size=T.size∧(∀ j,j ∉ ps->(GR ps x T).getD j undef=T.getD j undef) ∧ ∀ (k:Nat) p v,ps[k]? = some p->x[k]? = some v->(GR ps x T).getD p undef=v:=by
 simp only[zipA_eq]
 induction ps with
 | nil=>intro x T _ _;exact⟨rfl,fun _ _=>C,fun k p v h=>by simp at h⟩
 | cons q ps ih=>
  intro x T hb hn
  cases x with
  | nil=>exact⟨rfl,fun _ _=>C,fun k p v _ h=>by simp at h⟩
  | cons u x=>
   obtain⟨hn1,hn2⟩:=List.nodup_cons.1 hn
   have hq:q<T.size:=hb q (List.mem_cons_self ..)
   obtain⟨h1,h2,h3⟩:=ih x (T.setIfInBounds q u) (fun p hp=>by simpa using hb p (List.mem_cons_of_mem _ hp)) hn2
   rw[List.zip_cons_cons,List.foldl_cons]
   refine⟨by rw[h1];simp,fun j hj=>?_,fun k p v hp hv=>?_⟩
   . rw[h2 j (fun h=>hj (List.mem_cons_of_mem _ h)),Bd _ _ _ _ hq,B5 (fun e:j=q=>hj (by rw[e];exact List.mem_cons_self ..))]
   . cases k with
     | zero=>
      simp only[List.getElem?_cons_zero,Option.some.injEq]at hp hv
      subst hp hv
      rw[h2 _ hn1,Bd _ _ _ _ hq,B9 rfl]
     | succ k=>exact h3 k p v (by simpa using hp) (by simpa using hv)
theorem Iu:∀ (l:List (Nat×Nat)) (T:Array Value),(∀ p∈l,p.1<T.size)->(l.map (·.1)).Nodup->(∀ p∈l,∀ q∈l,p.2≠q.1)->(Ft l T).size=T.size∧(∀ j,j ∉ l.map (·.1)->(Ft l T).getD j undef=T.getD j undef) ∧ ∀ d t,(d,t)∈l->(Ft l T).getD d undef=T.getD t undef:=by
 intro l
 induction l with
 | nil=>intro T _ _ _;exact⟨rfl,fun _ _=>rfl,fun d t h=>by cases h⟩
 | cons p l ih=>
  intro T hb hn hd
  rw[List.map_cons,List.nodup_cons]at hn
  obtain⟨d0,t0⟩:=p
  have h0:d0<T.size:=hb _ (List.mem_cons_self ..)
  obtain⟨h1,h2,h3⟩:=ih (T.setIfInBounds d0 (T.getD t0 undef)) (fun p hp=>by simpa using hb p (List.mem_cons_of_mem _ hp)) hn.2 (fun p hp q hq=>hd p (List.mem_cons_of_mem _ hp) q (List.mem_cons_of_mem _ hq))
  show(Ft l (T.setIfInBounds d0 (T.getD t0 undef))).size=_∧_
  refine⟨by rw[h1];simp,fun j hj=>?_,fun d t h=>?_⟩
  . rw[List.map_cons,List.mem_cons,not_or]at hj
    show(Ft l (T.setIfInBounds d0 (T.getD t0 undef))).getD j undef=_
    rw[h2 j hj.2,Bd _ _ _ _ h0,B5 hj.1]
  . show(Ft l (T.setIfInBounds d0 (T.getD t0 undef))).getD d undef=_
    rcases List.mem_cons.1 h with e|h
    . have e1:d=d0:=G4 Prod.fst e
      have e2:t=t0:=G4 Prod.snd e
      rw[e1,e2,h2 d0 hn.1,Bd _ _ _ _ h0,B9 rfl]
    . rw[h3 d t h,Bd _ _ _ _ h0,B5]
      exact hd _ (List.mem_cons_of_mem _ h) _ (List.mem_cons_self ..)
inductive ArgR (st:PS) (no:List Nat) (nw:List (Nat×Value)):Nat->List SV->Prop
 | nil {j:Nat}:ArgR st no nw j []
 | any {j:Nat} {l:List SV} (h:ArgR st no nw (j+1) l):ArgR st no nw j (.any::l)
 | keep {j:Nat} {x:SV} {l:List SV} (hn:no.contains j=false) (hx:SVle (st.get j) x) (h:ArgR st no nw (j+1) l):ArgR st no nw j (x::l)
 | new {j:Nat} {v:Value} {l:List SV} (hv:G1 nw j=some v) (ho:v.oneCell'=true) (h:ArgR st no nw (j+1) l):ArgR st no nw j (.d (.val v)::l)
theorem ArgR.get {no:List Nat} {nw:List (Nat×Value)} {j:Nat} {l:List SV} (h:ArgR st no nw j l):∀ (k:Nat) x,l[k]? = some x->x=.any∨(j+k ∉ no∧SVle (st.get (j+k)) x) ∨ ∃ v,G1 nw (j+k)=some v∧v.oneCell'=true∧x=.d (.val v):=by
 induction h with
 | nil=>intro k x h;simp at h
 | any _ ih=>
  intro k x h
  cases k with
  | zero=>simp at h;exact .inl h.symm
  | succ k=>have:=ih k x (by simpa using h);rwa [Nat.add_assoc,Nat.add_comm 1]at this
 | keep hn hx _ ih=>
  intro k x h
  cases k with
  | zero=>
   simp at h
   subst h
   refine .inr (.inl ⟨fun hm=>?_,hx⟩)
   rw[Nat.add_zero]at hm
   rw[List.contains_iff_mem.2 hm]at hn
   cases hn
  | succ k=>have:=ih k x (by simpa using h);rwa [Nat.add_assoc,Nat.add_comm 1]at this
 | new hv ho _ ih=>
  intro k x h
  cases k with
  | zero=>simp at h;subst h;exact .inr (.inr ⟨_,hv,ho,C⟩)
  | succ k=>have:=ih k x (by simpa using h);rwa [Nat.add_assoc,Nat.add_comm 1]at this
def QRd (N:Prop) (Q:Exit->PS->Prop) (n:Nat) (S:List (Nat×SV)) (bs:List (Nat×List SV)) (ts:List (Nat×Nat)) (bn:List (Nat×List SV)) (tn:List (Nat×Nat)):Exit->PS->Prop
 | .normal,s=>N∧EM s (Gf bn)∧EK s (Ge tn)
 | .ret,s=>∃ b' t',EM s (Gf b')∧EK s (Ge t')∧b'.map (·.1)=bs.map (·.1)∧t'.map (·.1)=ts.map (·.1)∧EO [] bs ts b'=true∧Q .ret ⟨n,S,b',t'⟩
 | .exit id,s=>∃ b' t',EM s (Gf b')∧EK s (Ge t')∧b'.map (·.1)=bs.map (·.1)∧t'.map (·.1)=ts.map (·.1)∧EO [] bs ts b'=true∧Q (.exit id) ⟨n,S,b',t'⟩
 | _,_=>False
theorem Gt {bs bn:List (Nat×List SV)} {ts tn:List (Nat×Nat)} (hb:bn.map (·.1)=bs.map (·.1)) (ht:tn.map (·.1)=ts.map (·.1)):(∀ i,(⟨n,S,bn,tn⟩:PS).bget i=((⟨n,S,bs,ts⟩:PS).puts bn tn).bget i) ∧ ∀ t,(⟨n,S,bn,tn⟩:PS).tget t=((⟨n,S,bs,ts⟩:PS).puts bn tn).tget t:=by
 refine⟨fun i=>?_,fun t=>?_⟩
 . show G1 bn i=G1 (bn++bs) i
   rw[BH]
   by_cases h:i∈bn.map (·.1)
   . obtain⟨x,hx⟩:=O6 h;rw[hx];rfl
   . rw[AZ h,AZ (hb ▸ h)];rfl
 . show G1 tn t=G1 (tn++ts) t
   rw[BH]
   by_cases h:t∈tn.map (·.1)
   . obtain⟨x,hx⟩:=O6 h;rw[hx];rfl
   . rw[AZ h,AZ (ht ▸ h)];rfl
theorem Ig {l:List Nat} {a:Nat} (h:a∈l):l[l.idxOf a]? = some a:=by
 induction l with
 | nil=>cases h
 | cons b l ih=>
  rw[List.idxOf_cons]
  by_cases e:b=a
  . subst e;simp
  . rw[show(b==a)=false by simpa using e,cond_false,List.getElem?_cons_succ]
    exact ih (by rcases List.mem_cons.1 h with h|h;exact G5 h.symm e;exact h)
def nwOf (ps:List Nat) (asg:List (Nat×Nat)) (x:List Value):List (Nat×Value):=asg.map fun p=>(p.1,(x[ps.idxOf p.2]?).getD undef)
theorem RY (h:w'.heap.size=w.heap.size):R4 g w' b↔R4 g w b:=by unfold R4;rw[h]
theorem DU (l:List SV) (k j:Nat):(match G1 (FA 0 ((l++List.replicate k SV.any).map SV.sh)) j with|some x=>x|none=>.any)=(match G1 (FA 0 (l.map SV.sh)) j with|some x=>x|none=>.any):=by
 rw[FB,FB]
 simp only[E7,if_true,Nat.sub_zero]
 rw[List.map_append,List.map_replicate]
 by_cases h:j<(l.map SV.sh).length
 . rw[F3 h]
 . rw[E9 (by omega),I0 (l:=l.map SV.sh) (by omega)]
   by_cases h2:j-(l.map SV.sh).length<k
   . rw[List.getElem?_replicate,B9 h2];rfl
   . rw[List.getElem?_replicate,B5 h2]
theorem pw_rf {Q:Exit->PS->Prop} {gv:Operand} {ps:List Nat} {assign body:Code} (xs:List (List Value)) (asg:List (Nat×Nat)) (I:Nat->Prop) (bI:Nat->List (Nat×List SV)) (tI:Nat->List (Nat×Nat))
 (hI:I 0) (hrl:w0.rl=none) (hg:PS.ev ⟨n,S,bI 0,tI 0⟩ gv=.d (dIt P xs)) (hlen:∀ x∈xs,x.length=ps.length) (hasg:Ms assign=some asg)
 (hbd:(ps.all (fun p=>Nat.blt p n)&&asg.all (fun p=>Nat.blt p.1 n))=true) (hnd:ps.Nodup∧(asg.map (·.1)).Nodup∧(∀ p∈asg,∀ q∈asg,p.2≠q.1)∧(∀ p∈asg,p.2∈ps)∧(∀ p∈asg,p.1 ∉ ps))
 (hround:∀ i x,xs[i]? = some x->I i->∃ args:List SV,args.length<=n∧ArgR ⟨n,S,bI i,tI i⟩ (ps++asg.map (·.1)) (nwOf ps asg x) 0 args∧(bI (i+1)).map (·.1)=(bI i).map (·.1)∧(tI (i+1)).map (·.1)=(tI i).map (·.1)∧EO args (bI i) (tI i) (bI (i+1))=true ∧
  ∀ B w0,PW P B w0 body (QRd (I (i+1)) Q n S (bI i) (tI i) (bI (i+1)) (tI (i+1))) ⟨n,FA 0 (args.map SV.sh),Gf (bI i),Ge (tI i)⟩)
 (hdone:I xs.length->Q .normal ⟨n,S,bI xs.length,tI xs.length⟩):PW P B w0 (.rangeFunc gv ps.toArray assign body) Q ⟨n,S,bI 0,tI 0⟩:=fun g a w hr=>by
 rw[hrl]
 have hi:=hr.eval gv
 rw[hg]at hi
 obtain⟨gf,lb,hv,hrun,hspec⟩:=DRep.it hi
 rw[D1,E5,E5]at hbd
 have hbd1:∀ p∈ps,p<n:=fun p hp=>C0 (hbd.1 p hp)
 have hbd2:∀ p∈asg,p.1<n:=fun p hp=>C0 (hbd.2 p hp)
 obtain⟨hn1,hn2,hn3,hn4,hn5⟩:=hnd
 refine wpIn_rangeFunc ?_
 intro fn hfn
 obtain⟨rec,hrec⟩:∃ rec:LoopState->Option Code->Loop,rec=fun st pe=>{ state:=st,pending:=pe,fn,tmps:=a.tmps,params:=ps.toArray,assign,body,defers:=w.heap.size }:=⟨_,rfl⟩
 obtain⟨W1,hW1⟩:∃ W1,(w.alloc (.deferred (some []))).alloc (.loop (rec .ready none))=W1:=⟨_,rfl⟩
 have hL1:W1.heap[w.heap.size+1]? = some (.loop (rec .ready none)):=by
  rw[<-hW1];have:=World.alloc_heap_new (w.alloc (.deferred (some []))) (.loop (rec .ready none));rwa [World.size_alloc]at this
 have hK1:W1.heap[w.heap.size]? = some (.deferred (some [])):=by
  rw[<-hW1];exact(Below.heap_alloc _ _ _ (by simp)).trans (World.alloc_heap_new w _)
 have hb1:Below w.heap.size w W1:=by
  rw[<-hW1];exact((Below.refl _ w).alloc (E0 _) _).alloc (by simp) _
 have hsz:W1.heap.size=w.heap.size+2:=by rw[<-hW1];simp
 have hw0:w0.w.heap.size<=w.heap.size:=hr.evo.bel.size
 obtain⟨nb,nt⟩:=hr.not_tok (E0 w.heap.size)
 obtain⟨nb',nt'⟩:=hr.not_tok (Nat.le_succ w.heap.size)
 have hoD:¬ R4 g W1 w.heap.size:=fun ho=>by
  rcases ho with q|⟨i,q⟩|⟨t,T,q1,q2⟩
  . omega
  . exact nb i q
  . exact nt t T q1 q2
 have hoL:¬ R4 g W1 (w.heap.size+1):=fun ho=>by
  rcases ho with q|⟨i,q⟩|⟨t,T,q1,q2⟩
  . omega
  . exact nb' i q
  . exact nt' t T q1 q2
 have hr1:=hr.grow hb1
 have hdef:Dfr w0 g W1 ({ target:=.collected w.heap.size,args:=#[] }::a.defers):=by
  refine⟨List.nodup_cons.2 ⟨fun hm=>?_,hr1.defers.1⟩,fun d hd=>?_⟩
  . obtain⟨D,q1,q2,-,-⟩:=hr.defers.2 _ hm
    have:D=w.heap.size:=by injection q1 with q1 _;injection q1 with q1;exact q1.symm
    subst this
    have:=(D2.1 q2).1
    omega
  . rcases List.mem_cons.1 hd with rfl|hd
    . exact⟨_,C,hK1,hoD,D9 w0.hd hw0⟩
    . exact hr1.defers.2 d hd
 have hr2:=hr1.mark hdef
 obtain⟨a',ha'⟩:∃ a':Act,a'={ a with defers:={ target:=.collected w.heap.size,args:=#[] }::a.defers }:=⟨_,rfl⟩
 have hta:a'.tmps=a.tmps:=by rw[ha']
 have hF':Kp (Fx g) w (fun b o=>Fx g b o∧(Z3 W1 b o).isSome) W1:=fun b o hf hs=>by
  have e:=L3 (hb1.block b (Y1 hs)) o
  exact⟨⟨hf,by rw[e];exact hs⟩,e⟩
 have own_l:∀ {G:Gh} {X Y:World},¬ R4 G X (w.heap.size+1)->w.heap.size+1<X.heap.size->X.heap.size<=Y.heap.size->¬ R4 G Y (w.heap.size+1):=fun hn hx hy ho=>by
  rcases ho with q|q|q
  . omega
  . exact hn (.inr (.inl q))
  . exact hn (.inr (.inr q))
 have lt_l:∀ {X:World} {L:Loop},X.heap[w.heap.size+1]? = some (.loop L)->w.heap.size+1<X.heap.size:=fun h=>(D2.1 h).1
 have turn:∀ {G:Gh} {s:PS} {X:World} {L L':Loop},Rep B w0 G s a' X->X.heap[w.heap.size+1]? = some (.loop L)->¬ R4 G X (w.heap.size+1)->Rep B w0 G s a' (X.putObj (w.heap.size+1) (.loop L'))∧(X.putObj (w.heap.size+1) (.loop L')).heap[w.heap.size+1]? = some (.loop L') ∧ ¬ R4 G (X.putObj (w.heap.size+1) (.loop L')) (w.heap.size+1) ∧ ∀ b o,Z3 (X.putObj (w.heap.size+1) (.loop L')) b o=Z3 X b o:=fun {G s X L L'} h1 h2 h3=>by
  refine⟨h1.hide h2 (fun _ _ _ e=>by cases e) (fun _ _ e=>by cases e) (fun _ _ _ e=>by cases e) (fun _ _ e=>by cases e) h3 (by omega) ⟨h1.defers.1,fun d hd=>⟨hd,fun e=>?_⟩⟩,World.putObj_heap_same (lt_l h2),fun ho=>h3 ((RY (by simp)).1 ho),fun b o=>JI h2 (fun _ _ _ e=>by cases e) (fun _ _ e=>by cases e) (fun _ _ _ e=>by cases e) (fun _ _ e=>by cases e)⟩
  obtain⟨D,q1,q2,-,-⟩:=h1.defers.2 d hd
  rw[q1]at e
  have:D=w.heap.size+1:=by injection e with e _;injection e
  rw[this,h2]at q2
  cases q2
 refine⟨w.heap.size+1,[{ target:=.collected w.heap.size,args:=#[] }],W1,{ target:=.fn (.func gf) lb,args:=#[.func (.yield (w.heap.size+1)) #[] #[]] },W1,gf,#[.func (.yield (w.heap.size+1)) #[] #[]]++lb,W1,?_,?_,fun _ _=>trivial,?_,fun h=>(by cases h),?_⟩
 . rw[<-hW1,hrec];exact run_enterLoop_outer _ _ _ _ _
 . simp only[resolve,hv]
   simp[go_sem]
 . simp[invoke,go_sem,hrun]
 have hgo1:GlobOk (fun b o=>Fx g b o∧(Z3 W1 b o).isSome) W1:=hr1.gok.mono fun b o hf hs=>⟨⟨hf,hs⟩,rfl⟩
 refine Dn.2 (callsIn_wide.1 ((hspec _ W1 hF' (w.heap.size+1)
  (fun i A=>I i ∧ ∃ g',Rep B w0 g' ⟨n,S,bI i,tI i⟩ a' A∧Kp (Fx g) W1 (Fx g') A∧A.heap[w.heap.size+1]? = some (.loop (rec .ready none)) ∧ ¬ R4 g' A (w.heap.size+1))
  (fun A=>∃ g' c e s,((e=Exit.ret∧c=Code.ret) ∨ ∃ id,e=Exit.exit id∧c=Code.exit id)∧Rep B w0 g' s a' A∧Q e s∧A.heap[w.heap.size+1]? = some (.loop (rec .done (some c))) ∧ ¬ R4 g' A (w.heap.size+1))
  ?_ ?_ ?_ ?_ ?_).mono ?_))
 . rintro i A A' ⟨hii,g',h1,h2,h3,h4⟩ hb
   exact⟨hii,g',h1.grow hb,h2.trans (Ext.grow h1 hb).fx,(hb.block _ (lt_l h3)).trans h3,own_l h4 (lt_l h3) hb.size⟩
 . rintro A A' ⟨g',c,e,s,hm,h1,hq,h3,h4⟩ hb
   exact⟨g',c,e,s,hm,h1.grow hb,hq,(hb.block _ (lt_l h3)).trans h3,own_l h4 (lt_l h3) hb.size⟩
 . -- one round
   rintro i x A hx ⟨hii,g',h1,h2,h3,h4⟩
   obtain⟨args,ha1,ha2,ha3,ha4,ha5,hpw⟩:=hround i x hx hii
   have hxl:=hlen x (B8 hx)
   have hsT:a.tmps.size=n:=hr.size
   obtain⟨z1,z2,z3⟩:=IF ps x a.tmps (fun p hp=>by rw[hsT];exact hbd1 p hp) hn1
   obtain⟨y1,y2,y3⟩:=Iu asg (GR ps x a.tmps) (fun p hp=>by rw[z1,hsT];exact hbd2 p hp) hn2 hn3
   obtain⟨T,hT⟩:=H8 (Ft asg (GR ps x a.tmps))
   rw[<-hT]at y1 y2 y3
   have hTs:T.size=n:=by rw[y1,z1,hsT]
   refine⟨fn,GR ps x a.tmps,assign,body,?_,roundIn_of_wpIn hfn ?_⟩
   . have:=run_yield (P:=P) (args:=x.toArray) h3 (by rw[hrec];simpa using hxl)
     rw[hrec]at this
     exact this
   refine Ss (rl:=some (w.heap.size+1)) hasg ?_
   rw[<-hT]
   obtain⟨hr3,hl3,ho3,hs3⟩:=turn (L':={ rec .ready none with state:=.busy }) h1 h3 h4
   refine⟨_,run_beginRound h3 (by rw[hrec]),?_⟩
   obtain⟨A3,hA3⟩:=H8 (A.putObj (w.heap.size+1) (.loop { rec .ready none with state:=.busy }))
   rw[<-hA3]at hr3 hl3 ho3 hs3 ⊢
   unfold EO at ha5
   simp only[D1,E5]at ha5
   obtain⟨⟨⟨f1,f2⟩,f3⟩,f4⟩:=ha5
   have hFit:Fit ⟨n,S,bI i,tI i⟩ (bI i) (tI i):=⟨fun i cs hi=>hi,fun t n ht=>ht,fun p hp=>f1 p hp,fun p hp=>f2 p hp⟩
   have hpass:=hr3.pass hFit (vals:=T.toList) (args:=args++List.replicate (n-args.length) .any) (n:=n) (m:=n) rfl (by simp;omega) hr3.lim (by simp;omega) (fun j v sx hv hsx=>by
    have hjl:j<T.size:=by simpa using (A6.1 hv).1
    have hvj:v=T.getD j undef:=by
     rw[Array.getElem?_toList]at hv
     simp[Array.getD,hjl]
     simpa[hjl]using hv.symm
    by_cases hj:j<args.length
    . rw[F3 hj]at hsx
      rcases ha2.get j sx hsx with e|⟨e1,e2⟩|⟨u,e1,e2,e3⟩
      . rw[e];trivial
      . rw[E4]at e1 e2
        rw[List.mem_append,not_or]at e1
        rw[hvj,y2 j e1.2,z2 j e1.1]
        have:=hr3.slots j
        rw[hta]at this
        exact this.le e2
      . rw[E4]at e1
        obtain⟨p,hp,q⟩:=H2.1 (M9 e1)
        have q1:p.1=j:=G4 Prod.fst q
        have q2:(x[ps.idxOf p.2]?).getD undef=u:=G4 Prod.snd q
        rw[e3]
        have q3:=hn4 p hp
        have q4:ps[ps.idxOf p.2]? = some p.2:=Ig q3
        have q5:ps.idxOf p.2<x.length:=by rw[hxl];exact List.idxOf_lt_length_iff.2 q3
        have q6:x[ps.idxOf p.2]? = some u:=by
         rw[A4 q5]at q2 ⊢
         exact G4 some q2
        have q7:v=u:=by rw[hvj,<-q1,y3 p.1 p.2 hp];exact z3 _ _ _ q4 q6
        rw[q7]
        exact DRep.val u e2
    . rw[E9 (by omega),List.getElem?_replicate]at hsx
      split at hsx
      . cases hsx;trivial
      . cases hsx) (fun x hx=>by
    rcases List.mem_append.1 hx with h|h
    . exact f3 x h
    . rw[(List.mem_replicate.1 h).2];rfl)
   have hact:({ tmps:=T.toList.toArray++Array.replicate (n-T.toList.toArray.size) undef,defers:=[] }:Act)={ tmps:=T,defers:=[] }:=by simp[hTs]
   rw[hact]at hpass
   have hcg:=hpass.congr (st':=⟨n,FA 0 (args.map SV.sh),Gf (bI i),Ge (tI i)⟩) rfl (fun j=>(DU args _ j).symm) (fun _=>rfl) (fun _=>rfl)
   refine wpIn_mono (hpw _ ⟨A3,_,some (w.heap.size+1),_,_⟩ _ _ _ (hcg.rl _)) ?_
   rintro e a4 W4 ⟨g4,s4,h5,h6⟩
   have back:∀ bn tn,bn.map (·.1)=(bI i).map (·.1)->tn.map (·.1)=(tI i).map (·.1)->(∀ p∈bn,(∀ c∈p.2,c.fit ((bI i).map (·.1)) ((tI i).map (·.1))=true)∧(Nat.blt p.1 490000||PR p.2)=true)->EM s4 (Gf bn)->EK s4 (Ge tn)->∃ G,Evo g' A3 G W4∧Rep B w0 G ⟨n,S,bn,tn⟩ a' W4:=fun bn tn hbk htk hf hB hT=>by
    obtain⟨G,ev,-,hR⟩:=hr3.back hFit (h5.rl none) bn tn hbk htk (fun i cs hi=>EL hB (by rw[Bj,B9 (by omega),Nat.add_sub_cancel,hi];rfl)) (fun t n ht=>EJ hT (by rw[Cj,B9 (by omega),Nat.add_sub_cancel,ht])) (fun p hp=>(hf p hp).1) (fun i cs hi hge=>by
     have h7:=(hf _ (M9 hi)).2
     rw[Bool.or_eq_true]at h7
     rcases h7 with h7|h7
     . have:=C0 h7;simp only at this;omega
     . simp only at h7
       unfold PR at h7
       split at h7
       . rename_i ms;exact⟨ms,C⟩
       . cases h7)
    obtain⟨c1,c2⟩:=Gt (n:=n) (S:=S) hbk htk
    exact⟨G,ev,hR.congr C (fun _=>C) c1 c2⟩
   have fin:∀ {G:Gh} {s:PS},Evo g' A3 G W4->Rep B w0 G s a' W4->∀ (jump:Option Code),∃ W5,(Instr.endRound (w.heap.size+1) jump).run P W4=.ok (.bool jump.isNone) W5∧Rep B w0 G s a' W5∧W5.heap[w.heap.size+1]? = some (.loop (rec (if jump.isNone then .ready else .done) jump)) ∧ ¬ R4 G W5 (w.heap.size+1) ∧ ∀ b o,Z3 W5 b o=Z3 W4 b o:=fun ev hR jump=>by
    have hl4:=(ev.heap _ ho3).trans hl3
    obtain⟨k1,k2,k3,k4⟩:=turn (L':=rec (if jump.isNone then .ready else .done) jump) hR hl4 (fun ho=>ho3 (ev.own ho))
    refine⟨_,?_,k1,k2,k3,k4⟩
    have:=run_endRound (P:=P) jump hl4
    rw[hrec]at this ⊢
    exact this
   have kpa:∀ {G:Gh} {W5:World},Evo g' A3 G W4->(∀ b o,Z3 W5 b o=Z3 W4 b o)->Kp (Fx g') A (Fx G) W5:=fun {G W5} ev hs b o hf hso=>by
    obtain⟨k1,k2⟩:=ev.fx b o hf (by rw[hs3];exact hso)
    exact⟨k1,(hs b o).trans (k2.trans (hs3 b o))⟩
   cases e with
   | normal=>
    obtain⟨q0,q1,q2⟩:=h6
    obtain⟨G,ev,hR⟩:=back _ _ ha3 ha4 (fun p hp=>f4 p hp) q1 q2
    obtain⟨W5,e1,e2,e3,e4,e5⟩:=fin ev hR none
    have kp5:=h2.trans (kpa ev e5)
    refine⟨_,W5,e1,.inl ⟨rfl,⟨q0,G,e2,kp5,e3,e4⟩,fun b o hf hsA=>⟨hf,(kp5 b o hf.1 hf.2).2.trans (h2 b o hf.1 hf.2).2.symm⟩,fun q cs hq=>⟨?_,(e2.gok q cs hq).2⟩⟩⟩
    exact((hgo1 q cs hq).1).mono fun b o hf hs=>⟨hf,(kp5 b o hf.1 hf.2).2⟩
   | ret=>
    obtain⟨b',t',q1,q2,q3,q4,q5,q6⟩:=h6
    unfold EO at q5
    simp only[D1,E5]at q5
    obtain⟨G,ev,hR⟩:=back b' t' q3 q4 (fun p hp=>q5.2 p hp) q1 q2
    obtain⟨W5,e1,e2,e3,e4,e5⟩:=fin ev hR (some .ret)
    exact⟨_,W5,e1,.inr ⟨rfl,G,.ret,.ret,_,.inl ⟨rfl,C⟩,e2,q6,e3,e4⟩⟩
   | exit id=>
    obtain⟨b',t',q1,q2,q3,q4,q5,q6⟩:=h6
    unfold EO at q5
    simp only[D1,E5]at q5
    obtain⟨G,ev,hR⟩:=back b' t' q3 q4 (fun p hp=>q5.2 p hp) q1 q2
    obtain⟨W5,e1,e2,e3,e4,e5⟩:=fin ev hR (some (.exit id))
    exact⟨_,W5,e1,.inr ⟨rfl,G,.exit id,.exit id,_,.inr ⟨id,C,C⟩,e2,q6,e3,e4⟩⟩
   | goto l=>exact h6.elim
   | panic ch=>exact h6.elim
   | outgrown=>exact h6.elim
 . exact hgo1
 . exact⟨hI,g,by rw[ha'];exact hr2,Kp.same fun _ _ h=>h,hL1,hoL⟩
 . -- behind the iterator
   rintro e W2 ⟨⟨v,rfl⟩,(⟨hii,g',h1,h2,h3,h4⟩|⟨g',c,e,s,hm,h1,hq,h3,h4⟩)⟩
   . obtain⟨k1,-,-,-⟩:=turn (L':={ rec .ready none with state:=.exhausted }) h1 h3 h4
     have e:=run_endLoop (P:=P) h3 (by rw[hrec];simp)
     rw[ha']at k1
     subst hrec
     exact⟨none,_,e,⟨g',_,k1,hdone hii⟩⟩
   . obtain⟨k1,-,-,-⟩:=turn (L':={ rec .done (some c)with state:=.exhausted }) h1 h3 h4
     have e:=run_endLoop (P:=P) h3 (by rw[hrec];simp)
     rw[ha']at k1
     subst hrec
     refine⟨some c,_,e,?_⟩
     rcases hm with⟨rfl,rfl⟩|⟨id,rfl,rfl⟩
     . exact wpIn_ret ⟨g',s,k1,hq⟩
     . exact wpIn_exit ⟨g',s,k1,hq⟩
def Cx.at (w0:Cx) (g:Gh) (w:World) (h:w0.d0<=w.heap.size):Cx:=⟨w,g,w0.rl,w0.d0,h⟩
theorem Rep.rebase (h:Rep B w0 g st a w) (hd:w0.d0<=w.heap.size):Rep B (w0.at g w hd) g st a w:=
 { h with
  evo:=Evo.refl _ _
  size:=h.size
  slots:=h.slots
  defers:=h.defers
  gown:=fun q cs hq ho=>h.gown q cs hq (h.evo.own ho)
  ghp:=fun q cs hq=>by
   obtain⟨vs,e,T,z,h1⟩:=h.ghp q cs hq
   exact⟨vs,e,T,z,(h.evo.heap q (h.gown q cs hq)).trans h1⟩ }
def Vis (es:Array MapEntry) (ms:List (Value×DV)) (seen:Array Nat) (dn:List (Value×DV)):Prop:=∃ D R:List (MapEntry×(Value×DV)),(D++R).Perm (es.toList.zip ms)∧seen.toList=D.map (·.1.born)∧dn=D.map (·.2)
theorem Vis.start (es:Array MapEntry) (ms:List (Value×DV)):Vis es ms #[] []:=⟨[],es.toList.zip ms,by simp,rfl,rfl⟩
theorem Dc {es:Array MapEntry} {e:MapEntry}:e∈(leftOf es seen).toList↔e∈es.toList∧e.born ∉ seen.toList:=by
 unfold leftOf
 simp
theorem Vis.step {es:Array MapEntry} {ms dn:List (Value×DV)} (h:Vis es ms seen dn) (hl:es.size=ms.length) {e:MapEntry} (he:e∈(leftOf es seen).toList):∃ p,(e,p)∈es.toList.zip ms∧Vis es ms (seen.push e.born) (dn++[p]):=by
 obtain⟨D,R,h1,h2,h3⟩:=h
 obtain⟨h4,h5⟩:=Dc.1 he
 have h6:e∈(es.toList.zip ms).map (·.1):=by rw[List.map_fst_zip (by simp[hl])];exact h4
 obtain⟨⟨e',p⟩,hz,rfl⟩:=H2.1 h6
 refine⟨p,hz,?_⟩
 have h7:(e',p)∈D++R:=h1.mem_iff.2 hz
 have h8:(e',p)∈R:=by
  rcases List.mem_append.1 h7 with h|h
  . exact G5 (by rw[h2];exact H2.2 ⟨_,h,C⟩) h5
  . exact h
 obtain⟨R1,R2,rfl⟩:=List.append_of_mem h8
 refine⟨D++[(e',p)],R1++R2,?_,by simp[h2],by simp[h3]⟩
 refine List.Perm.trans ?_ h1
 rw[G8]
 have hm:(R1++(e',p)::R2).Perm ((e',p)::(R1++R2)):=List.perm_middle
 exact List.Perm.append_left D hm.symm
theorem Vis.done {es:Array MapEntry} {ms dn:List (Value×DV)} (h:Vis es ms seen dn) (hl:es.size=ms.length) (hn:(es.toList.map (·.born)).Nodup) (h0:(leftOf es seen).size=0):dn.Perm ms:=by
 obtain⟨D,R,h1,h2,h3⟩:=h
 have hR:R=[]:=by
  cases R with
  | nil=>rfl
  | cons z R=>
   have hz:z∈es.toList.zip ms:=h1.mem_iff.1 (by simp)
   have hze:z.1∈es.toList:=(List.of_mem_zip hz).1
   have hzs:z.1.born∈seen.toList:=by
    refine Decidable.byContradiction fun hc=>?_
    have:=Dc.2 ⟨hze,hc⟩
    rw[Array.eq_empty_of_size_eq_zero h0]at this
    simp at this
   have hp:((D++z::R).map fun x=>x.1.born).Nodup:=by
    rw[(h1.map _).nodup_iff]
    have:(es.toList.zip ms).map (fun x=>x.1.born)=((es.toList.zip ms).map (·.1)).map (·.born):=by rw[List.map_map];rfl
    rw[this,List.map_fst_zip (by simp[hl])]
    exact hn
   rw[h2]at hzs
   rw[List.map_append,List.nodup_append]at hp
   exact G5 C (hp.2.2 _ hzs _ (by simp))
 subst hR
 rw[List.append_nil]at h1
 have h4:=h1.map (·.2)
 rw[List.map_snd_zip (by simp[hl])]at h4
 rw[h3]
 exact h4
def Self (rl:Option Nat) (d0:Nat) (g:Gh) (st:PS) (a:Act) (w:World):Prop:=∃ hd:d0<=w.heap.size,Rep w.heap.size ⟨w,g,rl,d0,hd⟩ g st a w
theorem Rep.self (h:Rep B w0 g st a w):Self w0.rl w0.d0 g st a w:=
 have hd:w0.d0<=w.heap.size:=D9 w0.hd h.evo.bel.size
 ⟨hd,{ h.rebase hd with base:=E0 _,f0:=fun b o hb=>h.f0 b o (D9 h.base hb),size:=h.size,slots:=h.slots,defers:=h.defers }⟩
def Stb (X:Gh->World->Prop):Prop:=∀ g w g' w',X g w->(∀ i b,g.bl i=some b->b<w.heap.size)->Evo g w g' w'->X g' w'
def PostX (rl:Option Nat) (d0:Nat) {ι:Type} (X:ι->Gh->World->Prop) (Q:Exit->PS->ι->Prop):Exit->Act->World->Prop:=fun e a w=>∃ g s i,Self rl d0 g s a w∧X i g w∧Q e s i
def PX (P:Program) (rl:Option Nat) (d0:Nat) {ι:Type} (X:ι->Gh->World->Prop) (c:Code) (Q:Exit->PS->ι->Prop) (st:PS) (i:ι):Prop:=
 ∀ g a w,Self rl d0 g st a w->X i g w->c.wpIn (rF rl) 0 P (PostX rl d0 X Q) a w
def FE {ι:Type} (K:PS->ι->Prop) (Q:Exit->PS->ι->Prop):Exit->PS->ι->Prop
 | .normal,st,i=>K st i
 | e,st,i=>Q e st i
def CF {ι:Type} (id:Nat) (Q:Exit->PS->ι->Prop):Exit->PS->ι->Prop
 | .exit id',st,i=>bif Nat.beq id' id then Q .normal st i else Q (.exit id') st i
 | e,st,i=>Q e st i
def QRegX {ι:Type} (Q:Exit->PS->ι->Prop):Exit->PS->ι->Prop
 | .normal,st,i=>Q .normal st i
 | _,_,_=>False
section
variable {rl:Option Nat} {ι:Type} {X:ι->Gh->World->Prop} {Q:Exit->PS->ι->Prop} {i:ι}
theorem px_pw (hX:Stb (X i)) (h:∀ B w0,w0.rl=rl->PW P B w0 c (fun e s=>Q e s i) st):PX P rl d0 X c Q st i:=fun g a w ⟨hd,hr⟩ hx=>
 wpIn_mono (h _ ⟨w,g,rl,d0,hd⟩ rfl g a w hr) fun _ _ _ ⟨g',s,h1,h2⟩=>⟨g',s,i,h1.self,hX _ _ _ _ hx (fun i b hi=>(hr.blk i b hi).2) h1.evo,h2⟩
theorem I3 (h:Q .normal st i):PX P rl d0 X .skip Q st i:=fun g _ _ hs hx=>wpIn_skip ⟨g,st,i,hs,hx,h⟩
theorem Q4 (h:Q (.exit id) st i):PX P rl d0 X (.exit id) Q st i:=fun g _ _ hs hx=>wpIn_exit ⟨g,st,i,hs,hx,h⟩
theorem M1 (h:Q .ret st i):PX P rl d0 X .ret Q st i:=fun g _ _ hs hx=>wpIn_ret ⟨g,st,i,hs,hx,h⟩
theorem F5 {x y:Code} (h:PX P rl d0 X x (FE (PX P rl d0 X y Q) Q) st i):PX P rl d0 X (.seq x y) Q st i:=fun g a w hs hx=>
 wpIn_seq (wpIn_mono (h g a w hs hx) fun e a w ⟨g,s,j,h1,h2,h3⟩=>by
  cases e with
  | normal=>exact h3 g a w h1 h2
  | _=>exact⟨g,s,j,h1,h2,h3⟩)
theorem L1 (h:PX P rl d0 X c (CF id Q) st i):PX P rl d0 X (.block id c) Q st i:=fun g a w hs hx=>
 wpIn_block (wpIn_mono (h g a w hs hx) fun e _ _ ⟨g,s,j,h1,h2,h3⟩=>by
  cases e with
  | exit id'=>
   simp only[Exit.inBlock]
   by_cases e:id'=id
   . subst e
     rw[B9 rfl]
     refine⟨g,s,j,h1,h2,?_⟩
     simpa[CF,Nat.beq_refl]using h3
   . rw[B5 e]
     refine⟨g,s,j,h1,h2,?_⟩
     have:Nat.beq id' id=false:=by rw[<-Bool.not_eq_true];intro e';exact e (F8 e')
     simpa[CF,this]using h3
  | _=>exact⟨g,s,j,h1,h2,h3⟩)
theorem NS {c:Operand} {x y:Code} {t:Bool} (hc:st.ev c=.d (.val (.bool t))) (h1:t=true->PX P rl d0 X x Q st i) (h2:t=false->PX P rl d0 X y Q st i):PX P rl d0 X (.cond c x y) Q st i:=fun g a w hs hx=>by
 obtain⟨hd,hr⟩:=hs
 have h:=hr.eval c
 rw[hc]at h
 have:a.eval c=.bool t:=DRep.val_eq h
 cases t with
 | true=>exact wpIn_cond_true this (h1 C g a w ⟨hd,hr⟩ hx)
 | false=>exact wpIn_cond_false this (h2 C g a w ⟨hd,hr⟩ hx)
theorem Self.le (hX:Stb (X i)) (h:Self rl d0 g st a w) (hx:X i g w) (hl:Le st st'):∃ g',Self rl d0 g' st' a w∧X i g' w:=by
 obtain⟨hd,hr⟩:=h
 obtain⟨g',h1⟩:=hr.le hl
 exact⟨g',h1.self,hX _ _ _ _ hx (fun i b hi=>(hr.blk i b hi).2) h1.evo⟩
theorem px_le (hX:Stb (X i)) (hl:Le st st') (h:PX P rl d0 X c Q st' i):PX P rl d0 X c Q st i:=fun _ a w hs hx=>by
 obtain⟨g',h1,h2⟩:=hs.le hX hx hl
 exact h g' a w h1 h2
theorem px_loop {κ:Type} (J:κ->PS) (f:κ->ι) (I:κ->Prop) (μ:κ->Nat) (k0:κ) (hX:∀ j,Stb (X j)) (hI:I k0) (hle:Le st (J k0)) (hf:i=f k0)
 (round:∀ k,I k->PX P rl d0 X c (FE (fun s j=>∃ k',I k'∧μ k'<μ k∧Le s (J k')∧j=f k') Q) (J k) (f k)):PX P rl d0 X (.loop c) Q st i:=fun g a w hs hx=>by
 subst hf
 obtain⟨g',h1,h2⟩:=hs.le (hX _) hx hle
 refine CG (fun n a w=>∃ k,μ k=n∧I k ∧ ∃ g,Self rl d0 g (J k) a w∧X (f k) g w) (μ k0) ⟨k0,C,hI,g',h1,h2⟩ ?_
 rintro n a w ⟨k,rfl,hk,g,hs,hx⟩
 refine wpIn_mono (round k hk g a w hs hx) fun e a w ⟨g,s,j,h1,h2,h3⟩=>?_
 cases e with
 | normal=>
  obtain⟨k',h4,h5,h6,rfl⟩:=h3
  obtain⟨g',h7,h8⟩:=h1.le (hX _) h2 h6
  exact⟨μ k',h5,k',C,h4,g',h7,h8⟩
 | _=>exact⟨g,s,j,h1,h2,h3⟩
theorem U0 {ops:Array Oper} {R Q2:Exit->Act->World->Prop} {l':List Oper} (hne:∀ e a w,R e a w->e=.normal) (hq:∀ a w,R .normal a w->wpList P ops Q2 l' a w):∀ {l:List Oper} {a:Act} {w:World},wpList P ops R l a w->wpList P ops Q2 (l++l') a w
 | [],a,w,h=>hq a w h
 | o::l,a,w,h=>by
  rw[List.cons_append]
  unfold wpList at h ⊢
  split
  . rename_i hw
    rw[B9 hw]at h
    rcases h with h|⟨-,a',w',h⟩
    . refine .inl ?_
      unfold Oper.wp at h ⊢
      generalize (execOp a.eval o).run P w=r at h ⊢
      cases r with
      | ok x w'=>
       cases x with
       | value v=>exact U0 hne hq h
       | skip=>exact U0 hne hq h
       | defer d=>exact U0 hne hq h
       | enter f args=>
        refine h.mono fun e w'' he=>?_
        match e,he with
        | .returned v,he=>exact U0 hne hq he
        | .panicked ch,he=>exact G5 (hne _ _ _ he) (fun e=>by cases e)
        | .outgrown,⟨a1,w1,h1⟩=>exact G5 (hne _ _ _ h1) (fun e=>by cases e)
       | row row args=>exact h.mono fun v w'' he=>U0 hne hq he
       | _=>exact h.elim
      | halt x w'=>cases x<;>first|exact G5 (hne _ _ _ h) (fun e=>by cases e)|exact h.elim
    . exact G5 (hne _ _ _ h) (fun e=>by cases e)
  . rename_i hw
    rw[B5 hw]at h
    exact U0 hne hq h
end
section
variable {Q:Exit->PS->Prop}
end
section
variable {sq:Bool} {ops:Array Oper} {K:PS->Prop} {rest:List Oper} {ty:TypeId} {pos:String} {gd:Option (Nat×Bool)}
theorem ls_mle (T:TypeId) (x y:Operand) {l:List (List UInt8×DV)} {k:List UInt8} {z:DV} [hM:MapOf P T z] (hx:st.ev x=.d (.mp (Q0 l))) (hy:st.ev y=.d (dS k)) (hd:I1 ⟨d,.lookup T x y false,ty,pos,af,gd⟩ st=true):
 M6 P ⟨d,.lookup T x y false,ty,pos,af,gd⟩ st (.d (ED z k l)) .no:=fun st2 ha=>
 OpS.value (ha.dst hd) fun _ _ g a w h=>by
  have h1:=h.eval x
  rw[ha.ev x (by simp[Op.operands]),hx]at h1
  have h2:=h.eval y
  rw[ha.ev y (by simp[Op.operands]),hy]at h2
  obtain⟨b,es,c,q2,r2,-,-,hl,hkv⟩:=DRep.mapd h1
  have hp:∀ (i:Nat) p,l[i]? = some p->(Q0 l)[i]? = some (vS p.1,p.2):=fun i p hp=>by rw[Q0,C6,hp];rfl
  have r3:es.toList.length=l.length:=by simpa[Q0]using hl
  have r4:∀ (i:Nat) e p,es.toList[i]? = some e->l[i]? = some p->e.key=vS p.1:=fun i e p he hl=>(hkv i e _ (by simpa using he) (hp i p hl)).1
  have r5:∀ (i:Nat) e p,es.toList[i]? = some e->l[i]? = some p->DRep (Fx g) w e.val p.2:=fun i e p he hl=>(hkv i e _ (by simpa using he) (hp i p hl)).2
  obtain⟨kt,et,m1,m2,m3⟩:=hM.und
  obtain⟨v,m4,m5⟩:=m3 w
  have hc:∀ e,(Instr.checkKey e 10000 kt (vS k)).run P w=.ok () w:=fun e=>MapKept.run_checkKey (k:=vS k) m2 (by simp[MapKept.IsKey]) e 9999
  rcases Cz k l es.toList 0 r3 r4 with⟨j,e,d',f1,f2,f3,f4,-⟩|⟨f1,f2,-,-⟩
  . refine⟨e.val,w,?_,Below.refl _ _,?_⟩
    . simp[execOp,Instr.lookup,run_underlying m1,q2,DRep.val_eq h2,MapKept.run_getObj_map r2,hc,MapKept.run_findKey m2 f1,Result.andThen]
    . rw[f4];exact r5 j e _ f2 f3
  . refine⟨v,w,?_,Below.refl _ _,?_⟩
    . simp[execOp,Instr.lookup,run_underlying m1,q2,DRep.val_eq h2,MapKept.run_getObj_map r2,hc,MapKept.run_findKey m2 f1,m4,Result.andThen]
    . rw[f2];exact m5 _ _
theorem yKe {T:Nat} {x:Operand} {l:List (List UInt8×DV)} {k:List UInt8} {z v:DV} [hM:MapOf P T z] (hx:st.ev x=.d (.mp (Q0 l))) (hy:st.ev y=.d (dS k)) (hv:ED z k l=v)
 (h:YR P sq ops K rest (st.put d (.d v))) (zz:zk ops st ⟨d,.lookup T x y false,ty,pos,af,gd⟩ .no=true:=by kernel_rfl):
 YR P sq ops K (⟨d,.lookup T x y false,ty,pos,af,gd⟩::rest) st:=M3 (hv ▸ ls_mle T x y hx hy (zd zz)) (zo zz) (zw zz) h
end
structure HP where
 w:World
 F:Nat->Nat->Prop
 ex:Option Nat
variable {p:HP}
structure HI where
 rows:List (Value×List (List UInt8))
 it:Option (Nat×List (List UInt8×DV)×List (List UInt8×DV))
 mp:Option (Nat×List (List UInt8×DV))
 fs:List (Value×DV)
structure HCo (p:HP) (fs:List (Value×DV)) (g:Gh) (w:World):Prop where
 os:w.os=p.w.os
 tape:w.tape=p.w.tape
 output:w.output=p.w.output
 size:p.w.heap.size<=w.heap.size
 block:∀ b,b<p.w.heap.size->p.ex≠some b->w.heap[b]? = p.w.heap[b]?
 f0:∀ b o,g.f0 b o->p.F b o
 new:∀ b o,p.w.heap.size<=b->p.F b o
 own:∀ b,R4 g w b->p.w.heap.size<=b
 gl:∀ q cs,G1 gs q=some cs->q<p.w.heap.size∧p.ex≠some q
 fs:∀ q∈fs,DRep (Fx g) w q.1 q.2
structure HR (E N:Nat) (rows:List (Value×List (List UInt8))) (g:Gh) (w:World):Prop where
 row:∀ (j:Nat) v xs,rows[j]? = some (v,xs)->0<xs.length∧w.ownsRow N E 1 v xs.length (xs.map vS) ∧ ∀ b,v.ownBlock=some b->¬ R4 g w b ∧ ∀ o,g.f0 b o->o<xs.length
 dis:∀ (j j':Nat) p p' b,rows[j]? = some p->rows[j']? = some p'->p.1.ownBlock=some b->p'.1.ownBlock=some b->j=j'
def HT (it:Option (Nat×List (List UInt8×DV)×List (List UInt8×DV))) (N:Nat) (g:Gh) (w:World):Prop:=
 ∀ r l dn,it=some (r,l,dn)->∃ bm es c seen cc,w.heap[r]? = some (.mapIter (some bm) c seen cc)∧Z3 w bm 0=some (.mp es c)∧c<=cc∧DW g w es c (Q0 l)∧Vis es (Q0 l) seen (Q0 dn) ∧ ¬ R4 g w r∧Fx g bm 0∧N<=r∧(∀ q,dn.getLast? = some q->∃ (s0:Array Nat) (e:MapEntry),seen=s0.push e.born∧cc=c∧e∈es.toList∧e.key=vS q.1∧DRep (Fx g) w e.val q.2)
def HM (mp:Option (Nat×List (List UInt8×DV))) (p:HP) (g:Gh) (w:World):Prop:=
 ∀ bo l,mp=some (bo,l)->∃ (es:Array MapEntry) (c:Nat),w.heap[bo]? = some (.map es c)∧MapKept.Stamped es c∧es.toList.length=l.length∧(∀ (i:Nat) e q,es.toList[i]? = some e->l[i]? = some q->e.key=vS q.1 ∧ ∀ F w',DRep F w' e.val q.2) ∧ ¬ R4 g w bo∧(∀ o,¬ g.f0 bo o)∧(p.w.heap.size<=bo∨p.ex=some bo)
structure HX (E:Nat) (p:HP) (i:HI) (g:Gh) (w:World):Prop where
 co:HCo p i.fs g w
 rows:HR E p.w.heap.size i.rows g w
 it:HT i.it p.w.heap.size g w
 mp:HM i.mp p g w
theorem HCo.keep {g':Gh} (h:HCo p fs g w) (hos:w'.os=w.os) (ht:w'.tape=w.tape) (ho:w'.output=w.output) (hsz:w.heap.size<=w'.heap.size)
 (hb:∀ b,b<p.w.heap.size->p.ex≠some b->w'.heap[b]? = w.heap[b]?) (hf:∀ b o,g'.f0 b o->p.F b o) (hown:∀ b,R4 g' w' b->R4 g w b) (kp:Kp (Fx g) w (Fx g') w'):HCo p fs g' w':=
 ⟨hos.trans h.os,ht.trans h.tape,ho.trans h.output,D9 h.size hsz,fun b hb1 hb2=>(hb b hb1 hb2).trans (h.block b hb1 hb2),hf,h.new,fun b hb'=>h.own b (hown b hb'),h.gl,fun q hq=>(h.fs q hq).mono kp⟩
theorem HR.keep {E N:Nat} {rows:List (Value×List (List UInt8))} {g':Gh} (h:HR E N rows g w) (hb:∀ (j:Nat) v xs b,rows[j]? = some (v,xs)->v.ownBlock=some b->w'.heap[b]? = w.heap[b]? ∧ ∀ o,g'.f0 b o->g.f0 b o) (hown:∀ b,R4 g' w' b->R4 g w b):HR E N rows g' w':=
 ⟨fun j v xs hj=>by
  obtain⟨h1,h2,h3⟩:=h.row j v xs hj
  exact⟨h1,M8 h2 fun b hb'=>(hb j v xs b hj hb').1,fun b hb'=>⟨fun ho=>(h3 b hb').1 (hown b ho),fun o ho=>(h3 b hb').2 o ((hb j v xs b hj hb').2 o ho)⟩⟩,h.dis⟩
theorem HT.keep {it:Option (Nat×List (List UInt8×DV)×List (List UInt8×DV))} {N:Nat} {g':Gh} (h:HT it N g w) (hb:∀ r l dn,it=some (r,l,dn)->w'.heap[r]? = w.heap[r]?) (hown:∀ b,R4 g' w' b->R4 g w b) (kp:Kp (Fx g) w (Fx g') w'):HT it N g' w':=fun r l dn hi=>by
 obtain⟨bm,es,c,seen,cc,h1,h2,h3,h4,h5,h6,h7,h9,h8⟩:=h r l dn hi
 obtain⟨k1,k2⟩:=kp bm 0 h7 (by rw[h2];rfl)
 refine⟨bm,es,c,seen,cc,(hb r l dn hi).trans h1,k2.trans h2,h3,h4.mono kp,h5,fun ho=>h6 (hown r ho),k1,h9,fun q hq=>?_⟩
 obtain⟨s0,e,e1,e2,e3,e4,e5⟩:=h8 q hq
 exact⟨s0,e,e1,e2,e3,e4,e5.mono kp⟩
theorem HM.keep {mp:Option (Nat×List (List UInt8×DV))} {g':Gh} (h:HM mp p g w) (hb:∀ bo l,mp=some (bo,l)->w'.heap[bo]? = w.heap[bo]? ∧ ∀ o,g'.f0 bo o->g.f0 bo o) (hown:∀ b,R4 g' w' b->R4 g w b):HM mp p g' w':=fun bo l hi=>by
 obtain⟨es,c,h1,h2,h3,h4,h5,h6,h7⟩:=h bo l hi
 exact⟨es,c,(hb bo l hi).1.trans h1,h2,h3,h4,fun ho=>h5 (hown bo ho),fun o ho=>h6 o ((hb bo l hi).2 o ho),h7⟩
theorem HX.stb {E:Nat} (i:HI):Stb (HX E p i):=fun g w g' w' h hlt ev=>by
 have hown:∀ b,R4 g' w' b->R4 g w b:=fun b=>ev.own
 refine⟨h.co.keep ev.bel.os ev.bel.tape ev.bel.output ev.bel.size (fun b hb _=>ev.heap b fun ho=>by have:=h.co.own b ho;omega) (fun b o hf=>h.co.f0 b o (by rw[<-ev.f0];exact hf)) hown ev.fx,h.rows.keep (fun j v xs b hj hb=>⟨ev.heap b ((h.rows.row j v xs hj).2.2 b hb).1,fun o ho=>by rw[<-ev.f0];exact ho⟩) hown,h.it.keep (fun r l dn hi=>?_) hown ev.fx,h.mp.keep (fun bo l hi=>?_) hown⟩
 . obtain⟨bm,es,c,seen,cc,h1,h2,h3,h4,h5,h6,h7,h9,h8⟩:=h.it r l dn hi
   exact ev.heap r h6
 . obtain⟨es,c,h1,h2,h3,h4,h5,h6,h7⟩:=h.mp bo l hi
   exact⟨ev.heap bo h5,fun o ho=>by rw[<-ev.f0];exact ho⟩
theorem Self.chg {rl:Option Nat} (h:Self rl d0 g st a w) (F':Nat->Nat->Prop) (hsz:w.heap.size<=w'.heap.size) (h1:∀ b o,b<w.heap.size->g.f0 b o->F' b o) (h3:∀ b o,w'.heap.size<=b->F' b o)
 (h4:∀ b,b<w.heap.size->R4 g w b->w'.heap[b]? = w.heap[b]?) (h5:∀ b o,b<w.heap.size->Fx g b o->(Z3 w b o).isSome->Z3 w' b o=Z3 w b o) (h6:∀ q cs,G1 gs q=some cs->w'.heap[q]? = w.heap[q]?)
 (h7:∀ D:Nat,w.heap[D]? = some (.deferred (some []))->(∃ d∈a.defers,d={ target:=.collected D,args:=#[] })->w'.heap[D]? = w.heap[D]?):
 Self rl d0 { g with f0:=F' } st a w'∧Kp (Fx g) w (Fx { g with f0:=F' }) w' ∧ ∀ b,R4 { g with f0:=F' } w' b->R4 g w b:=by
 obtain⟨hd,r⟩:=h
 have kp:Kp (Fx g) w (Fx { g with f0:=F' }) w':=fun b o hf hs=>⟨⟨h1 b o (Y1 hs) hf.1,hf.2.1,hf.2.2⟩,h5 b o (Y1 hs) hf hs⟩
 have hown:∀ b,R4 { g with f0:=F' } w' b->R4 g w b:=fun b ho=>by
  rcases ho with ho|ho|ho
  . exact .inl (D9 hsz ho)
  . exact .inr (.inl ho)
  . exact .inr (.inr ho)
 have hbb:∀ i b,g.bl i=some b->w'.heap[b]? = w.heap[b]?:=fun i b hi=>h4 b (r.blk i b hi).2 (.inr (.inl ⟨i,hi⟩))
 have e:Ext g w { g with f0:=F' } w':=⟨kp,fun _ _ h=>h,fun _ T h=>⟨T,h,.inl rfl⟩,fun i b hi=>J9 (hbb i b hi)⟩
 refine⟨⟨D9 hd hsz,{ r with evo:=Evo.refl _ _,base:=E0 _,f0:=h3,size:=r.size,slots:=fun j=>(r.slots j).ext e,defers:=⟨r.defers.1,fun d hd'=>?_⟩,glob:=fun q cs hq=>(r.glob q cs hq).ext e,boxes:=fun i cs hi hlt=>?_,maps:=fun i ms hi hge=>?_,blk:=fun i b hi=>⟨fun o=>h1 b o (r.blk i b hi).2 ((r.blk i b hi).1 o),I9 (r.blk i b hi).2 hsz⟩,toks:=fun t T hT=>?_,tf0:=fun t T b o hT hb=>?_,gown:=fun q cs hq ho=>r.gown q cs hq (hown q ho),ghp:=fun q cs hq=>?_ }⟩,kp,hown⟩
 . obtain⟨D,q1,q2,q3,q4⟩:=r.defers.2 d hd'
   exact⟨D,q1,(h7 D q2 ⟨d,hd',q1⟩).trans q2,fun ho=>q3 (hown D ho),q4⟩
 . obtain⟨b,xs,T,q1,q2,q3,q4,q5⟩:=r.boxes i cs hi hlt
   refine⟨b,xs,T,q1,(hbb i b q1).trans q2,q3,fun j c hj=>?_,q5⟩
   obtain⟨x,q6,q7⟩:=q4 j c hj
   exact⟨x,q6,q7.ext e⟩
 . obtain⟨b,es,c,q1,q2,q3⟩:=r.maps i ms hi hge
   exact⟨b,es,c,q1,(hbb i b q1).trans q2,q3.mono kp⟩
 . obtain⟨⟨n,xs,q1⟩,q2⟩:=r.toks t T hT
   exact⟨⟨n,xs,M8 q1 fun b hb=>h4 b (q1.lt b hb).2 (.inr (.inr ⟨t,T,hT,hb⟩))⟩,q2⟩
 . obtain⟨⟨n,xs,q1⟩,q2⟩:=r.toks t T hT
   exact h1 b o (q1.lt b hb).2 (r.tf0 t T b o hT hb)
 . obtain⟨vs,q1,T,z,q2⟩:=r.ghp q cs hq
   exact⟨vs,q1,T,z,(h6 q cs hq).trans q2⟩
def PL (P:Program) (ops:Array Oper) (rl:Option Nat) (d0:Nat) {ι:Type} (X:ι->Gh->World->Prop) (K:PS->ι->Prop) (l:List Oper) (st:PS) (i:ι):Prop:=
 ∀ g a w,Self rl d0 g st a w->X i g w->wpList P ops (fun e a' w'=>e=.normal ∧ ∃ g' s j,Self rl d0 g' s a' w'∧X j g' w'∧Kp (Fx g) w (Fx g') w'∧K s j) l a w
section
variable {ops:Array Oper} {rl:Option Nat} {ι:Type} {X:ι->Gh->World->Prop} {K:PS->ι->Prop} {Q:Exit->PS->ι->Prop} {i:ι}
theorem Av {Q1 Q2:Exit->Act->World->Prop} (h:∀ e a w,Q1 e a w->Q2 e a w) (hne:∀ e a w,Q1 e a w->e=.normal) (hh:wpList P ops Q1 l a w):wpList P ops Q2 l a w:=by
 have:=U0 (Q2:=Q2) (l':=[]) hne (fun a w q=>h _ a w q) hh
 rwa [List.append_nil]at this
theorem C5 (h:K st i):PL P ops rl d0 X K [] st i:=fun g _ _ hs hx=>⟨rfl,g,st,i,hs,hx,Kp.same fun _ _ h=>h,h⟩
theorem pl_app {l':List Oper} (h:PL P ops rl d0 X (fun s j=>PL P ops rl d0 X K l' s j) l st i):PL P ops rl d0 X K (l++l') st i:=fun g a w hs hx=>
 U0 (fun _ _ _ h=>h.1) (fun a' w' ⟨_,g',_,_,h1,h2,h3,h4⟩=>Av (fun _ _ _ ⟨e,g2,s2,j2,q1,q2,q3,q4⟩=>⟨e,g2,s2,j2,q1,q2,h3.trans q3,q4⟩) (fun _ _ _ h=>h.1) (h4 g' a' w' h1 h2)) (h g a w hs hx)
theorem P4 (h:PL P ops rl d0 X (fun s j=>PL P ops rl d0 X K l s j) [o] st i):PL P ops rl d0 X K (o::l) st i:=pl_app (l:=[o]) h
theorem pl_y (hX:Stb (X i)) (h:YR P true ops (fun s=>K s i) l st):PL P ops rl d0 X K l st i:=fun g _ w ⟨hd,hr⟩ hx=>
 Av (fun _ _ _ ⟨g',s,q1,e,q2⟩=>⟨e,g',s,i,q1.self,hX _ _ _ _ hx (fun i b hi=>(hr.blk i b hi).2) q1.evo,q1.evo.fx,q2⟩) (fun _ _ _ ⟨_,_,_,e,_⟩=>e) (h.sound (w0:=⟨w,g,rl,d0,hd⟩) (Q:=fun e s=>e=.normal∧K s i) (fun _ hs=>⟨rfl,hs⟩) hr)
theorem N0 (h:PL P l.toArray rl d0 X (fun s j=>Q .normal s j) l st i) (hnd:Ni l=true:=by rfl):PX P rl d0 X (.region id l.toArray false) Q st i:=fun g a w hs hx=>by
 refine wpIn_mono (wpIn_region_lit (GF (Q:=PostX rl d0 X (QRegX Q)) (fun a w ⟨_,_,_,_,_,h⟩=>h) hnd ?_)) (fun e a w ⟨g,s,j,q1,q2,q3⟩=>by
  cases e with
  | normal=>exact⟨g,s,j,q1,q2,q3⟩
  | _=>exact q3.elim)
 exact Av (fun e _ _ ⟨h0,g',s,j,q1,q2,q3,q4⟩=>by subst h0;exact⟨g',s,j,q1,q2,q4⟩) (fun _ _ _ h=>h.1) (h g a w hs hx)
end
theorem Self.put {rl:Option Nat} (h:Self rl d0 g st a w) (hx:SRep g w v x) (d:Option Nat) (hd:∀ i,d=some i->i<st.n):Self rl d0 g (st.put d x) (a.put d v) w:=⟨h.1,h.2.put hx d hd⟩
theorem see_not {o:Nat} {ob:Obj} (h:w.heap[b]? = some ob) (h1:∀ xs T z,ob ≠ .cells xs T z) (h2:∀ es c,ob ≠ .map es c):Z3 w b o=none:=by
 unfold Z3
 rw[h]
 cases ob<;>first|rfl|exact G5 rfl (h1 _ _ _)|exact G5 rfl (h2 _ _)
theorem Oi {E k:Nat} {xs:List Value} (h:w.ownsRow B E k v n xs) (hb:v.ownBlock=some b):∃ cur z,w.heap[b]? = some (.cells cur E z):=by
 rcases h.2 with⟨rfl,_⟩|⟨gb,cap,cur,rfl,-,hg,-⟩
 . cases hb
 . cases hb;exact⟨_,_,hg⟩
section
variable {ops:Array Oper} {rl:Option Nat} {ι:Type} {X:ι->Gh->World->Prop} {K:PS->ι->Prop} {i:ι}
theorem Gv (hw:st.want ops o=some true) (h:∀ g a w,Self rl d0 g st a w->X i g w->∃ v w',((execOp a.eval o).run P w=.ok (.value v) w'∨((execOp a.eval o).run P w=.ok .skip w'∧v=undef)) ∧ ∃ g' s j,Self rl d0 g' s (a.put o.dst v) w'∧X j g' w'∧Kp (Fx g) w (Fx g') w'∧K s j):PL P ops rl d0 X K [o] st i:=fun g a w hs hx=>by
 obtain⟨v,w',hrun,h1⟩:=h g a w hs hx
 obtain⟨hd,hr⟩:=hs
 unfold wpList
 rw[B9 (M4 hr hw)]
 refine .inl ?_
 unfold Oper.wp
 rcases hrun with hrun|⟨hrun,rfl⟩
 . rw[hrun];exact⟨rfl,h1⟩
 . rw[hrun];exact⟨rfl,h1⟩
end
section
variable {ops:Array Oper} {rl:Option Nat} {d0 E:Nat} {K:PS->HI->Prop} {i:HI} {ty:TypeId} {pos:String} {gd:Option (Nat×Bool)}
theorem HX.put1 (hs:Self rl d0 g st a w) (hx:HX E p i g w) (r:Nat) (hos:w'.os=w.os) (ht:w'.tape=w.tape) (ho:w'.output=w.output) (hsz:w.heap.size<=w'.heap.size) (hne:∀ b,b<w.heap.size->b≠r->w'.heap[b]? = w.heap[b]?)
 (hr1:r<w.heap.size->¬ R4 g w r) (hr2:p.w.heap.size<=r∨p.ex=some r) (hr3:r<w.heap.size->∀ o,Fx g r o->Z3 w r o=none) (hr4:r<w.heap.size->w.heap[r]? = some (.deferred (some []))->∀ d∈a.defers,d ≠ { target:=.collected r,args:=#[] }) (hr5:r<w.heap.size->∀ cur T z,w.heap[r]? ≠ some (.cells cur T z)):
 Self rl d0 g st a w'∧Kp (Fx g) w (Fx g) w'∧HCo p i.fs g w'∧HR E p.w.heap.size i.rows g w'∧((∀ r' l dn,i.it=some (r',l,dn)->r'≠r)->HT i.it p.w.heap.size g w')∧((∀ bo l,i.mp=some (bo,l)->bo≠r)->HM i.mp p g w') ∧ ∀ b,R4 g w' b->R4 g w b:=by
 have hgl:∀ q cs,G1 gs q=some cs->q≠r:=fun q cs hq e=>by
  obtain⟨h1,h2⟩:=hx.co.gl q cs hq
  rcases hr2 with h|h
  . omega
  . exact h2 (e ▸ h)
 have hlt:∀ q cs,G1 gs q=some cs->q<w.heap.size:=fun q cs hq=>I9 (hx.co.gl q cs hq).1 hx.co.size
 obtain⟨s1,kp,hown⟩:=hs.chg g.f0 hsz (fun _ _ _ h=>h) (fun b o hb=>hs.2.f0 b o (D9 hsz hb)) (fun b hb hO=>hne b hb fun e=>hr1 (e ▸ hb) (e ▸ hO)) (fun b o hb hf hse=>by
  refine L3 (hne b hb fun e=>?_) o
  subst e
  rw[hr3 hb o hf]at hse
  cases hse) (fun q cs hq=>hne q (hlt q cs hq) (hgl q cs hq)) (fun D hD ⟨d,hd1,hd2⟩=>by
   have hlt:=(D2.1 hD).1
   exact hne D hlt fun e=>by subst e;exact hr4 hlt hD d hd1 hd2)
 refine⟨s1,kp,hx.co.keep hos ht ho hsz (fun b hb1 hb2=>hne b (I9 hb1 hx.co.size) fun e=>?_) hx.co.f0 hown kp,hx.rows.keep (fun j v xs b hj hb=>?_) hown,fun hit=>hx.it.keep (fun r' l dn hi=>?_) hown kp,fun hmp=>hx.mp.keep (fun bo l hi=>?_) hown,hown⟩
 . rcases hr2 with h|h
   . omega
   . exact hb2 (e ▸ h)
 . obtain⟨h1,h2,h3⟩:=hx.rows.row j v xs hj
   obtain⟨cur,z,h4⟩:=Oi h2 hb
   have hlt:=(h2.lt b hb).2
   exact⟨hne b hlt fun e=>hr5 (e ▸ hlt) _ _ _ (e ▸ h4),fun o h=>h⟩
 . obtain⟨bm,es,c,seen,cc,h1,-⟩:=hx.it r' l dn hi
   exact hne r' (D2.1 h1).1 (hit r' l dn hi)
 . obtain⟨es,c,h1,-⟩:=hx.mp bo l hi
   exact⟨hne bo (D2.1 h1).1 (hmp bo l hi),fun o h=>h⟩
end
section
variable {ops:Array Oper} {rl:Option Nat} {d0 E:Nat} {K:PS->HI->Prop} {i:HI} {ty:TypeId} {pos:String} {gd:Option (Nat×Bool)}
theorem Self.val (hs:Self rl d0 g st a w) {x:Operand} (hx:st.ev x=.d (.val v)):a.eval x=v∧v.oneCell'=true:=by
 have:=hs.2.eval x
 rw[hx]at this
 generalize a.eval x=u at this
 have e:=DRep.val_eq this
 subst e
 refine⟨rfl,?_⟩
 generalize e:DV.val u=y at this
 cases this with
 | val _ h=>exact h
 | _=>cases e
end
def HMap (bo:Nat) (l:List (List UInt8×DV)) (w:World):Prop:=∃ (es:Array MapEntry) (c:Nat),w.heap[bo]? = some (.map es c)∧MapKept.Stamped es c∧es.toList.length=l.length ∧ ∀ (i:Nat) e q,es.toList[i]? = some e->l[i]? = some q->e.key=vS q.1 ∧ ∀ F w',DRep F w' e.val q.2
def HC (P:Program) (f:FuncId) (fs:List (Value×DV)) (args:List DV) (bo:Nat) (l l':List (List UInt8×DV)) (r:SV):Prop:=
 ∀ (F:Nat->Nat->Prop) (w:World) (vals:List Value),vals.length=args.length->(∀ (i:Nat) v x,vals[i]? = some v->args[i]? = some x->DRep F w v x)->GlobOk F w->(∀ q∈fs,DRep F w q.1 q.2)->(∀ o,¬ F bo o)->HMap bo l w →
  Calls P f vals.toArray w fun e w'=>∃ v,e=.returned v∧SRep (gF fun b o=>F b o∨w.heap.size<=b) w' v r∧HMap bo l' w'∧w'.os=w.os∧w'.tape=w.tape∧w'.output=w.output∧w.heap.size<=w'.heap.size ∧ ∀ b,b<w.heap.size->b≠bo->w'.heap[b]? = w.heap[b]?
section
variable {ops:Array Oper} {K:PS->Prop} {rest:List Oper} {ty:TypeId} {pos:String} {gd:Option (Nat×Bool)}
end
section
variable {ops:Array Oper} {rl:Option Nat} {d0 E:Nat} {K:PS->HI->Prop} {i:HI} {ty:TypeId} {pos:String} {gd:Option (Nat×Bool)}
theorem V0 {f:Nat} {args:List DV} {bo:Nat} {l l':List (List UInt8×DV)} {r:SV} (hc:HC P f fs args bo l l' r) (hi:i.mp=some (bo,l)) (hfs:∀ q∈fs,q∈i.fs) (hres:BR r=true) (hd:I1 o st=true) (hw:st.want ops o=some true) (h:K (st.put o.dst r) { i with mp:=some (bo,l') })
 (hrun:∀ g a w,Self rl d0 g st a w->HX E p i g w->∃ vals:List Value,vals.length=args.length∧(∀ (i:Nat) v x,vals[i]? = some v->args[i]? = some x->DRep (Fx g) w v x)∧(execOp a.eval o).run P w=.ok (.enter f vals.toArray) w):PL P ops rl d0 (HX E p) K [o] st i:=fun g a w hs hX=>by
 obtain⟨vals,v1,v2,hrun⟩:=hrun g a w hs hX
 obtain⟨es,c,h1,h2,h3,h4,h5,h6,h7⟩:=hX.mp bo l hi
 have V0:=hc (Fx g) w vals v1 v2 hs.2.gok (fun q hq=>hX.co.fs q (hfs q hq)) (fun o ho=>h6 o ho.1) ⟨es,c,h1,h2,h3,h4⟩
 unfold wpList
 rw[B9 (M4 hs.2 hw)]
 refine .inl ?_
 unfold Oper.wp
 rw[hrun]
 show Calls P f _ w _
 refine V0.mono ?_
 rintro e w' ⟨v,rfl,r1,⟨es',c',m1,m2,m3,m4⟩,r3,r4,r5,r6,r7⟩
 obtain⟨s1,kp,c1,c2,c3,c4,hown⟩:=HX.put1 (w':=w') hs hX bo r3 r4 r5 r6 r7 (fun _=>h5) h7 (fun _ o hf=>G5 hf.1 (h6 o)) (fun _ e=>by rw[h1]at e;cases e) (fun _ _ _ _ e=>by rw[h1]at e;cases e)
 refine⟨rfl,g,_,{ i with mp:=some (bo,l') },s1.put (SRep.of_call hs.2 r1 hres) _ (H6 (st:=st) hd),⟨c1,c2,c3 fun r' l1 dn hi' e=>?_,fun bo' l1 e=>?_⟩,kp,h⟩
 . obtain⟨bm,es',c',seen,cc,t1,-⟩:=hX.it r' l1 dn hi'
   rw[e,h1]at t1
   cases t1
 . cases e
   exact⟨es',c',m1,m2,m3,m4,fun ho=>h5 (hown bo ho),h6,h7⟩
end
section
variable {rl:Option Nat} {d0 E:Nat} {Q:Exit->PS->HI->Prop} {i:HI}
theorem px_tell {ι:Type} {X:ι->Gh->World->Prop} {Q:Exit->PS->ι->Prop} {i:ι} (hX:Stb (X i)) (h0:∀ B w0 g a w,Rep B w0 g st a w->∃ g',Evo g w g' w∧Rep B w0 g' st' a w) (h:PX P rl d0 X c Q st' i):PX P rl d0 X c Q st i:=fun g a w ⟨hd,hr⟩ hx=>by
 obtain⟨g',h1,h2⟩:=h0 _ _ g a w hr
 exact h g' a w h2.self (hX _ _ _ _ hx (fun i b hi=>(hr.blk i b hi).2) h1)
theorem SW (s i:Nat) {cs:List SV} (hs:st.get s=.bx i 0) (hi:st.bget i=some cs) (hds:Ag cs=some ds) (hlt:Nat.blt i 500000=true:=by rfl):∀ B w0 g a w,Rep B w0 g st a w->∃ g',Evo g w g' w∧Rep B w0 g' ((st.kill i).put (some s) (.rd ds)) a w:=fun B w0 g a w hr=>by
 have hlt5:i<500000:=C0 hlt
 clear hlt
 obtain⟨ev,hr'⟩:=hr.kill i
 have hv:=hr.slots s
 rw[hs]at hv
 obtain⟨b,hb,h1⟩:=hv
 have hd:SRep (g.delb i) w (a.tmps.getD s undef) (.rd ds):=by
  rw[h1]
  obtain⟨b',xs,T,q1,q2,q3,q4,q5⟩:=hr.boxes i cs hi hlt5
  rw[hb]at q1
  cases q1
  obtain⟨t1,t2⟩:=Y0 hds
  refine⟨b,0,fun j=>(xs[j]?).getD undef,C,fun j x hj=>?_⟩
  have hjl:j<cs.length:=by have:=(A6.1 hj).1;omega
  obtain⟨u,hu⟩:∃ u,xs[j]? = some u:=⟨_,Array.getElem?_eq_getElem (by omega)⟩
  obtain⟨c0,t3,t4⟩:=t2 j x hj
  obtain⟨u',t5,t6⟩:=q4 j c0 t3
  rw[hu]at t5
  cases t5
  refine⟨?_,⟨(hr.blk i b hb).1 _,fun k hk=>?_,fun t T n' c' hT hTv=>?_⟩,?_,?_⟩
  . dsimp only;rw[hu,AC,BP q2,E4,hu];rfl
  . obtain⟨h5,h6⟩:=Gh.delb_bl hk
    exact h6 (hr.inj k i b h5 hb)
  . exact G5 hb ((hr.toks t T hT).2 i b (by rw[hTv];rfl))
  . dsimp only;rw[hu];exact q5 j u hjl hu
  . dsimp only;rw[hu];exact(t6.toD t4).mono ev.fx
 refine⟨_,ev,{ hr' with lim:=hr'.lim,size:=hr'.size,boxes:=hr'.boxes,maps:=hr'.maps,dom:=hr'.dom,tdom:=hr'.tdom,tlen:=hr'.tlen,glob:=hr'.glob,slots:=fun j=>?_ }⟩
 rw[Q5]
 by_cases e:j=s
 . rw[B9 e,e];exact hd
 . rw[B5 e];exact hr'.slots j
end
/-! regions that draw their order, with loads from cells that are fixed -/
def OP (b off:Nat) (us:List Value) (w:World):Prop:=∀ (j:Nat) u,us[j]? = some u->w.cell? ⟨b,off+j,none⟩=some u
section
variable {rl:Option Nat} {d0 E:Nat} {b off:Nat} {us:List Value} {K:PS->HI->Prop} {i:HI} {Q:Exit->PS->HI->Prop}
def Lb (P:Program) (rl:Option Nat) (d0:Nat) (b off:Nat) (us:List Value) (o:Oper) (st:PS) (x:SV):Prop:=
 I1 o st=true∧o.guard=none ∧ ∀ g a w,Self rl d0 g st a w->∃ v,SRep g w v x ∧ ∀ w',OP b off us w'->(execOp a.eval o).run P w'=.ok (.value v) w'
theorem X4 {ty:TypeId} {pos:String} (hx:st.ev y=x) (hd:I1 ⟨d,.move y,ty,pos,af,none⟩ st=true:=by kernel_rfl):Lb P rl d0 b off us ⟨d,.move y,ty,pos,af,none⟩ st x:=
 ⟨hd,rfl,fun _ a _ h=>⟨a.eval y,hx ▸ h.2.eval y,fun w' _=>by simp[execOp]⟩⟩
theorem Nr {ty:TypeId} {pos:String} {S f:Nat} {b' o' off' T:Nat} [hF:FieldOf P S f off' T] (hx:st.ev y=.d (.val (.pointer (some ⟨b',o',none⟩)))) (hd:I1 ⟨d,.fieldAddr S y f,ty,pos,af,none⟩ st=true:=by kernel_rfl):Lb P rl d0 b off us ⟨d,.fieldAddr S y f,ty,pos,af,none⟩ st (.d (.val (.pointer (some ⟨b',o'+off',none⟩)))):=
 ⟨hd,rfl,fun _ a _ h=>⟨.pointer (some ⟨b',o'+off',none⟩),DRep.val _ rfl,fun w' _=>by
  have h1:a.eval y=.pointer (some ⟨b',o',none⟩):=DRep.val_eq (by have:=h.2.eval y;rw[hx]at this;exact this)
  have h2:=AQ (hF:=hF) (d:=d) (ty:=ty) (pos:=pos) (af:=af) (gd:=none) (f:=f) (w:=w') h1
  rw[h2,Addr.add_lit]⟩⟩
end
section
variable {ops:Array Oper} {rl:Option Nat} {d0 E:Nat} {K:PS->HI->Prop} {K':PS->HI->Prop} {Q:Exit->PS->HI->Prop} {i:HI}
theorem Et (s i:Nat) {ms:List (Value×DV)} (hs:st.get s=.mb i) (hi:st.bget i=some [.mc ms]) (hge:Nat.ble 500000 i=true:=by rfl):∀ B w0 g a w,Rep B w0 g st a w->∃ g',Evo g w g' w∧Rep B w0 g' ((st.kill i).put (some s) (.d (.mp ms))) a w:=fun B w0 g a w hr=>by
 obtain⟨ev,hr'⟩:=hr.kill i
 have hv:=hr.slots s
 rw[hs]at hv
 obtain⟨b,q1,q2⟩:=hv
 obtain⟨b',es,ck,r1,r2,r3⟩:=hr.maps i ms hi (C0 hge)
 rw[q1]at r1
 cases r1
 have hd:DRep (Fx (g.delb i)) w (a.tmps.getD s undef) (.mp ms):=by
  rw[q2]
  refine .mp (es:=es) (ck:=ck) ?_ r3.2.1 ⟨(hr.blk i b q1).1 0,fun j hj=>?_,fun t T n' c' hT hTv=>?_⟩ r3.1 (fun k e p he hp=>(r3.2.2 k e p he hp).1) fun k e p he hp=>((r3.2.2 k e p he hp).2).mono ev.fx
  . unfold Z3
    rw[r2]
  . obtain⟨h1,h2⟩:=Gh.delb_bl hj
    exact h2 (hr.inj j i b h1 q1)
  . exact G5 q1 ((hr.toks t T hT).2 i b (by rw[hTv];rfl))
 refine⟨_,ev,{ hr' with lim:=hr'.lim,size:=hr'.size,boxes:=hr'.boxes,maps:=hr'.maps,dom:=hr'.dom,tdom:=hr'.tdom,tlen:=hr'.tlen,glob:=hr'.glob,slots:=fun j=>?_ }⟩
 rw[Q5]
 by_cases e:j=s
 . rw[B9 e,e];exact hd
 . rw[B5 e];exact hr'.slots j
end
open Go.RowKit Go.Maps Go.Sort Go.WideMaps
variable {F:Nat->Nat->Prop} {w:World} {args caps e ys:List DV} {rs:List ResultVar} {c:Code} {l:List Operand} {P:Program} {x y:Operand} {f T n b E id:Nat} {g:Gh} {R:Value->DV->Prop} {xs news vs:List Value} {a:Act} {v u:Value} {ts:Array TypeId} {A:Option Addr} {kd:IntKind} {o:Oper} {m:Int} {st:PS}
section
variable {ops:Array Oper} {K:PS->Prop} {rest:List Oper} {d:Option Nat} {ty:TypeId} {pos:String} {af:Array Edge} {gd:Option (Nat×Bool)}
end
section
variable {rl:Option Nat} {d0 E:Nat} {p:HP} {l:List Oper} {us:List Value} {i:HI} {Q:Exit->PS->HI->Prop} {b off:Nat}
end
structure EP where
 w:World
 F:Nat->Nat->Prop
 ex:Nat->Prop
variable {p:EP}
abbrev EB:=List (Nat×(List Value×Nat))
def EB.del (l:EB) (b:Nat):EB:=l.filter fun p=>!Nat.beq p.1 b
structure EI where
 bs:EB
 fs:List (Value×DV)
 it:Option (Nat×List (Value×DV)×List (Value×DV))
variable {M:SV->EI->Prop} {i:EI}
def HTe (it:Option (Nat×List (Value×DV)×List (Value×DV))) (N:Nat) (g:Gh) (w:World):Prop:=
 ∀ r l dn,it=some (r,l,dn)->∃ bm es c seen cc,w.heap[r]? = some (.mapIter (some bm) c seen cc)∧Z3 w bm 0=some (.mp es c)∧c<=cc∧DW g w es c l∧Vis es l seen dn ∧ ¬ R4 g w r∧Fx g bm 0∧N<=r∧(∀ q,dn.getLast? = some q->∃ (s0:Array Nat) (e:MapEntry),seen=s0.push e.born∧cc=c∧e∈es.toList∧e.key=q.1∧DRep (Fx g) w e.val q.2)
theorem HTe.keep {it:Option (Nat×List (Value×DV)×List (Value×DV))} {N:Nat} {g':Gh} {w':World} (h:HTe it N g w) (hb:∀ r l dn,it=some (r,l,dn)->w'.heap[r]? = w.heap[r]?) (hown:∀ b,R4 g' w' b->R4 g w b) (kp:Kp (Fx g) w (Fx g') w'):HTe it N g' w':=fun r l dn hi=>by
 obtain⟨bm,es,c,seen,cc,h1,h2,h3,h4,h5,h6,h7,h9,h8⟩:=h r l dn hi
 obtain⟨k1,k2⟩:=kp bm 0 h7 (by rw[h2];rfl)
 refine⟨bm,es,c,seen,cc,(hb r l dn hi).trans h1,k2.trans h2,h3,h4.mono kp,h5,fun ho=>h6 (hown r ho),k1,h9,fun q hq=>?_⟩
 obtain⟨s0,e,e1,e2,e3,e4,e5⟩:=h8 q hq
 exact⟨s0,e,e1,e2,e3,e4,e5.mono kp⟩
structure HE (p:EP) (i:EI) (g:Gh) (w:World):Prop where
 os:w.os=p.w.os
 tape:w.tape=p.w.tape
 output:w.output=p.w.output
 size:p.w.heap.size<=w.heap.size
 block:∀ b,b<p.w.heap.size->¬ p.ex b->w.heap[b]? = p.w.heap[b]?
 f0:∀ b o,g.f0 b o->p.F b o
 new:∀ b o,p.w.heap.size<=b->p.F b o
 own:∀ b,R4 g w b->p.w.heap.size<=b
 gl:∀ q cs,G1 gs q=some cs->q<p.w.heap.size ∧ ¬ p.ex q
 fs:∀ q∈i.fs,DRep (Fx g) w q.1 q.2
 bs:∀ (b:Nat) (xs:List Value) (T:Nat),G1 i.bs b=some (xs,T)->w.heap[b]? = some (.cells xs.toArray T (0,0)) ∧ ¬ R4 g w b∧(∀ k,¬ g.f0 b k)∧(p.w.heap.size<=b∨p.ex b)
 it:HTe i.it p.w.heap.size g w
theorem HE.stb (i:EI):Stb (HE p i):=fun g w g' w' h hlt ev=>by
 have hown:∀ b,R4 g' w' b->R4 g w b:=fun b=>ev.own
 refine⟨ev.bel.os.trans h.os,ev.bel.tape.trans h.tape,ev.bel.output.trans h.output,D9 h.size ev.bel.size,fun b hb hx=>(ev.heap b fun ho=>by have:=h.own b ho;omega).trans (h.block b hb hx),fun b o hf=>h.f0 b o (by rw[<-ev.f0];exact hf),h.new,fun b ho=>h.own b (hown b ho),h.gl,fun q hq=>(h.fs q hq).mono ev.fx,fun b xs T hb=>?_,h.it.keep (fun r l dn hi=>?_) hown ev.fx⟩
 . obtain⟨h1,h2,h3,h4⟩:=h.bs b xs T hb
   exact⟨(ev.heap b h2).trans h1,fun ho=>h2 (hown b ho),fun k hk=>h3 k (by rw[<-ev.f0];exact hk),h4⟩
 . obtain⟨bm,es,c,seen,cc,h1,h2,h3,h4,h5,h6,-⟩:=h.it r l dn hi
   exact ev.heap r h6
def Lf (vs:List Value) (ds:List DV):Prop:=∀ (j:Nat) u v,vs[j]? = some u->ds[j]? = some (.val v)->u=v
theorem Ar (l:EB) (b j:Nat):G1 (l.del b) j=if j=b then none else G1 l j:=Ck l b j
section
variable {rl:Option Nat} {d0:Nat} {i i':EI} {w w':World}
theorem HE.turn (hs:Self rl d0 g st a w) (hx:HE p i g w) (hos:w'.os=w.os) (ht:w'.tape=w.tape) (ho:w'.output=w.output) (hsz:w.heap.size<=w'.heap.size)
 (hne:∀ b,b<w.heap.size->G1 i.bs b=none->w'.heap[b]? = w.heap[b]?)
 (hb:∀ (b:Nat) (xs:List Value) (T:Nat),G1 i'.bs b=some (xs,T)->w'.heap[b]? = some (.cells xs.toArray T (0,0))∧(G1 i.bs b≠none∨w.heap.size<=b))
 (hf:∀ q∈i'.fs,q∈i.fs∨DRep (Fx g) w q.1 q.2∨DRep (Fx { g with f0:=fun b o=>g.f0 b o∧G1 i'.bs b=none }) w' q.1 q.2) (hit:i'.it=i.it):
 Self rl d0 { g with f0:=fun b o=>g.f0 b o∧G1 i'.bs b=none } st a w'∧Kp (Fx g) w (Fx { g with f0:=fun b o=>g.f0 b o∧G1 i'.bs b=none }) w'∧HE p i' { g with f0:=fun b o=>g.f0 b o∧G1 i'.bs b=none } w':=by
 have hr:=hs.2
 have hid:∀ b,G1 i.bs b≠none->∃ (xs:List Value) (T:Nat),w.heap[b]? = some (.cells xs.toArray T (0,0)) ∧ ¬ R4 g w b∧(∀ k,¬ g.f0 b k)∧(p.w.heap.size<=b∨p.ex b):=fun b hb=>by
  cases e:G1 i.bs b with
  | none=>exact G5 e hb
  | some q=>obtain⟨xs,T⟩:=q;exact⟨xs,T,hx.bs b xs T e⟩
 have none_of:∀ b,((∃ (xs:List Value) (T:Nat),w.heap[b]? = some (.cells xs.toArray T (0,0)) ∧ ¬ R4 g w b∧(∀ k,¬ g.f0 b k)∧(p.w.heap.size<=b∨p.ex b))->False)->G1 i.bs b=none:=fun b h=>by
  cases e:G1 i.bs b with
  | none=>rfl
  | some q=>exact(h (hid b (by rw[e];simp))).elim
 obtain⟨s1,kp,hown⟩:=hs.chg (w':=w') (fun b o=>g.f0 b o∧G1 i'.bs b=none) hsz (fun b o hlt hf0=>⟨hf0,by
  cases e:G1 i'.bs b with
  | none=>rfl
  | some q=>
   obtain⟨xs,T⟩:=q
   rcases(hb b xs T e).2 with h1|h1
   . obtain⟨_,_,_,_,h3,_⟩:=hid b h1;exact G5 hf0 (h3 o)
   . omega⟩) (fun b o hlt=>⟨hr.f0 b o (D9 hsz hlt),by
  cases e:G1 i'.bs b with
  | none=>rfl
  | some q=>obtain⟨xs,T⟩:=q;have:=(D2.1 (hb b xs T e).1).1;omega⟩) (fun b hlt hO=>hne b hlt (none_of b fun⟨_,_,_,h2,_⟩=>h2 hO)) (fun b o hlt hF hse=>L3 (hne b hlt (none_of b fun⟨_,_,_,_,h3,_⟩=>h3 o hF.1)) o) (fun q cs hq=>hne q (I9 (hx.gl q cs hq).1 hx.size) (none_of q fun⟨_,_,_,_,_,h4⟩=>by
  obtain⟨h5,h6⟩:=hx.gl q cs hq
  rcases h4 with h4|h4
  . omega
  . exact h6 h4)) (fun D hD _=>hne D (D2.1 hD).1 (none_of D fun⟨_,_,h1,_⟩=>by rw[hD]at h1;cases h1))
 refine⟨s1,kp,hos.trans hx.os,ht.trans hx.tape,ho.trans hx.output,D9 hx.size hsz,fun b hb1 hb2=>(hne b (I9 hb1 hx.size) (none_of b fun⟨_,_,_,_,_,h4⟩=>?_)).trans (hx.block b hb1 hb2),fun b o hf=>hx.f0 b o hf.1,hx.new,fun b hO=>hx.own b (hown b hO),hx.gl,fun q hq=>?_,fun b xs T e=>?_,hit ▸ hx.it.keep (fun r l dn hi=>?_) hown kp⟩
 . rcases h4 with h4|h4
   . omega
   . exact hb2 h4
 . rcases hf q hq with h1|h1|h1
   . exact(hx.fs q h1).mono kp
   . exact h1.mono kp
   . exact h1
 . obtain⟨h1,h2⟩:=hb b xs T e
   refine⟨h1,fun hO=>?_,fun k hk=>?_,?_⟩
   . rcases h2 with h2|h2
     . obtain⟨_,_,_,h3,_⟩:=hid b h2
       exact h3 (hown b hO)
     . have hlt:=(D2.1 h1).1
       rcases hO with h3|⟨j,h3⟩|⟨t,T',h3,h4⟩
       . omega
       . have:=(hr.blk j _ h3).2;omega
       . obtain⟨⟨n',xs',h5⟩,-⟩:=hr.toks t T' h3
         have:=(h5.lt _ h4).2
         omega
   . rw[hk.2]at e;cases e
   . rcases h2 with h2|h2
     . obtain⟨_,_,_,_,_,h3⟩:=hid b h2;exact h3
     . exact .inl (D9 hx.size h2)
 . obtain⟨bm,es,c,seen,cc,h1,-⟩:=hx.it r l dn hi
   exact hne r (D2.1 h1).1 (none_of r fun⟨_,_,h2,_⟩=>by rw[h1]at h2;cases h2)
theorem HE.put1 (hs:Self rl d0 g st a w) (hx:HE p i g w) (r:Nat) {ob:Obj} (hr0:w.heap[r]? = some ob) (hnc:∀ xs T z,ob ≠ .cells xs T z) (hnm:∀ es c,ob ≠ .map es c) (hos:w'.os=w.os) (ht:w'.tape=w.tape) (ho:w'.output=w.output) (hsz:w.heap.size<=w'.heap.size) (hne:∀ b,b<w.heap.size->b≠r->w'.heap[b]? = w.heap[b]?)
 (hr1:¬ R4 g w r) (hr2:p.w.heap.size<=r) (hr4:w.heap[r]? = some (.deferred (some []))->∀ d∈a.defers,d ≠ { target:=.collected r,args:=#[] }):
 Self rl d0 g st a w'∧Kp (Fx g) w (Fx g) w'∧(∀ b,R4 g w' b->R4 g w b) ∧ ∀ it',HTe it' p.w.heap.size g w'->HE p ⟨i.bs,i.fs,it'⟩ g w':=by
 have hlt:∀ q cs,G1 gs q=some cs->q<w.heap.size:=fun q cs hq=>I9 (hx.gl q cs hq).1 hx.size
 obtain⟨s1,kp,hown⟩:=hs.chg g.f0 hsz (fun _ _ _ h=>h) (fun b o hb=>hs.2.f0 b o (D9 hsz hb)) (fun b hb hO=>hne b hb fun e=>hr1 (e ▸ hO)) (fun b o hb hf hse=>by
  refine L3 (hne b hb fun e=>?_) o
  subst e
  rw[see_not hr0 hnc hnm]at hse
  cases hse) (fun q cs hq=>hne q (hlt q cs hq) fun e=>by have:=(hx.gl q cs hq).1;omega) (fun D hD ⟨d,hd1,hd2⟩=>hne D (D2.1 hD).1 fun e=>by subst e;exact hr4 hD d hd1 hd2)
 refine⟨s1,kp,hown,fun it' hit=>⟨hos.trans hx.os,ht.trans hx.tape,ho.trans hx.output,D9 hx.size hsz,fun b hb1 hb2=>(hne b (I9 hb1 hx.size) fun e=>by omega).trans (hx.block b hb1 hb2),hx.f0,hx.new,fun b hO=>hx.own b (hown b hO),hx.gl,fun q hq=>(hx.fs q hq).mono kp,fun b xs T e=>?_,hit⟩⟩
 obtain⟨h1,h2,h3,h4⟩:=hx.bs b xs T e
 refine⟨(hne b (D2.1 h1).1 fun e=>?_).trans h1,fun hO=>h2 (hown b hO),h3,h4⟩
 rw[e,hr0]at h1
 exact hnc _ _ _ (J0 h1)
theorem HE.below (hs:Self rl d0 g st a w) (hx:HE p i g w) (hb:Below w.heap.size w w'):
 Self rl d0 g st a w'∧Kp (Fx g) w (Fx g) w'∧(∀ b,R4 g w' b->R4 g w b) ∧ ∀ it',HTe it' p.w.heap.size g w'->HE p ⟨i.bs,i.fs,it'⟩ g w':=by
 have hlt:∀ q cs,G1 gs q=some cs->q<w.heap.size:=fun q cs hq=>I9 (hx.gl q cs hq).1 hx.size
 obtain⟨s1,kp,hown⟩:=hs.chg g.f0 hb.size (fun _ _ _ h=>h) (fun b o h=>hs.2.f0 b o (D9 hb.size h)) (fun b h _=>hb.block b h) (fun b o h _ _=>L3 (hb.block b h) o) (fun q cs hq=>hb.block q (hlt q cs hq)) (fun D hD _=>hb.block D (D2.1 hD).1)
 refine⟨s1,kp,hown,fun it' hit=>⟨hb.os.trans hx.os,hb.tape.trans hx.tape,hb.output.trans hx.output,D9 hx.size hb.size,fun b hb1 hb2=>(hb.block b (I9 hb1 hx.size)).trans (hx.block b hb1 hb2),hx.f0,hx.new,fun b hO=>hx.own b (hown b hO),hx.gl,fun q hq=>(hx.fs q hq).mono kp,fun b xs T e=>?_,hit⟩⟩
 obtain⟨h1,h2,h3,h4⟩:=hx.bs b xs T e
 exact⟨(hb.block b (D2.1 h1).1).trans h1,fun hO=>h2 (hown b hO),h3,h4⟩
end
/-! operations -/
def BO:List Value->Nat->List Value->List Value
 | xs,_,[]=>xs
 | xs,o,v::vs=>BO (xs.set o v) (o+1) vs
theorem KP (P:Program) (b o T:Nat):∀ (vs xs:List Value) (j:Nat) (w:World),w.heap[b]? = some (.cells xs.toArray T (0,0))->o+j+vs.length<=xs.length->(∀ v∈vs,v.oneCell'=true) →
 ∃ w',(storeCells ⟨b,o,none⟩ vs j).run P w=.ok () w'∧w'.heap[b]? = some (.cells (BO xs (o+j) vs).toArray T (0,0))∧w'.os=w.os∧w'.tape=w.tape∧w'.output=w.output∧w'.heap.size=w.heap.size ∧ ∀ k,k≠b->w'.heap[k]? = w.heap[k]?:=by
 intro vs
 induction vs with
 | nil=>exact fun xs j w h _ _=>⟨w,C,h,C,C,C,C,fun _ _=>C⟩
 | cons v vs ih=>
  intro xs j w h hle hone
  have hlt:o+j<xs.length:=by simp at hle;omega
  have hcell:w.cell? ⟨b,o+j,none⟩=some xs[o+j]:=by simp[World.cell?,h,hlt]
  have hfr:w.frozen? ⟨b,o+j,none⟩=false:=by simp[World.frozen?,h]
  have hv1:=hone v (by simp)
  have h2:(w.setCell ⟨b,o+j,none⟩ v).heap[b]? = some (.cells (xs.set (o+j) v).toArray T (0,0)):=by
   simp[World.setCell,Array.getElem?_modify,h]
  obtain⟨w',q1,q2,q3,q4,q5,q6,q7⟩:=ih (xs.set (o+j) v) (j+1) (w.setCell ⟨b,o+j,none⟩ v) h2 (by simp at hle ⊢;omega) (fun u hu=>hone u (by simp[hu]))
  refine⟨w',?_,?_,q3,q4,q5,q6.trans (by simp[World.setCell]),fun k hk=>(q7 k hk).trans (Below.heap_setCell w _ _ k (by simpa using hk))⟩
  . simp only[storeCells,Sem.run_bind,Addr.add_lit,Qr hv1 hcell hfr,D4]
    exact q1
  . rw[BO]
    rw[show o+(j+1)=o+j+1 by omega]at q2
    exact q2
section
variable {ops:Array Oper} {rl:Option Nat} {d0:Nat} {K:PS->EI->Prop} {d:Option Nat} {ty:TypeId} {pos:String} {af:Array Edge} {gd:Option (Nat×Bool)}
theorem LE (hs:Self rl d0 g st a w) (hx:st.ev x=.d (.val v)):a.eval x=v:=DRep.val_eq (by have:=hs.2.eval x;rw[hx]at this;exact this)
theorem W7 {o:Nat} [hT:AggOf P T false 1] (hy:st.ev y=.d (.val (.pointer (some ⟨b,o,none⟩)))) (hb:G1 i.bs b=some (xs,E)) (hu:xs[o]? = some u) (h1:u.oneCell'=true) (h:K (st.put d (.d (.val u))) i)
 (hd:I1 ⟨d,.load T y,ty,pos,af,gd⟩ st=true:=by kernel_rfl) (hw:st.want ops ⟨d,.load T y,ty,pos,af,gd⟩=some true:=by rfl):PL P ops rl d0 (HE p) K [⟨d,.load T y,ty,pos,af,gd⟩] st i:=Gv hw fun g a w hs hX=>by
 have hcell:w.cell? ⟨b,o,none⟩=some u:=by
  have:=(hX.bs b xs E hb).1
  simp[World.cell?,this,hu]
 exact⟨u,w,.inl (EQ (LE hs hy) (Y2 hcell)),g,_,i,hs.put (x:=.d (.val u)) (DRep.val _ h1) _ (H6 (st:=st) hd),hX,Kp.same fun _ _ h=>h,h⟩
theorem CY {z:Operand} {o k:Nat} {bb:Bool} {ds:List DV} [hT:AggOf P T bb k] (hz:st.ev z=.d (.val (.pointer (some ⟨b,o,none⟩)))) (hb:G1 i.bs b=some (xs,E)) (hy:Ay (st.ev y)=some (ds.map .d)) (hk:ds.length=k) (ho:o+k<=xs.length)
 (h:∀ vs:List Value,vs.length=k->(∀ v∈vs,v.oneCell'=true)->Lf vs ds->K (st.put d .any) ⟨(b,(BO xs o vs,E))::i.bs,vs.zip ds++i.fs,i.it⟩)
 (hd:I1 ⟨d,.store T z y,ty,pos,af,gd⟩ st=true:=by kernel_rfl) (hw:st.want ops ⟨d,.store T z y,ty,pos,af,gd⟩=some true:=by rfl):PL P ops rl d0 (HE p) K [⟨d,.store T z y,ty,pos,af,gd⟩] st i:=Gv hw fun g a w hs hX=>by
 have h4:=hs.2.eval y
 obtain⟨h5,h6,h7⟩:=h4.cells hy
 rw[A8]at h5
 have hbl:=(hX.bs b xs E hb).1
 obtain⟨w',q1,q2,q3,q4,q5,q6,q7⟩:=KP P b o E (a.eval y).cells.toList xs 0 w hbl (by simp;omega) h6
 have hrun:(execOp a.eval ⟨d,.store T z y,ty,pos,af,gd⟩).run P w=.ok .skip w':=by
  simp only[execOp,Instr.storeAt,LE hs hz,Instr.sureAddr,pure_bind,Sem.run_bind,storeVar,hT.size,D4]
  rw[B5 (by rw[h5,hk];simp)]
  simp only[Sem.run_pure,D4,q1]
 obtain⟨s1,kp,hX'⟩:=HE.turn (i':=⟨(b,(BO xs o (a.eval y).cells.toList,E))::i.bs,(a.eval y).cells.toList.zip ds++i.fs,i.it⟩) hs hX q3 q4 q5 (Nat.le_of_eq q6.symm) (fun b' _ hb'=>q7 b' fun e=>by rw[e,hb]at hb';cases hb') (fun b' xs' T' hb'=>by
  rw[G3]at hb'
  split at hb'
  . rename_i e;subst e;cases hb';exact⟨by simpa using q2,.inl (by rw[hb];simp)⟩
  . rename_i e;exact⟨(q7 b' e).trans (hX.bs b' xs' T' hb').1,.inl (by rw[hb'];simp)⟩) (fun q hq=>by
  rcases List.mem_append.1 hq with hq|hq
  . right;left
    obtain⟨j,hj⟩:=List.mem_iff_getElem?.1 hq
    obtain⟨hj1,hj2⟩:=List.getElem?_zip_eq_some.1 hj
    obtain⟨u,r1,r2⟩:=h7 j (.d q.2) (by rw[C6,hj2];rfl)
    have:(a.eval y).cells[j]? = some q.1:=by simpa using hj1
    rw[r1]at this
    rw[<-J0 this]
    exact r2
  . exact .inl hq) C
 refine⟨undef,w',.inr ⟨hrun,C⟩,_,_,_,s1.put (x:=.any) trivial _ (H6 (st:=st) hd),hX',kp,h _ (by rw[Array.length_toList,h5,hk]) h6 fun j u v hj hd'=>?_⟩
 obtain⟨u',r1,r2⟩:=h7 j (.d (.val v)) (by rw[C6,hd'];rfl)
 rw[Array.getElem?_toList,r1]at hj
 cases hj
 exact DRep.val_eq r2
theorem Nf {k:Nat} (h:∀ (j:Nat) x,e[j]? = some x->∃ u,news[0*k+j]? = some u∧R u x):∀ q∈news.zip e,R q.1 q.2:=fun q hq=>by
 obtain⟨j,hj⟩:=List.mem_iff_getElem?.1 hq
 obtain⟨hj1,hj2⟩:=List.getElem?_zip_eq_some.1 hj
 obtain⟨u,r1,r2⟩:=h j q.2 hj2
 rw[Nat.zero_mul,E4,hj1]at r1
 rw[J0 r1]
 exact r2
theorem Ra {k:Nat} (h:∀ (j:Nat) x,e[j]? = some x->∃ u,news[0*k+j]? = some u∧R u x) {j:Nat} {x:DV} (hu:news[j]? = some u) (hx:e[j]? = some x):R u x:=by
 obtain⟨u',r1,r2⟩:=h j x hx
 rw[Nat.zero_mul,E4,hu]at r1
 rw[J0 r1]
 exact r2
theorem RS {bytes k:Nat} {c:Nat} [hA:AppOf P T E k bytes] (hx:st.ev x=.d (.val (.slice (some ⟨b,0,none⟩) n c))) (hb:G1 i.bs b=some (xs,E)) (hlen:xs.length=c*k) (hn:n<=c) (hc:c<=maxLen) (hy:asSl (st.ev y)=some (k,[e])) (hbt:(n+1)*bytes<=140737488355328) (hl:n+1<=140737488355328)
 (h:∀ (b' c':Nat) (xs' news:List Value),(b'=b∨G1 i.bs b'=none)->news.length=k->(∀ u∈news,u.oneCell'=true)->xs'.length=c'*k->n+1<=c'->c'<=maxLen->xs'.take ((n+1)*k)=xs.take (n*k)++news->Lf news e->K (st.put d (.d (.val (.slice (some ⟨b',0,none⟩) (n+1) c')))) ⟨(b',(xs',E))::i.bs.del b,news.zip e++i.fs,i.it⟩)
 (hd:I1 ⟨d,.call { callee:=.builtin .append,args:=#[x,y],argTypes:=#[T,T] },ty,pos,af,gd⟩ st=true:=by kernel_rfl) (hw:st.want ops ⟨d,.call { callee:=.builtin .append,args:=#[x,y],argTypes:=#[T,T] },ty,pos,af,gd⟩=some true:=by rfl):
 PL P ops rl d0 (HE p) K [⟨d,.call { callee:=.builtin .append,args:=#[x,y],argTypes:=#[T,T] },ty,pos,af,gd⟩] st i:=Gv hw fun g a w hs hX=>by
 have hr:=hs.2
 have hbl:=(hX.bs b xs E hb).1
 obtain⟨A2,c2,news,hv2,hc2,hm2,hk2,hl2,hcell2,hone2,hrep2⟩:=DRep.row ((hr.eval y).asSl hy)
 obtain⟨ti,z,q1,q2,q3,q4,q5⟩:=hA.inf
 have hnk:n*k<=c*k:=Nat.mul_le_mul_right _ hn
 have hown:w.ownsRow 0 E k (.slice (some ⟨b,0,none⟩) n c) n (xs.take (n*k)):=⟨by rw[F4,hlen];omega,.inr ⟨b,c,xs.toArray,rfl,E7 _,hbl,hn,hc,by simpa using hlen,by simp⟩⟩
 obtain⟨v',w',r1,r2,r3,r4,r5,r6,r7⟩:=Cp (P:=P) w 0 T ty E ti z k bytes hA.und q1 q2 q3 q4 q5 (.slice (some ⟨b,0,none⟩) n c) n (xs.take (n*k)) hown A2 1 c2 news (by simpa using hl2) (fun _=>by
  obtain⟨b2,off,rfl,hcell⟩:=hcell2 (by simp)
  exact⟨_,C,fun j u hj=>by rw[Addr.add_lit];exact(hcell j u hj).1⟩) hone2 (by unfold maxLen;omega) hbt (E7 _)
 obtain⟨hxl,(⟨-,q0⟩|⟨gb,cap,cur,rfl,-,t2,t3,t4,t5,t6⟩)⟩:=r2
 . omega
 have hgb:gb=b∨gb=w.heap.size:=by
  rcases r6 with r6|r6
  . exact .inl (by simpa[Value.ownBlock]using r6)
  . exact .inr (by simpa[Value.ownBlock]using r6)
 have hnone:gb=w.heap.size->G1 i.bs gb=none:=fun e=>by
  cases e':G1 i.bs gb with
  | none=>rfl
  | some q=>obtain⟨ys,T'⟩:=q;have:=(D2.1 (hX.bs gb ys T' e').1).1;omega
 have hrun:(execOp a.eval ⟨d,.call { callee:=.builtin .append,args:=#[x,y],argTypes:=#[T,T] },ty,pos,af,gd⟩).run P w=.ok (.value (.slice (some ⟨gb,0,none⟩) (n+1) cap)) w':=by
  have e:a.eval y=.slice A2 1 c2:=hv2
  simp only[execOp,resolve,invoke,builtin,Sem.run_bind,Sem.run_pure,D4,List.map_toArray,List.map_cons,List.map_nil,LE hs hx,e,r1]
 obtain⟨s1,kp,hX'⟩:=HE.turn (i':=⟨(gb,(cur.toList,E))::i.bs.del b,news.zip e++i.fs,i.it⟩) hs hX r3.os r3.tape r3.output r3.size (fun b' hlt hb'=>r4 b' hlt fun e=>by
  have:b=b':=by simpa[Value.ownBlock]using e
  rw[<-this,hb]at hb';cases hb') (fun b' xs' T' hb'=>by
  rw[G3]at hb'
  split at hb'
  . rename_i e;subst e;cases hb'
    refine⟨by simpa using t2,?_⟩
    rcases hgb with rfl|h2
    . exact .inl (by rw[hb];simp)
    . exact .inr (Nat.le_of_eq h2.symm)
  . rename_i e
    rw[Ar]at hb'
    split at hb'
    . cases hb'
    . rename_i e2
      have h2:=(hX.bs b' xs' T' hb').1
      exact⟨(r4 b' (D2.1 h2).1 fun e3=>e2 (by simpa[Value.ownBlock]using e3.symm)).trans h2,.inl (by rw[hb'];simp)⟩) (fun q hq=>by
  rcases List.mem_append.1 hq with hq|hq
  . exact .inr (.inl (Nf (k:=k) (R:=fun u x=>DRep (Fx g) w u x) (fun j x hj=>hrep2 0 j e x C hj) q hq))
  . exact .inl hq) C
 refine⟨_,w',.inl hrun,_,_,_,s1.put (x:=.d (.val (.slice (some ⟨gb,0,none⟩) (n+1) cap))) (DRep.val _ C) _ (H6 (st:=st) hd),hX',kp,h gb cap cur.toList news ?_ (by simpa using hl2) hone2 (by simpa using t5) t3 t4 t6 fun j u v hj hd'=>?_⟩
 . rcases hgb with h2|h2
   . exact .inl h2
   . exact .inr (hnone h2)
 . exact DRep.val_eq (Ra (k:=k) (R:=fun u x=>DRep (Fx g) w u x) (fun j x hj=>hrep2 0 j e x C hj) hj hd')
theorem pl_ean {bytes k:Nat} [hA:AppOf P T E k bytes] (hx:st.ev x=.d (.val (.slice none 0 0))) (hy:asSl (st.ev y)=some (k,[e])) (hbt:bytes<=140737488355328)
 (h:∀ (b' c':Nat) (xs' news:List Value),G1 i.bs b'=none->news.length=k->(∀ u∈news,u.oneCell'=true)->xs'.length=c'*k->1<=c'->c'<=maxLen->xs'.take k=news->Lf news e->K (st.put d (.d (.val (.slice (some ⟨b',0,none⟩) 1 c')))) ⟨(b',(xs',E))::i.bs,news.zip e++i.fs,i.it⟩)
 (hd:I1 ⟨d,.call { callee:=.builtin .append,args:=#[x,y],argTypes:=#[T,T] },ty,pos,af,gd⟩ st=true:=by kernel_rfl) (hw:st.want ops ⟨d,.call { callee:=.builtin .append,args:=#[x,y],argTypes:=#[T,T] },ty,pos,af,gd⟩=some true:=by rfl):
 PL P ops rl d0 (HE p) K [⟨d,.call { callee:=.builtin .append,args:=#[x,y],argTypes:=#[T,T] },ty,pos,af,gd⟩] st i:=Gv hw fun g a w hs hX=>by
 have hr:=hs.2
 obtain⟨A2,c2,news,hv2,hc2,hm2,hk2,hl2,hcell2,hone2,hrep2⟩:=DRep.row ((hr.eval y).asSl hy)
 obtain⟨ti,z,q1,q2,q3,q4,q5⟩:=hA.inf
 obtain⟨v',w',r1,r2,r3,r4,r5,r6,r7⟩:=Cp (P:=P) w w.heap.size T ty E ti z k bytes hA.und q1 q2 q3 q4 q5 (.slice none 0 0) 0 [] (World.ownsRow_nil _ _ _ _) A2 1 c2 news (by simpa using hl2) (fun _=>by
  obtain⟨b2,off,rfl,hcell⟩:=hcell2 (by simp)
  exact⟨_,C,fun j u hj=>by rw[Addr.add_lit];exact(hcell j u hj).1⟩) hone2 (by unfold maxLen;omega) (by omega) (E0 _)
 obtain⟨hxl,(⟨-,q0⟩|⟨gb,cap,cur,rfl,t1,t2,t3,t4,t5,t6⟩)⟩:=r2
 . omega
 have hnone:G1 i.bs gb=none:=by
  cases e':G1 i.bs gb with
  | none=>rfl
  | some q=>obtain⟨ys,T'⟩:=q;have:=(D2.1 (hX.bs gb ys T' e').1).1;omega
 have hrun:(execOp a.eval ⟨d,.call { callee:=.builtin .append,args:=#[x,y],argTypes:=#[T,T] },ty,pos,af,gd⟩).run P w=.ok (.value (.slice (some ⟨gb,0,none⟩) 1 cap)) w':=by
  have e:a.eval y=.slice A2 1 c2:=hv2
  simp only[execOp,resolve,invoke,builtin,Sem.run_bind,Sem.run_pure,D4,List.map_toArray,List.map_cons,List.map_nil,LE hs hx,e,r1,E4]
 obtain⟨s1,kp,hX'⟩:=HE.turn (i':=⟨(gb,(cur.toList,E))::i.bs,news.zip e++i.fs,i.it⟩) hs hX r3.os r3.tape r3.output r3.size (fun b' hlt hb'=>r4 b' hlt (by simp[Value.ownBlock])) (fun b' xs' T' hb'=>by
  rw[G3]at hb'
  split at hb'
  . rename_i e;subst e;cases hb'
    exact⟨by simpa using t2,.inr t1⟩
  . have h2:=(hX.bs b' xs' T' hb').1
    exact⟨(r4 b' (D2.1 h2).1 (by simp[Value.ownBlock])).trans h2,.inl (by rw[hb'];simp)⟩) (fun q hq=>by
  rcases List.mem_append.1 hq with hq|hq
  . exact .inr (.inl (Nf (k:=k) (R:=fun u x=>DRep (Fx g) w u x) (fun j x hj=>hrep2 0 j e x C hj) q hq))
  . exact .inl hq) C
 refine⟨_,w',.inl hrun,_,_,_,s1.put (x:=.d (.val (.slice (some ⟨gb,0,none⟩) 1 cap))) (DRep.val _ C) _ (H6 (st:=st) hd),hX',kp,h gb cap cur.toList news hnone (by simpa using hl2) hone2 (by simpa using t5) (by simpa using t3) t4 (by simpa using t6) fun j u v hj hd'=>DRep.val_eq (Ra (k:=k) (R:=fun u x=>DRep (Fx g) w u x) (fun j x hj=>hrep2 0 j e x rfl hj) hj hd')⟩
end
/-! operations on exact values, without memory -/
section
variable {sq:Bool} {ops:Array Oper} {K:PS->Prop} {rest:List Oper} {d:Option Nat} {ty:TypeId} {pos:String} {af:Array Edge} {gd:Option (Nat×Bool)}
theorem ls_lenv (T:TypeId) (x:Operand) {k c:Nat} [hS:SliceOf P T E k] (hx:st.ev x=.d (.val (.slice A n c))) (hd:I1 ⟨d,.call { callee:=.builtin .len,args:=#[x],argTypes:=#[T] },ty,pos,af,gd⟩ st=true):
 M6 P ⟨d,.call { callee:=.builtin .len,args:=#[x],argTypes:=#[T] },ty,pos,af,gd⟩ st (.d (.val (.int .i64 n))) .no:=fun st2 ha=>
 OpS.value (ha.dst hd) fun _ _ g a w h=>by
  have h1:=h.eval x
  rw[ha.ev x (by simp[Op.operands,Call.operands]),hx]at h1
  have hv:a.eval x=.slice A n c:=DRep.val_eq h1
  refine⟨.int .i64 n,w,?_,Below.refl _ _,DRep.val _ C⟩
  simp[execOp,resolve,invoke,builtin,Builtin.len_,hv,hS.und,goInt]
theorem yNv {k c:Nat} [SliceOf P T E k] (hx:st.ev x=.d (.val (.slice A n c))) (h:YR P sq ops K rest (st.put d (.d (.val (.int .i64 n))))) (zz:zk ops st ⟨d,.call { callee:=.builtin .len,args:=#[x],argTypes:=#[T] },ty,pos,af,gd⟩ .no=true:=by kernel_rfl):
 YR P sq ops K (⟨d,.call { callee:=.builtin .len,args:=#[x],argTypes:=#[T] },ty,pos,af,gd⟩::rest) st:=M3 (ls_lenv T x hx (zd zz)) (zo zz) (zw zz) h
theorem ls_ixv (T:TypeId) (x y:Operand) {k c off:Nat} [hS:SliceOf P T E k] (hx:st.ev x=.d (.val (.slice (some ⟨b,off,none⟩) n c))) (hy:st.ev y=.d (.val (.int kd m))) (h0:0<=m) (hm:m<n) (hd:I1 ⟨d,.indexAddr T x y,ty,pos,af,gd⟩ st=true):
 M6 P ⟨d,.indexAddr T x y,ty,pos,af,gd⟩ st (.d (.val (.pointer (some ⟨b,off+m.toNat*k,none⟩)))) .no:=fun st2 ha=>
 OpS.value (ha.dst hd) fun _ _ g a w h=>by
  have h1:=h.eval x
  rw[ha.ev x (by simp[Op.operands]),hx]at h1
  have hv:a.eval x=.slice (some ⟨b,off,none⟩) n c:=DRep.val_eq h1
  have h2:=h.eval y
  rw[ha.ev y (by simp[Op.operands]),hy]at h2
  refine⟨.pointer (some ⟨b,off+m.toNat*k,none⟩),w,?_,Below.refl _ _,DRep.val _ C⟩
  have hn:0<=m∧m<(n:Int):=⟨h0,hm⟩
  simp only[execOp,Instr.indexAt,hv,DRep.val_eq h2,asIntOf,Sem.run_bind,Sem.run_pure,D4,hS.und,hn,and_self,if_true,hS.size,Addr.add_lit]
theorem yWv {k c off:Nat} [SliceOf P T E k] (h0:0<=m) (hm:m<n) (hx:st.ev x=.d (.val (.slice (some ⟨b,off,none⟩) n c))) (hy:st.ev y=.d (.val (.int kd m))) (h:YR P sq ops K rest (st.put d (.d (.val (.pointer (some ⟨b,off+m.toNat*k,none⟩)))))) (zz:zk ops st ⟨d,.indexAddr T x y,ty,pos,af,gd⟩ .no=true:=by kernel_rfl):
 YR P sq ops K (⟨d,.indexAddr T x y,ty,pos,af,gd⟩::rest) st:=M3 (ls_ixv T x y hx hy h0 hm (zd zz)) (zo zz) (zw zz) h
theorem ls_fav (S f:Nat) (x:Operand) {o off:Nat} [hF:FieldOf P S f off T] (hx:st.ev x=.d (.val (.pointer (some ⟨b,o,none⟩)))) (hd:I1 ⟨d,.fieldAddr S x f,ty,pos,af,gd⟩ st=true):
 M6 P ⟨d,.fieldAddr S x f,ty,pos,af,gd⟩ st (.d (.val (.pointer (some ⟨b,o+off,none⟩)))) .no:=fun st2 ha=>
 OpS.value (ha.dst hd) fun _ _ g a w h=>by
  have h1:=h.eval x
  rw[ha.ev x (by simp[Op.operands]),hx]at h1
  have hv:a.eval x=.pointer (some ⟨b,o,none⟩):=DRep.val_eq h1
  refine⟨.pointer (some ⟨b,o+off,none⟩),w,?_,Below.refl _ _,DRep.val _ C⟩
  rw[AQ (hF:=hF) (f:=f) hv,Addr.add_lit]
theorem yFv {S:Nat} {o off:Nat} [FieldOf P S f off T] (hx:st.ev x=.d (.val (.pointer (some ⟨b,o,none⟩)))) (h:YR P sq ops K rest (st.put d (.d (.val (.pointer (some ⟨b,o+off,none⟩)))))) (zz:zk ops st ⟨d,.fieldAddr S x f,ty,pos,af,gd⟩ .no=true:=by kernel_rfl):
 YR P sq ops K (⟨d,.fieldAddr S x f,ty,pos,af,gd⟩::rest) st:=M3 (ls_fav S f x hx (zd zz)) (zo zz) (zw zz) h
end
theorem Fp {fn:Func} {R:Ending->World->Prop} {tmps:Array Value}
 (hR:∀ w2,Self none p.w.heap.size g st { tmps:=tmps,defers:=[] } w2->HE p i g w2->∃ v,(results fn tmps).run P w2=.ok v w2∧R (.returned v) w2):
 ∀ (ds:List Deferred) (w:World),Self none p.w.heap.size g st { tmps:=tmps,defers:=ds } w->HE p i g w->LeavesInM Fence.wide 0 P fn tmps R ds .returning w:=by
 intro ds
 induction ds with
 | nil=>exact fun w h hx=>hR w h hx
 | cons d ds ih=>
  intro w h hx
  obtain⟨hnd,hd⟩:=h.2.defers
  obtain⟨D,h1,h2,h3,h4⟩:=hd d (List.mem_cons_self ..)
  have hnd2:=List.nodup_cons.1 hnd
  refine⟨fun e=>(by cases e),.inl ⟨D,w.putObj D (.deferred none),by rw[h1],run_takeDeferred h2,?_⟩⟩
  have h5:Self none p.w.heap.size g st { tmps:=tmps,defers:=ds } w:=⟨h.1,h.2.mark (ds:=ds) ⟨hnd2.2,fun d' hd'=>hd d' (List.mem_cons_of_mem _ hd')⟩⟩
  obtain⟨s1,kp,hown,c1⟩:=HE.put1 (w':=w.putObj D (.deferred none)) h5 hx D h2 (fun _ _ _ e=>by cases e) (fun _ _ e=>by cases e) rfl rfl rfl (by simp) (fun b _ hb=>World.putObj_heap_other hb) h3 h4 (fun _ d' hd' e=>hnd2.1 (by rw[h1,<-e];exact hd'))
  refine ih _ s1 (c1 i.it (hx.it.keep (fun r' l dn hi=>World.putObj_heap_other fun e=>?_) hown kp))
  obtain⟨bm,es,c,seen,cc,t1,-⟩:=hx.it r' l dn hi
  rw[e,h2]at t1
  cases t1
def QRe (P:Program) (rs:List ResultVar) (M:SV->EI->Prop):Exit->PS->EI->Prop:=fun e s j=>∃ r,Mw P rs r e s∧M r j
theorem FM {f:FuncId} {fn:Func} (hf:P.funcs[f]? = some fn) (hb:fn.body=some c) (hn:fn.ntmps=n) (hrs:fn.results=rs.toArray) (hl:args.length<=n) (hlim:n<=10000)
 {vals:List Value} (hvl:vals.length=args.length) (hv:∀ (i:Nat) v x,vals[i]? = some v->args[i]? = some x->DRep F w v x) (hgo:GlobOk F w) (hpw:p.w=w) {F0:Nat->Nat->Prop} (hF0:∀ b o,F b o->F0 b o) (hF1:∀ b o,w.heap.size<=b->F0 b o) {i0:EI} (hX:HE p i0 (gF F0) w)
 (h:PX P none w.heap.size (HE p) c (QRe P rs M) ⟨n,EY 0 args,[],[]⟩ i0):Calls P f vals.toArray w fun e w'=>∃ v g j r,e=.returned v∧SRep (gF fun b o=>p.F b o∧G1 j.bs b=none) w' v r∧HE p j g w'∧M r j:=by
 refine AV hf hb ?_
 have hrep:Rep w.heap.size ⟨w,gF F0,none,w.heap.size,E0 _⟩ (gF F0) ⟨n,EY 0 args,[],[]⟩ { tmps:=vals.toArray++Array.replicate (fn.ntmps-vals.toArray.size) undef,defers:=[] } w:=by
  refine { evo:=Evo.refl _ _,base:=E0 _,f0:=fun b o h=>hF1 b o h,lim:=hlim,size:=by simp;omega,defers:=Dfr.nil _ _ _,slots:=fun i=>?_,boxes:=fun i cs hi=>(by cases hi),maps:=fun i ms hi=>(by cases hi),blk:=fun i b hi=>(by cases hi),dom:=fun i b hi=>(by cases hi),inj:=fun i j b hi=>(by cases hi),toks:=fun t T hT=>(by cases hT),tf0:=fun t T b o hT=>(by cases hT),telt:=fun t T hT=>(by cases hT),tdis:=fun t t' T T' b h1=>(by cases h1),tdom:=fun t T hT=>(by cases hT),tlen:=fun t n ht=>(by cases ht),glob:=hgo.rep (Kp.same fun b o hF=>Fx.gF (hF0 b o hF)),gown:=hgo.own,ghp:=fun q cs hq=>(hgo q cs hq).2 }
  unfold PS.get
  simp only[FC,E7,if_true,Nat.sub_zero]
  cases hx:args[i]? with
  | none=>trivial
  | some x=>
   have hlt:i<vals.length:=by rw[hvl];exact(A6.1 hx).1
   have h1:=hv i _ x (A4 hlt) hx
   have h2:(vals.toArray++Array.replicate (fn.ntmps-vals.toArray.size) undef).getD i undef=vals[i]:=by
    simp[Array.getD,hlt]
    omega
   simp only[Option.map_some]
   show DRep _ w _ x
   rw[h2]
   exact h1.mono (Kp.same fun b o hF=>Fx.gF (hF0 b o hF))
 refine wpIn_mono (h _ _ w ⟨E0 _,hrep⟩ hX) fun e a' w' ⟨g,st,j,h1,h2,r,h3,h4⟩=>?_
 have fin:(∃ xs,ResV P st rs xs∧r=AD xs)->LeavesInM Fence.wide 0 P fn a'.tmps (fun e w'=>∃ v g j r,e=.returned v∧SRep (gF fun b o=>p.F b o∧G1 j.bs b=none) w' v r∧HE p j g w'∧M r j) a'.defers .returning w':=by
  rintro⟨xs,hres,rfl⟩
  have h1':Self none p.w.heap.size g st a' w':=by rw[hpw];exact h1
  refine Fp (i:=j) (fun w' h1 hx'=>?_) a'.defers w' h1' h2
  obtain⟨vs,h4',h5,h6⟩:=CV h1.2 hres
  have hrun:(results fn a'.tmps).run P w'=.ok (if h:vs.toArray.size=1 then vs.toArray[0]else .tuple vs.toArray) w':=by
   rw[show results fn a'.tmps=(fn.results.mapM (Hv a'.tmps) >>= fun vs=>pure (if h:vs.size=1 then vs[0]else .tuple vs))from rfl,hrs,Array.mapM_eq_mapM_toList]
   simp only[Sem.run_bind,Sem.run_map]
   rw[h4']
   rfl
  have h7:∀ (i:Nat) v x,vs[i]? = some v->xs[i]? = some x->DRep (Fx (gF fun b o=>p.F b o∧G1 j.bs b=none)) w' v x:=fun i v x hv hx=>
   (h6 i v x hv hx).mono (Kp.same fun b o hf=>Fx.gF ⟨hx'.f0 b o hf.1,by
    cases e:G1 j.bs b with
    | none=>rfl
    | some q=>obtain⟨ys,T⟩:=q;exact G5 hf.1 ((hx'.bs b ys T e).2.2.1 o)⟩)
  refine⟨_,hrun,_,g,j,_,C,?_,hx',h4⟩
  match vs,xs,h5,h7 with
  | [],[],_,_=>exact⟨[],C,C,fun i y x hy=>by simp at hy⟩
  | [v],[x],_,h7=>exact h7 0 v x C C
  | v::v'::vs,x::x'::xs,h5,h7=>exact⟨v::v'::vs,by simp,h5,h7⟩
 cases e with
 | normal=>exact fin h3
 | ret=>exact fin h3
 | _=>exact h3.elim
theorem ME (h:R4 (gF F) w b):w.heap.size<=b:=by
 rcases h with h|⟨i,h⟩|⟨t,T,h,-⟩
 . exact h
 . cases h
 . cases h
theorem Nx (hgo:GlobOk F w) {q:Nat} {cs:List DV} (hq:G1 gs q=some cs):q<w.heap.size:=by
 obtain⟨vs,-,T,z,h2⟩:=(hgo q cs hq).2
 exact(D2.1 h2).1
theorem P0 {f:FuncId} {fn:Func} {r:SV} (hf:P.funcs[f]? = some fn) (hb:fn.body=some c) (hn:fn.ntmps=n) (hrs:fn.results=rs.toArray) (hl:args.length<=n)
 (h:∀ p d0,(∀ b,¬ p.ex b)->PX P none d0 (HE p) c (QRe P rs fun r' _=>r'=r) ⟨n,EY 0 args,[],[]⟩ ⟨[],[],none⟩) (hlim:Nat.ble n 10000=true:=by rfl) (hres:BR r=true:=by rfl):PCalls P f args r:=by
 intro F w vals hvl hv hgo
 obtain⟨p,hp⟩:∃ p:EP,p=⟨w,fun b o=>F b o∨w.heap.size<=b,fun _=>False⟩:=⟨_,rfl⟩
 have hX:HE p ⟨[],[],none⟩ (gF fun b o=>F b o∨w.heap.size<=b) w:=by
  subst hp
  exact⟨rfl,rfl,rfl,E0 _,fun _ _ _=>rfl,fun _ _ h=>h,fun _ _ h=>.inr h,fun b ho=>ME ho,fun q cs hq=>⟨Nx hgo hq,fun h=>h⟩,fun q hq=>by simp at hq,fun b xs T e=>(by cases e),fun r l dn e=>(by cases e)⟩
 refine(FM hf hb hn hrs hl (C0 hlim) hvl hv hgo (p:=p) (by rw[hp]) (fun b o h=>.inl h) (fun b o h=>.inr h) hX (h p _ (by rw[hp];exact fun _ h=>h))).mono ?_
 rintro e w' ⟨v,g,j,r',rfl,h1,h2,rfl⟩
 subst hp
 refine⟨v,C,?_,h2.os,h2.tape,h2.output,h2.size,fun b hb=>h2.block b hb fun h=>h⟩
 have kp:Kp (Fx (gF fun b o=>(F b o∨w.heap.size<=b)∧G1 j.bs b=none)) w' (Fx (gF fun b o=>F b o∨w.heap.size<=b)) w':=Kp.same fun b o hf=>Fx.gF hf.1.1
 cases r' with
 | d x=>exact DRep.mono h1 kp
 | tup xs=>
  obtain⟨vs,q1,q2,q3⟩:=h1
  exact⟨vs,q1,q2,fun i y x hy hx=>(q3 i y x hy hx).mono kp⟩
 | any=>trivial
 | _=>cases hres
def EMem (F:Nat->Nat->Prop) (i:EI) (w:World):Prop:=
 (∀ (b:Nat) (xs:List Value) (T:Nat),G1 i.bs b=some (xs,T)->w.heap[b]? = some (.cells xs.toArray T (0,0)) ∧ ∀ k,¬ F b k)∧(∀ q∈i.fs,DRep F w q.1 q.2) ∧ ∀ q cs,G1 gs q=some cs->G1 i.bs q=none
def EF (F:Nat->Nat->Prop) (w:World) (j:EI) (b o:Nat):Prop:=(F b o∨w.heap.size<=b)∧G1 j.bs b=none
def HCE (P:Program) (f:FuncId) (args:List DV) (i:EI) (M:SV->EI->Prop):Prop:=
 ∀ (F:Nat->Nat->Prop) (w:World) (vals:List Value),vals.length=args.length->(∀ (j:Nat) v x,vals[j]? = some v->args[j]? = some x->DRep F w v x)->GlobOk F w->EMem F i w →
  Calls P f vals.toArray w fun e w'=>∃ v r j,e=.returned v∧M r j∧SRep (gF (EF F w j)) w' v r∧(∀ q∈j.fs,DRep (EF F w j) w' q.1 q.2) ∧
   (∀ (b:Nat) (xs:List Value) (T:Nat),G1 j.bs b=some (xs,T)->w'.heap[b]? = some (.cells xs.toArray T (0,0))∧(G1 i.bs b≠none∨w.heap.size<=b))∧w'.os=w.os∧w'.tape=w.tape∧w'.output=w.output∧w.heap.size<=w'.heap.size ∧ ∀ b,b<w.heap.size->G1 i.bs b=none->w'.heap[b]? = w.heap[b]?
theorem Z5 {f:FuncId} {fn:Func} (hf:P.funcs[f]? = some fn) (hb:fn.body=some c) (hn:fn.ntmps=n) (hrs:fn.results=rs.toArray) (hl:args.length<=n)
 (h:∀ p d0,PX P none d0 (HE p) c (QRe P rs M) ⟨n,EY 0 args,[],[]⟩ ⟨i.bs,i.fs,none⟩) (hlim:Nat.ble n 10000=true:=by rfl):HCE P f args i M:=by
 intro F w vals hvl hv hgo ⟨m1,m2,m3⟩
 obtain⟨p,hp⟩:∃ p:EP,p=⟨w,fun b o=>F b o∨w.heap.size<=b,fun b=>G1 i.bs b≠none⟩:=⟨_,rfl⟩
 have hX:HE p ⟨i.bs,i.fs,none⟩ (gF fun b o=>F b o∨w.heap.size<=b) w:=by
  subst hp
  refine⟨rfl,rfl,rfl,E0 _,fun _ _ _=>rfl,fun _ _ h=>h,fun _ _ h=>.inr h,fun b ho=>ME ho,fun q cs hq=>⟨Nx hgo hq,fun h=>h (m3 q cs hq)⟩,fun q hq=>(m2 q hq).mono (Kp.same fun b o h=>Fx.gF (.inl h)),fun b xs T e=>?_,fun r l dn e=>by cases e⟩
  obtain⟨h1,h2⟩:=m1 b xs T e
  have hlt:=(D2.1 h1).1
  refine⟨h1,fun ho=>?_,fun k hk=>?_,.inr ?_⟩
  . have:=ME ho;omega
  . rcases hk with hk|hk
    . exact h2 k hk
    . omega
  . show G1 i.bs b≠none
    rw[e];simp
 refine(FM hf hb hn hrs hl (C0 hlim) hvl hv hgo (p:=p) (by rw[hp]) (fun b o h=>.inl h) (fun b o h=>.inr h) hX (h p _)).mono ?_
 rintro e w' ⟨v,g,j,r,rfl,h1,h2,h3⟩
 have hnone:∀ b o,g.f0 b o->G1 j.bs b=none:=fun b o hf=>by
  cases e:G1 j.bs b with
  | none=>rfl
  | some q=>obtain⟨xs,T⟩:=q;exact G5 hf ((h2.bs b xs T e).2.2.1 o)
 subst hp
 refine⟨v,r,j,C,h3,h1,fun q hq=>(h2.fs q hq).mono (Kp.same fun b o hf=>⟨h2.f0 b o hf.1,hnone b o hf.1⟩),fun b xs T e=>?_,h2.os,h2.tape,h2.output,h2.size,fun b hb hn=>h2.block b hb fun h=>h hn⟩
 obtain⟨q1,-,-,q4⟩:=h2.bs b xs T e
 exact⟨q1,q4.symm⟩
theorem HCE.mono {f:FuncId} {M':SV->EI->Prop} (h:HCE P f args i M) (hm:∀ r j,M r j->M' r j):HCE P f args i M':=fun F w vals h1 h2 h3 h4=>(h F w vals h1 h2 h3 h4).mono fun _ _ ⟨v,r,j,e,q,hh⟩=>⟨v,r,j,e,hm _ _ q,hh⟩
def RH (f:Nat) (caps:List DV) (F:Nat->Nat->Prop) (w:World) (v:Value):Prop:=∃ vs:List Value,v=.func (.func f) #[] vs.toArray∧vs.length=caps.length ∧ ∀ (j:Nat) u x,vs[j]? = some u->caps[j]? = some x->DRep F w u x
abbrev dH (f:Nat) (caps:List DV):DV:=.abs (RH f caps)
theorem DRep.ofH (h:RH f caps F w v):DRep F w v (dH f caps):=
 .abs (fun _ _ _ _ _ ⟨vs,h1,h2,h3⟩ k=>⟨vs,h1,h2,fun j u x hu hx=>(h3 j u x hu hx).mono k⟩) (by obtain⟨vs,rfl,-⟩:=h;rfl) h
theorem DRep.unH (h:DRep F w v (dH f caps)):RH f caps F w v:=by
 cases h with
 | abs _ _ h=>exact h
theorem fx_new {rl:Option Nat} {d0:Nat} (hs:Self rl d0 g st a w) {o:Nat} (h:w.heap.size<=b):Fx g b o:=by
 have hr:=hs.2
 refine⟨hr.f0 b o h,fun i hi=>?_,fun t T n c hT hv=>?_⟩
 . have:=(hr.blk i b hi).2;omega
 . obtain⟨⟨n',xs,h1⟩,-⟩:=hr.toks t T hT
   have:=(h1.lt b (by rw[hv];rfl)).2
   omega
section
variable {ops:Array Oper} {rl:Option Nat} {d0:Nat} {K:PS->EI->Prop} {d:Option Nat} {ty:TypeId} {pos:String} {af:Array Edge} {gd:Option (Nat×Bool)}
theorem ecall (hc:HCE P f args i M) (hres:∀ r j,M r j->BR r=true) (hd:I1 o st=true) (hw:st.want ops o=some true) (h:∀ r j,M r j->K (st.put o.dst r) { j with it:=i.it })
 (hrun:∀ g a w,Self rl d0 g st a w->HE p i g w->∃ vals:List Value,vals.length=args.length∧(∀ (j:Nat) v x,vals[j]? = some v->args[j]? = some x->DRep (Fx g) w v x)∧(execOp a.eval o).run P w=.ok (.enter f vals.toArray) w):PL P ops rl d0 (HE p) K [o] st i:=fun g a w hs hX=>by
 obtain⟨vals,v1,v2,hrun⟩:=hrun g a w hs hX
 have V0:=hc (Fx g) w vals v1 v2 hs.2.gok ⟨fun b xs T e=>⟨(hX.bs b xs T e).1,fun k hk=>(hX.bs b xs T e).2.2.1 k hk.1⟩,hX.fs,fun q cs hq=>by
  cases e:G1 i.bs q with
  | none=>rfl
  | some u=>
   obtain⟨xs,T⟩:=u
   obtain⟨h5,h6⟩:=hX.gl q cs hq
   rcases(hX.bs q xs T e).2.2.2 with h4|h4
   . omega
   . exact G5 h4 h6⟩
 unfold wpList
 rw[B9 (M4 hs.2 hw)]
 refine .inl ?_
 unfold Oper.wp
 rw[hrun]
 show Calls P f _ w _
 refine V0.mono ?_
 rintro e w' ⟨v,r,j,rfl,hM,r1,r2,r3,r4,r5,r6,r7,r8⟩
 have kf:Kp (EF (Fx g) w j) w' (Fx { g with f0:=fun b o=>g.f0 b o∧G1 j.bs b=none }) w':=Kp.same fun b o hf=>by
  have h1:Fx g b o:=by
   rcases hf.1 with h|h
   . exact h
   . exact fx_new hs h
  exact⟨⟨h1.1,hf.2⟩,h1.2⟩
 obtain⟨s1,kp,hX'⟩:=HE.turn (i':={ j with it:=i.it }) hs hX r4 r5 r6 r7 r8 r3 (fun q hq=>.inr (.inr ((r2 q hq).mono kf))) rfl
 have hv:SRep { g with f0:=fun b o=>g.f0 b o∧G1 j.bs b=none } w' v r:=by
  have hr:=hres r j hM
  have kf':Kp (Fx (gF (EF (Fx g) w j))) w' (Fx { g with f0:=fun b o=>g.f0 b o∧G1 j.bs b=none }) w':=(Kp.same fun b o hf=>hf.1:Kp _ w' _ w').trans kf
  cases r with
  | d x=>exact DRep.mono r1 kf'
  | tup xs=>
   obtain⟨vs,h1,h2,h3⟩:=r1
   exact⟨vs,h1,h2,fun i y x hy hx=>(h3 i y x hy hx).mono kf'⟩
  | _=>cases hr
 exact⟨rfl,_,_,{ j with it:=i.it },s1.put hv _ (H6 (st:=st) hd),hX',kp,h r j hM⟩
theorem Dk (ha:Be st l=some ys) (hs:Self rl d0 g st a w):(l.map a.eval).length=ys.length ∧ ∀ (j:Nat) v x,(l.map a.eval)[j]? = some v->ys[j]? = some x->DRep (Fx g) w v x:=by
 obtain⟨h1,h2⟩:=Cg ha
 refine⟨by simpa using h1,fun j v x hv hx=>?_⟩
 rw[C6,C7]at hv
 obtain⟨y,h3,rfl⟩:=hv
 exact(hs.2.eval y).toD (h2 j y x h3 hx)
theorem Ke [hB:HasBody P f] (hc:HCE P f ys i M) (hres:∀ r j,M r j->BR r=true) (ha:Be st l=some ys) (h:∀ r j,M r j->K (st.put d r) { j with it:=i.it })
 (hd:I1 ⟨d,.call { callee:=.value (.func f),args:=l.toArray,argTypes:=ts },ty,pos,af,gd⟩ st=true:=by kernel_rfl) (hw:st.want ops ⟨d,.call { callee:=.value (.func f),args:=l.toArray,argTypes:=ts },ty,pos,af,gd⟩=some true:=by rfl):
 PL P ops rl d0 (HE p) K [⟨d,.call { callee:=.value (.func f),args:=l.toArray,argTypes:=ts },ty,pos,af,gd⟩] st i:=ecall hc hres hd hw h fun g a w hs hX=>by
 obtain⟨h1,h2⟩:=Dk ha hs
 exact⟨l.map a.eval,h1,h2,CU⟩
theorem Lz [hB:HasBody P f] (hc:HCE P f args i M) (hres:∀ r j,M r j->BR r=true) (hx:st.ev x=.d (dH f caps)) (hargs:ys++caps=args) (ha:Be st l=some ys) (h:∀ r j,M r j->K (st.put d r) { j with it:=i.it })
 (hd:I1 ⟨d,.call { callee:=.value x,args:=l.toArray,argTypes:=ts },ty,pos,af,gd⟩ st=true:=by kernel_rfl) (hw:st.want ops ⟨d,.call { callee:=.value x,args:=l.toArray,argTypes:=ts },ty,pos,af,gd⟩=some true:=by rfl):
 PL P ops rl d0 (HE p) K [⟨d,.call { callee:=.value x,args:=l.toArray,argTypes:=ts },ty,pos,af,gd⟩] st i:=ecall hc hres hd hw h fun g a w hs hX=>by
 subst hargs
 obtain⟨h1,h2⟩:=Dk ha hs
 have hxe:=hs.2.eval x
 rw[hx]at hxe
 obtain⟨vs,q1,q2,q3⟩:=DRep.unH hxe
 refine⟨l.map a.eval++vs,by rw[C9,C9,h1,q2],fun j v y hj hy=>?_,?_⟩
 . rcases D5 j (l.map a.eval).length with hlt|hge
   . rw[F3 hlt]at hj
     rw[F3 (by omega)]at hy
     exact h2 j v y hj hy
   . rw[E9 hge]at hj
     rw[E9 (by omega),<-h1]at hy
     exact q3 _ v y hj hy
 . simp only[execOp,resolve,q1,Deferred.ofValue,Sem.run_bind,Sem.run_pure,D4,invoke]
   rw[hB.run]
   simp
end
section
variable {sq:Bool} {ops:Array Oper} {K:PS->Prop} {rest:List Oper} {d:Option Nat} {ty:TypeId} {pos:String} {af:Array Edge} {gd:Option (Nat×Bool)}
theorem Ri (f:FuncId) (l:List Operand) (h:Be st l=some caps) (hd:I1 ⟨d,.makeFunc (.func f) #[] l.toArray,ty,pos,af,gd⟩ st=true):
 M6 P ⟨d,.makeFunc (.func f) #[] l.toArray,ty,pos,af,gd⟩ st (.d (dH f caps)) .no:=fun st2 ha=>
 OpS.value (ha.dst hd) fun _ _ g a w hr=>by
  have h2:Be st2 l=some caps:=by rw[Dl fun x hx=>ha.ev x (by simp[Op.operands,hx])];exact h
  obtain⟨h3,h4⟩:=Cg h2
  refine⟨.func (.func f) #[] (l.map a.eval).toArray,w,?_,Below.refl _ _,DRep.ofH ⟨l.map a.eval,C,by simpa using h3,fun j u x hu hx=>?_⟩⟩
  . simp[execOp,Instr.makeFunc]
  . rw[C6,C7]at hu
    obtain⟨y,h5,rfl⟩:=hu
    exact(hr.eval y).toD (h4 j y x h5 hx)
theorem yMh (hx:Be st l=some caps) (h:YR P sq ops K rest (st.put d (.d (dH f caps)))) (zz:zk ops st ⟨d,.makeFunc (.func f) #[] l.toArray,ty,pos,af,gd⟩ .no=true:=by kernel_rfl):
 YR P sq ops K (⟨d,.makeFunc (.func f) #[] l.toArray,ty,pos,af,gd⟩::rest) st:=M3 (Ri f l hx (zd zz)) (zo zz) (zw zz) h
end
/-! hidden memory begins and ends -/
section
variable {ops:Array Oper} {rl:Option Nat} {d0:Nat} {K:PS->EI->Prop} {Q:Exit->PS->EI->Prop}
theorem Self.killb (hs:Self rl d0 g st a w) {im bo:Nat} (hb:g.bl im=some bo):
 Self rl d0 { g.delb im with f0:=fun b o=>g.f0 b o∧b≠bo } (st.kill im) a w∧Kp (Fx g) w (Fx { g.delb im with f0:=fun b o=>g.f0 b o∧b≠bo }) w∧(∀ b,R4 { g.delb im with f0:=fun b o=>g.f0 b o∧b≠bo } w b->R4 g w b∧b≠bo):=by
 obtain⟨hd,h⟩:=hs
 have kp:Kp (Fx g) w (Fx { g.delb im with f0:=fun b o=>g.f0 b o∧b≠bo }) w:=Kp.same fun b o hf=>⟨⟨hf.1,fun e=>hf.2.1 im (e ▸ hb)⟩,fun j hj=>hf.2.1 j (Gh.delb_bl hj).1,hf.2.2⟩
 have hbo:=(h.blk im bo hb).2
 have hown:∀ b,R4 { g.delb im with f0:=fun b o=>g.f0 b o∧b≠bo } w b->R4 g w b∧b≠bo:=fun b ho=>by
  rcases ho with ho|⟨j,ho⟩|⟨t,T,ho,ho'⟩
  . exact⟨.inl ho,by omega⟩
  . obtain⟨h1,h2⟩:=Gh.delb_bl ho
    exact⟨.inr (.inl ⟨j,h1⟩),fun e=>h2 (h.inj j im bo (e ▸ h1) hb)⟩
  . exact⟨.inr (.inr ⟨t,T,ho,ho'⟩),fun e=>(h.toks t T ho).2 im bo (e ▸ ho') hb⟩
 have srep:∀ v x,SRep g w v x->SRep { g.delb im with f0:=fun b o=>g.f0 b o∧b≠bo } w v (x.kill im):=fun v x hx=>by
  refine(hx.le (GL im x)).extp kp (fun j hj b hb=>?_) (fun t k es _ T' hT'=>⟨T',hT',.inl C⟩) fun _ _ _ _=>C
  simp only[Gh.delb]
  rw[B5 (Cc hj).2]
  exact hb
 have hne:∀ j b,(g.delb im).bl j=some b->b≠bo:=fun j b hj e=>by
  obtain⟨h1,h2⟩:=Gh.delb_bl hj
  exact h2 (h.inj j im bo (e ▸ h1) hb)
 refine⟨⟨hd,{ h with evo:=Evo.refl _ _,defers:=⟨h.defers.1,fun d hd'=>?_⟩,f0:=fun b o hb'=>⟨h.f0 b o hb',by omega⟩,lim:=h.lim,size:=h.size,slots:=fun j=>by rw[EH];exact srep _ _ (h.slots j),glob:=fun q cs hq=>srep _ (.rd cs) (h.glob q cs hq),boxes:=fun j cs hj hlt=>?_,maps:=fun j ms hj hge=>?_,blk:=fun j b hj=>⟨fun o=>⟨(h.blk j b (Gh.delb_bl hj).1).1 o,hne j b hj⟩,(h.blk j b (Gh.delb_bl hj).1).2⟩,dom:=fun j b hj=>?_,inj:=fun j k b hj hk=>h.inj j k b (Gh.delb_bl hj).1 (Gh.delb_bl hk).1,toks:=fun t T hT=>⟨(h.toks t T hT).1,fun j b hb hj=>(h.toks t T hT).2 j b hb (Gh.delb_bl hj).1⟩,tf0:=fun t T b o hT hb'=>⟨h.tf0 t T b o hT hb',fun e=>(h.toks t T hT).2 im bo (e ▸ hb') hb⟩,telt:=h.telt,tdis:=h.tdis,tdom:=h.tdom,tlen:=h.tlen,gown:=fun q cs hq ho=>h.gown q cs hq (hown q ho).1 }⟩,kp,hown⟩
 . obtain⟨D,q1,q2,q3,q4⟩:=h.defers.2 d hd'
   exact⟨D,q1,q2,fun ho=>q3 (hown D ho).1,q4⟩
 . rw[R9]at hj
   by_cases e:j=im
   . rw[B9 e]at hj;cases hj
   . rw[B5 e,C7]at hj
     obtain⟨cs0,h1,rfl⟩:=hj
     obtain⟨b,xs,T,h2,h3,h4,h5,h6⟩:=h.boxes j cs0 h1 hlt
     refine⟨b,xs,T,by simp[Gh.delb,e,h2],h3,by simpa using h4,fun q c hq=>?_,fun q u hq hu=>h6 q u (by simpa using hq) hu⟩
     rw[C6,C7]at hq
     obtain⟨c0,h7,rfl⟩:=hq
     obtain⟨x,h8,h9⟩:=h5 q c0 h7
     exact⟨x,h8,srep _ _ h9⟩
 . rw[R9]at hj
   by_cases e:j=im
   . rw[B9 e]at hj;cases hj
   . rw[B5 e,C7]at hj
     obtain⟨cs0,h1,h2⟩:=hj
     have h3:cs0=[.mc ms]:=GK h2
     subst h3
     obtain⟨b,es,c,h4,h5,h6⟩:=h.maps j ms h1 hge
     exact⟨b,es,c,by simp[Gh.delb,e,h4],h5,h6.mono kp⟩
 . obtain⟨h1,h2⟩:=Gh.delb_bl hj
   rw[R9,B5 h2]
   intro h3
   exact h.dom j b h1 (by simpa using h3)
theorem PU (hs:Self rl d0 g st a w) (hX:HE p i g w) (s i0:Nat) (hs0:st.get s=.bx i0 0) (hb:st.bget i0=some (vs.map fun v=>.d (.val v))) (hlt:i0<500000):
 ∃ b xs T,xs.take vs.length=vs∧G1 i.bs b=none ∧ ∃ g',Self rl d0 g' ((st.kill i0).put (some s) (.d (.val (.pointer (some ⟨b,0,none⟩))))) a w∧HE p ⟨(b,(xs,T))::i.bs,i.fs,i.it⟩ g' w∧Kp (Fx g) w (Fx g') w:=by
 have hr:=hs.2
 obtain⟨b,xs,T,h1,h2,h3,h4,h5⟩:=hr.boxes i0 _ hb hlt
 obtain⟨s0,kp,hown⟩:=hs.killb h1
 have hbs:=hr.slots s
 rw[hs0]at hbs
 obtain⟨b',q1,q2⟩:=hbs
 rw[h1]at q1
 cases q1
 have hnone:G1 i.bs b=none:=by
  cases e:G1 i.bs b with
  | none=>rfl
  | some q=>obtain⟨ys,T'⟩:=q;exact G5 (.inr (.inl ⟨i0,h1⟩)) (hX.bs b ys T' e).2.1
 refine⟨b,xs.toList,T,?_,hnone,_,⟨s0.1,{ s0.2 with lim:=s0.2.lim,size:=s0.2.size,boxes:=s0.2.boxes,maps:=s0.2.maps,dom:=s0.2.dom,tdom:=s0.2.tdom,tlen:=s0.2.tlen,glob:=s0.2.glob,slots:=fun j=>?_ }⟩,⟨hX.os,hX.tape,hX.output,hX.size,hX.block,fun b o hf=>hX.f0 b o hf.1,hX.new,fun b ho=>hX.own b (hown b ho).1,hX.gl,fun q hq=>(hX.fs q hq).mono kp,fun b' xs' T' e=>?_,hX.it.keep (fun _ _ _ _=>C) (fun b ho=>(hown b ho).1) kp⟩,kp⟩
 . refine List.ext_getElem? fun j=>?_
   by_cases hj:j<vs.length
   . rw[E8 hj,A4 hj]
     obtain⟨u,hu,hu2⟩:=h4 j (.d (.val vs[j])) (by rw[C6,A4 hj];rfl)
     rw[Array.getElem?_toList,hu,DRep.val_eq hu2]
   . rw[I0 (by rw[F4];omega),I0 (by omega)]
 . rw[Q5]
   by_cases e:j=s
   . rw[B9 e,e,q2];exact DRep.val _ C
   . rw[B5 e];exact s0.2.slots j
 . dsimp only at e
   rw[G3]at e
   split at e
   . rename_i e2;subst e2;cases e
     exact⟨by simpa using h2,fun ho=>(hown _ ho).2 rfl,fun k hk=>hk.2 rfl,.inl (hX.own _ (.inr (.inl ⟨i0,h1⟩)))⟩
   . obtain⟨t1,t2,t3,t4⟩:=hX.bs b' xs' T' e
     exact⟨t1,fun ho=>t2 (hown _ ho).1,fun k hk=>t3 k hk.1,t4⟩
theorem NR (s i0:Nat) (hs0:st.get s=.bx i0 0) (hb:st.bget i0=some (vs.map fun v=>.d (.val v)))
 (h:∀ b xs T,xs.take vs.length=vs->G1 i.bs b=none->PX P rl d0 (HE p) c Q ((st.kill i0).put (some s) (.d (.val (.pointer (some ⟨b,0,none⟩))))) ⟨(b,(xs,T))::i.bs,i.fs,i.it⟩) (hlt:Nat.blt i0 500000=true:=by rfl):PX P rl d0 (HE p) c Q st i:=fun g a w hs hX=>by
 obtain⟨b,xs,T,h1,h2,g',h3,h4,h5⟩:=PU hs hX s i0 hs0 hb (C0 hlt)
 exact h b xs T h1 h2 g' a w h3 h4
theorem V7 (s:Nat) {x:DV} (hex:∀ b,¬ p.ex b) (hs0:st.get s=.d (.val v)) (hx:∀ (F:Nat->Nat->Prop) (w:World),(∀ (b:Nat) (xs:List Value) (T:Nat),G1 i.bs b=some (xs,T)->w.heap[b]? = some (.cells xs.toArray T (0,0)) ∧ ∀ o,F b o)->(∀ q∈i.fs,DRep F w q.1 q.2)->DRep F w v x)
 (h:PX P rl d0 (HE p) c Q (st.put (some s) (.d x)) ⟨[],[],none⟩):PX P rl d0 (HE p) c Q st i:=fun g a w hs hX=>by
 have hr:=hs.2
 obtain⟨s1,kp,hown⟩:=hs.chg (w':=w) (fun b o=>g.f0 b o∨G1 i.bs b≠none) (E0 _) (fun b o _ hf=>.inl hf) (fun b o hb=>.inl (hr.f0 b o hb)) (fun _ _ _=>rfl) (fun _ _ _ _ _=>rfl) (fun _ _ _=>rfl) (fun _ _ _=>rfl)
 have hv:a.tmps.getD s undef=v:=DRep.val_eq (by have:=hr.slots s;rw[hs0]at this;exact this)
 have hd:DRep (Fx { g with f0:=fun b o=>g.f0 b o∨G1 i.bs b≠none }) w v x:=hx _ w (fun b xs T e=>by
  obtain⟨h1,h2,-⟩:=hX.bs b xs T e
  exact⟨h1,fun o=>⟨.inr (by rw[e];simp),fun j hj=>h2 (.inr (.inl ⟨j,hj⟩)),fun t T' n c' hT hv'=>G5 (.inr (.inr ⟨t,T',hT,by rw[hv'];rfl⟩)) h2⟩⟩) fun q hq=>(hX.fs q hq).mono kp
 refine h _ a w ⟨s1.1,{ s1.2 with lim:=s1.2.lim,size:=s1.2.size,boxes:=s1.2.boxes,maps:=s1.2.maps,dom:=s1.2.dom,tdom:=s1.2.tdom,tlen:=s1.2.tlen,glob:=s1.2.glob,slots:=fun j=>?_ }⟩ ⟨hX.os,hX.tape,hX.output,hX.size,hX.block,fun b o hf=>?_,hX.new,fun b ho=>hX.own b (hown b ho),hX.gl,fun q hq=>by simp at hq,fun b xs T e=>(by cases e),fun r l dn e=>(by cases e)⟩
 . rw[Q5]
   by_cases e:j=s
   . rw[B9 e,e,hv];exact hd
   . rw[B5 e];exact s1.2.slots j
 . rcases hf with hf|hf
   . exact hX.f0 b o hf
   . refine hX.new b o ?_
     cases e:G1 i.bs b with
     | none=>exact G5 e hf
     | some q=>
      obtain⟨xs,T⟩:=q
      rcases(hX.bs b xs T e).2.2.2 with h4|h4
      . exact h4
      . exact G5 h4 (hex b)
end
/-! short words -/
section
variable {ops:Array Oper} {rl:Option Nat} {d0:Nat} {K:PS->EI->Prop} {Q:Exit->PS->EI->Prop}
theorem L4 {l:List Oper} (h:YR P true ops (fun s=>PL P ops rl d0 (HE p) K l s i) [o] st):PL P ops rl d0 (HE p) K (o::l) st i:=P4 (pl_y (HE.stb i) h)
theorem O5 {c:Operand} {x y:Code} (hc:st.ev c=.d (.val (.bool true))) (h:PX P rl d0 (HE p) x Q st i):PX P rl d0 (HE p) (.cond c x y) Q st i:=NS hc (fun _=>h) fun e=>by cases e
theorem O4 {c:Operand} {x y:Code} (hc:st.ev c=.d (.val (.bool false))) (h:PX P rl d0 (HE p) y Q st i):PX P rl d0 (HE p) (.cond c x y) Q st i:=NS hc (fun e=>by cases e) fun _=>h
theorem I6 (h:K st i):FE K Q .normal st i:=h
theorem G0 (h:Q .ret st i):FE K Q .ret st i:=h
theorem RG (h:Q .normal st i):CF id Q .normal st i:=h
theorem K1 (h:Q .ret st i):CF id Q .ret st i:=h
theorem L7 (xs:List DV) (h:ResV P st rs xs) (hM:M (AD xs) i):QRe P rs M .ret st i:=⟨_,⟨xs,h,rfl⟩,hM⟩
theorem IR {κ:Type} (J:κ->PS) (f:κ->EI) (I:κ->Prop) (μ:κ->Nat) (k0:κ) (hI:I k0) (hf:i=f k0) (hle:Le st (J k0))
 (round:∀ k,I k->PX P rl d0 (HE p) c (FE (fun s j=>∃ k',I k'∧μ k'<μ k∧Le s (J k')∧j=f k') Q) (J k) (f k)):PX P rl d0 (HE p) (.loop c) Q st i:=px_loop J f I μ k0 HE.stb hI hle hf round
theorem pe_ord (h:∀ B w0,w0.rl=rl->PW P B w0 c (fun e s=>Q e s i) st):PX P rl d0 (HE p) c Q st i:=px_pw (HE.stb i) h
end
end Go.Proofs.YtddfimjiihggmaaGreatDoor.Px