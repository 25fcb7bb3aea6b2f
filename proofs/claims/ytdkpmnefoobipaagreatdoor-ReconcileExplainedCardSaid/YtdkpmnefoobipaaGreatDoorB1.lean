/- Plain data, as a logic of pure states tells it. -/
import Derived.WalkKit
import Derived.Deep.LoopGhost
import Derived.RangeFuncNested
import Derived.OrdersIn
set_option maxHeartbeats 16000000
set_option maxRecDepth 20000
namespace Go.Proofs
universe u
theorem O {α:Sort u} {a:α}:a=a:=rfl
abbrev A4:=@List.getElem?_eq_getElem
abbrev A6:=@List.getElem?_eq_some_iff
abbrev B0:=@Nat.le_of_ble_eq_true
abbrev B2:=@List.mem_of_getElem?
abbrev B5:=@List.getElem?_map
abbrev B7:=@Option.map_eq_some_iff
abbrev B8:=@if_neg
abbrev C1:=@Result.andThen_ok
abbrev C2:=@if_pos
abbrev C3:=@decide_eq_false
abbrev C5:=@decide_eq_true
abbrev C6:=@Bool.and_eq_true
abbrev C7:=@List.getElem?_take_of_lt
abbrev D0:=@Nat.zero_add
abbrev D1:=@List.length_append
abbrev D3:=@List.length_map
abbrev D4:=@Nat.zero_le
abbrev D5:=@Array.getElem?_eq_some_iff
abbrev D6:=@Nat.le_refl
abbrev D9:=@List.take_of_length_le
abbrev E3:=@Nat.le_trans
abbrev E4:=@List.getElem?_append_left
abbrev E5:=@Nat.eq_of_beq_eq_true
abbrev E6:=@List.getElem?_append_right
abbrev E7:=@List.all_eq_true
abbrev E8:=@List.append_assoc
abbrev E9:=@List.getElem?_eq_none
abbrev F3:=@List.length_take
abbrev F7:=@Nat.eq_zero_or_pos
abbrev F9:=@absurd
abbrev G0:=@Nat.lt_or_ge
abbrev G2:=@Nat.lt_of_lt_of_le
abbrev G4:=@Option.some.inj
abbrev G7:=@List.take_add_one
abbrev H4:=@congrArg
abbrev H5:=@List.mem_map
abbrev H6:=@Int.toNat_natCast
abbrev I4:=@List.take_length
abbrev J5:=@inferInstance
abbrev L1:=@List.drop_eq_getElem_cons
abbrev M9:=@List.length_drop
theorem K8 {α:Type u} {a b:α} (h:a=b:=by kernel_rfl):some a=some b:=H4 some h
theorem C8:True:=.intro
theorem H1 {α:Sort u} (a:α):∃ x,x=a:=⟨a,rfl⟩
theorem Fr {α:Type u} {l:List α} {k:Nat} (h:k<l.length):∃ a,l[k]? = some a:=⟨_,A4 h⟩
end Go.Proofs
namespace Go.Proofs.YtdkpmnefoobipaaGreatDoor.Px
open Go.RowKit
variable {w w':World} {P:Program} {v:Value} {B i id b n off d e:Nat} {F:Nat->Nat->Prop} {a:Act} {Q:Exit->Act->World->Prop} {o:Oper} {ops:Array Oper} {rs:List ResultVar} {ts:List (Nat×Nat)} {xs:List Value} {c:Code} {T:TypeId} {f:FuncId} {l:List Oper} {ρ:Operand->Value} {ad:Addr} {y:Operand} {t:Bool} {α:Type}
inductive DV where
 | val (v:Value)
 | agg (cs:List DV)
 | sl (k:Nat) (es:List (List DV))
 | ref (cs:List DV)
 | abs (R:(Nat->Nat->Prop)->World->Value->Prop)
 | mp (ms:List (Value×DV))
 deriving Inhabited
variable {es:List (List DV)} {ys:List DV} {ms:List (Value×DV)}
def F8 {α:Type}:List (Nat×α)->Nat->Option α
 | [],_=>none
 | (j,x)::l,i=>bif Nat.beq j i then some x else F8 l i
def gs:List (Nat×List DV):=[(2,[.val (.int .u64 1),.val (.int .u64 10),.val (.int .u64 100),.val (.int .u64 1000),.val (.int .u64 10000),.val (.int .u64 100000),.val (.int .u64 1000000),.val (.int .u64 10000000),.val (.int .u64 100000000),.val (.int .u64 1000000000),.val (.int .u64 10000000000),.val (.int .u64 100000000000),.val (.int .u64 1000000000000),.val (.int .u64 10000000000000),.val (.int .u64 100000000000000),.val (.int .u64 1000000000000000),.val (.int .u64 10000000000000000),.val (.int .u64 100000000000000000),.val (.int .u64 1000000000000000000),.val (.int .u64 10000000000000000000)])]
inductive Seen where
 | cell (v:Value)
 | mp (es:Array MapEntry) (c:Nat)
def AB (w:World) (b o:Nat):Option Seen:=match w.heap[b]? with
 | some (.map es c)=>some (.mp es c)
 | some (.cells c _ _)=>(c[o]?).map .cell
 | _=>none
theorem Ac {o:Nat}:w.cell? ⟨b,o,none⟩=some v↔AB w b o=some (.cell v):=by
 unfold World.cell? AB
 simp only[Option.isSome_none,Bool.false_eq_true,if_false]
 cases w.heap[b]? with
 | none=>simp
 | some x=>cases x<;>simp
theorem I2 (h:w'.heap[b]? = w.heap[b]?) (o:Nat):AB w' b o=AB w b o:=by unfold AB;rw[h]
theorem V4 {o:Nat} (h:(AB w b o).isSome):b<w.heap.size:=by
 rcases G0 b w.heap.size with h1|h1
 . exact h1
 . unfold AB at h
   rw[Array.getElem?_eq_none h1]at h
   simp at h
theorem Jp {o:Nat} {xs:Array Value} {z:Nat×Nat} (h:w.heap[b]? = some (.cells xs T z)):AB w b o=(xs[o]?).map .cell:=by unfold AB;rw[h]
def Kp (F:Nat->Nat->Prop) (w:World) (F':Nat->Nat->Prop) (w':World):Prop:=∀ b o,F b o->(AB w b o).isSome->F' b o∧AB w' b o=AB w b o
theorem Kp.cell {F':Nat->Nat->Prop} (h:Kp F w F' w') {o:Nat} (hF:F b o) (hc:w.cell? ⟨b,o,none⟩=some v):F' b o∧w'.cell? ⟨b,o,none⟩=some v:=by
 have h1:=Ac.1 hc
 obtain⟨h2,h3⟩:=h b o hF (by rw[h1];rfl)
 exact⟨h2,Ac.2 (h3.trans h1)⟩
theorem Kp.trans {F' F'':Nat->Nat->Prop} {w'':World} (h:Kp F w F' w') (h':Kp F' w' F'' w''):Kp F w F'' w'':=fun b o hF hs=>by
 obtain⟨h1,h2⟩:=h b o hF hs
 obtain⟨h3,h4⟩:=h' b o h1 (by rw[h2];exact hs)
 exact⟨h3,h4.trans h2⟩
theorem Kp.same {F':Nat->Nat->Prop} (h:∀ b o,F b o->F' b o):Kp F w F' w:=fun b o hF _=>⟨h b o hF,rfl⟩
inductive SV where
 | any
 | d (x:DV)
 | ts (t k:Nat) (es:List (List DV))
 | bx (i off:Nat)
 | rd (cs:List DV)
 | tup (xs:List DV)
 | fn (f:Nat) (caps:List Nat)
 | fb (f i off:Nat)
 | bs (i n E k:Nat)
 | mb (i:Nat)
 | tx (i T n:Nat)
 | mc (ms:List (Value×DV))
 deriving Inhabited
variable {x r:SV} {ks:List (Nat×List SV)}
structure Tk where
 v:Value
 E:Nat
 k:Nat
structure Gh where
 f0:Nat->Nat->Prop
 bl:Nat->Option Nat
 tk:Nat->Option Tk
variable {g g':Gh}
def gF (F:Nat->Nat->Prop):Gh:=⟨F,fun _=>none,fun _=>none⟩
def Fx (g:Gh) (b o:Nat):Prop:=g.f0 b o∧(∀ i,g.bl i≠some b) ∧ ∀ t T n c,g.tk t=some T->T.v=.slice (some ⟨b,0,none⟩) n c->o<n*T.k
theorem Fx.gF {o:Nat} (h:F b o):Fx (gF F) b o:=⟨h,fun _ h=>(by cases h),fun _ _ _ _ h=>(by cases h)⟩
inductive DRep (F:Nat->Nat->Prop) (w:World):Value->DV->Prop
 | val (v:Value) (hv:v.oneCell'=true):DRep F w v (.val v)
 | agg {xs:List Value} {cs:List DV} (hl:xs.length=cs.length) (h1:∀ x∈xs,x.oneCell'=true) (h:∀ (i:Nat) x c,xs[i]? = some x->cs[i]? = some c->DRep F w x c):DRep F w (.agg xs.toArray) (.agg cs)
 | sl {k n c:Nat} {A:Option Addr} {es:List (List DV)} (f:Nat->Nat->Value) (hn:n=es.length) (hc:n<=c) (hm:n<=9223372036854775807) (hk:∀ e∈es,e.length=k)
  (ha:0<n->∃ b off,A=some ⟨b,off,none⟩ ∧ ∀ i j,i<n->j<k->w.cell? ⟨b,off+i*k+j,none⟩=some (f i j)∧F b (off+i*k+j)) (h1:∀ i j,i<n->j<k->(f i j).oneCell'=true)
  (h:∀ (i j:Nat) e x,es[i]? = some e->e[j]? = some x->DRep F w (f i j) x):DRep F w (.slice A n c) (.sl k es)
 | ref {b off:Nat} {cs:List DV} (f:Nat->Value) (hc:∀ j,j<cs.length->w.cell? ⟨b,off+j,none⟩=some (f j)∧F b (off+j)∧(f j).oneCell'=true) (h:∀ (j:Nat) x,cs[j]? = some x->DRep F w (f j) x):DRep F w (.pointer (some ⟨b,off,none⟩)) (.ref cs)
 | abs {v:Value} {R:(Nat->Nat->Prop)->World->Value->Prop} (hR:∀ (F F':Nat->Nat->Prop) (w w':World) v,R F w v->Kp F w F' w'->R F' w' v) (h1:v.oneCell'=true) (h:R F w v):DRep F w v (.abs R)
 | mp {r ck:Nat} {es:Array MapEntry} {ms:List (Value×DV)} (hs:AB w r 0=some (.mp es ck)) (hst:MapKept.Stamped es ck) (hF:F r 0) (hl:es.size=ms.length) (hk:∀ (i:Nat) e p,es[i]? = some e->ms[i]? = some p->e.key=p.1)
  (h:∀ (i:Nat) e p,es[i]? = some e->ms[i]? = some p->DRep F w e.val p.2):DRep F w (.map (some r)) (.mp ms)
theorem DRep.mono {F':Nat->Nat->Prop} {x:DV} (h:DRep F w v x) (hh:Kp F w F' w'):DRep F' w' v x:=by
 induction h with
 | val v hv=>exact .val v hv
 | agg hl h1 _ ih=>exact .agg hl h1 ih
 | sl f hn hc hm hk ha h1 _ ih=>
  refine .sl f hn hc hm hk (fun h0=>?_) h1 ih
  obtain⟨b,off,hA,hcell⟩:=ha h0
  refine⟨b,off,hA,fun i j hi hj=>?_⟩
  obtain⟨h1,h2⟩:=hcell i j hi hj
  exact(hh.cell h2 h1).symm
 | ref f hc _ ih=>
  refine .ref f (fun j hj=>?_) ih
  obtain⟨h1,h2,h3⟩:=hc j hj
  obtain⟨h4,h5⟩:=hh.cell h2 h1
  exact⟨h5,h4,h3⟩
 | abs hR h1 h=>exact .abs hR h1 (hR _ _ _ _ _ h hh)
 | mp hs hst hF hl hk _ ih=>
  obtain⟨h1,h2⟩:=hh _ _ hF (by rw[hs];rfl)
  exact .mp (h2.trans hs) hst h1 hl hk ih
theorem FD {o c:Nat} {es:Array MapEntry} (h:AB w b o=some (.mp es c)):w.heap[b]? = some (.map es c):=by
 unfold AB at h
 split at h
 . rename_i es' c hc
   cases h
   exact hc
 . rw[B7]at h
   obtain⟨x,-,h⟩:=h
   cases h
 . cases h
theorem DRep.mapd (h:DRep F w v (.mp ms)):∃ b es c,v=.map (some b)∧w.heap[b]? = some (.map es c)∧F b 0∧MapKept.Stamped es c∧es.size=ms.length ∧ ∀ (i:Nat) e p,es[i]? = some e->ms[i]? = some p->e.key=p.1∧DRep F w e.val p.2:=by
 cases h with
 | mp hs hst hF hl hk h=>exact⟨_,_,_,O,FD hs,hF,hst,hl,fun i e p he hp=>⟨hk i e p he hp,h i e p he hp⟩⟩
theorem DRep.nil {k:Nat}:DRep F w (.slice none 0 0) (.sl k []):=
 .sl (fun _ _=>undef) rfl (D6 _) (by simp) (fun e he=>by simp at he) (fun h=>by omega) (fun i j hi=>by omega) fun i j e x he=>by simp at he
def SRep (g:Gh) (w:World) (v:Value):SV->Prop
 | .any=>True
 | .d x=>DRep (Fx g) w v x
 | .ts t k es=>DRep (Fx g) w v (.sl k es) ∧ ∀ T,g.tk t=some T->T.k=k ∧ ∀ A n c,T.v=.slice A n c->es.length<=n∧(es.length=n->v=T.v)
 | .bx i off=>∃ b,g.bl i=some b∧v=.pointer (some ⟨b,off,none⟩)
 | .rd cs=>∃ b off,∃ f:Nat->Value,v=.pointer (some ⟨b,off,none⟩) ∧ ∀ (j:Nat) x,cs[j]? = some x->w.cell? ⟨b,off+j,none⟩=some (f j)∧Fx g b (off+j)∧(f j).oneCell'=true∧DRep (Fx g) w (f j) x
 | .tup xs=>∃ vs:List Value,v=.tuple vs.toArray∧vs.length=xs.length ∧ ∀ (i:Nat) y x,vs[i]? = some y->xs[i]? = some x->DRep (Fx g) w y x
 | .fn f caps=>∃ bs:List Nat,v=.func (.func f) #[] (bs.map fun b=>Value.pointer (some ⟨b,0,none⟩)).toArray∧bs.length=caps.length ∧ ∀ (i:Nat) b c,bs[i]? = some b->caps[i]? = some c->g.bl c=some b
 | .fb f i off=>∃ b,g.bl i=some b∧v=.func (.func f) #[.pointer (some ⟨b,off,none⟩)] #[]
 | .bs i n E k=>∃ b c,g.bl i=some b∧v=.slice (some ⟨b,0,none⟩) n c∧n<=c∧c<=maxLen∧w.shape? b=some (E,c*k)
 | .mb i=>∃ b,g.bl i=some b∧v=.map (some b)
 | .tx i T n=>∃ b,g.bl i=some b∧v=.pointer (some ⟨b,0,none⟩)∧w.shape? b=some (T,n)
 | .mc _=>False
def HQ (T T':Tk):Prop:=T'=T∨(T'.E=T.E∧T'.k=T.k ∧ ∃ A n c A' n' c',T.v=.slice A n c∧T'.v=.slice A' n' c'∧n<=n'∧(n=n'->T'.v=T.v))
theorem HQ.trans {a b c:Tk} (h:HQ a b) (h':HQ b c):HQ a c:=by
 rcases h with rfl|⟨h1,h2,A,n,d,A',n',d',h3,h4,h5,h6⟩
 . exact h'
 . rcases h' with rfl|⟨k1,k2,A1,m,e,A2,m',e',k3,k4,k5,k6⟩
   . exact .inr ⟨h1,h2,A,n,d,A',n',d',h3,h4,h5,h6⟩
   . have h7:=h4.symm.trans k3
     obtain⟨-,h8,-⟩:=Value.slice.inj h7
     refine .inr ⟨k1.trans h1,k2.trans h2,A,n,d,A2,m',e',h3,k4,by omega,fun h9=>?_⟩
     rw[k6 (by omega),h6 (by omega)]
structure Ext (g:Gh) (w:World) (g':Gh) (w':World):Prop where
 fx:Kp (Fx g) w (Fx g') w'
 bl:∀ i b,g.bl i=some b->g'.bl i=some b
 tk:∀ t T',g'.tk t=some T'->∃ T,g.tk t=some T∧HQ T T'
 sh:∀ i b,g.bl i=some b->w'.shape? b=w.shape? b
theorem SRep.ext (h:SRep g w v x) (e:Ext g w g' w'):SRep g' w' v x:=by
 cases x with
 | any=>trivial
 | d x=>exact DRep.mono h e.fx
 | ts t k es=>
  refine⟨DRep.mono h.1 e.fx,fun T' hT'=>?_⟩
  obtain⟨T,hT,hle⟩:=e.tk t T' hT'
  obtain⟨h1,h2⟩:=h.2 T hT
  rcases hle with rfl|⟨h3,h4,A,n,c,A',n',c',h5,h6,h7,h8⟩
  . exact⟨h1,h2⟩
  . refine⟨h4.trans h1,fun A2 n2 c2 h9=>?_⟩
    obtain⟨-,h10,-⟩:=Value.slice.inj (h9.symm.trans h6)
    obtain⟨h11,h12⟩:=h2 A n c h5
    refine⟨by omega,fun h13=>?_⟩
    rw[h8 (by omega)]
    exact h12 (by omega)
 | bx i off=>obtain⟨b,h1,h2⟩:=h;exact⟨b,e.bl _ _ h1,h2⟩
 | rd cs=>
  obtain⟨b,off,f,h1,h2⟩:=h
  refine⟨b,off,f,h1,fun j x hj=>?_⟩
  obtain⟨h3,h4,h5',h5⟩:=h2 j x hj
  obtain⟨h6,h7⟩:=e.fx.cell h4 h3
  exact⟨h7,h6,h5',h5.mono e.fx⟩
 | tup xs=>
  obtain⟨vs,h1,h2,h3⟩:=h
  exact⟨vs,h1,h2,fun i y x hy hx=>(h3 i y x hy hx).mono e.fx⟩
 | fn f caps=>
  obtain⟨bs,h1,h2,h3⟩:=h
  exact⟨bs,h1,h2,fun i b c hb hc=>e.bl _ _ (h3 i b c hb hc)⟩
 | fb f i off=>obtain⟨b,h1,h2⟩:=h;exact⟨b,e.bl _ _ h1,h2⟩
 | bs i n E k=>
  obtain⟨b,c,h1,h2,h3,h4,h5⟩:=h
  exact⟨b,c,e.bl _ _ h1,h2,h3,h4,(e.sh _ _ h1).trans h5⟩
 | mb i=>obtain⟨b,h1,h2⟩:=h;exact⟨b,e.bl _ _ h1,h2⟩
 | tx i T n=>
  obtain⟨b,h1,h2,h3⟩:=h
  exact⟨b,e.bl _ _ h1,h2,(e.sh _ _ h1).trans h3⟩
 | mc ms=>exact h
def Ka (i:Nat):Prop:=i % 500000<10000
def smT (t:Nat):Prop:=t % 100000<10000
def P7 (g:Gh) (w:World) (b:Nat):Prop:=w.heap.size<=b∨(∃ i,g.bl i=some b) ∨ ∃ t T,g.tk t=some T∧T.v.ownBlock=some b
structure Evo (g:Gh) (w:World) (g':Gh) (w':World):Prop where
 bel:Below 0 w w'
 f0:g'.f0=g.f0
 fx:Kp (Fx g) w (Fx g') w'
 heap:∀ b,¬ P7 g w b->w'.heap[b]? = w.heap[b]?
 bl:∀ i b,g'.bl i=some b->g.bl i=some b∨(Ka i∧P7 g w b)
 tk:∀ t T',g'.tk t=some T'->(∃ T,g.tk t=some T∧HQ T T')∨smT t
 tb:∀ t T' b,g'.tk t=some T'->T'.v.ownBlock=some b->P7 g w b
 sh:∀ i b,¬ Ka i->g.bl i=some b->g'.bl i=some b->w'.shape? b=w.shape? b
theorem G5 (h:w'.heap[b]? = w.heap[b]?):w'.shape? b=w.shape? b:=by unfold World.shape?;rw[h]
theorem Evo.refl (g:Gh) (w:World):Evo g w g w:=⟨Below.refl _ _,rfl,fun _ _ h _=>⟨h,rfl⟩,fun _ _=>rfl,fun _ _ h=>.inl h,fun _ T h=>.inl ⟨T,h,.inl rfl⟩,fun t T _ h h'=>.inr (.inr ⟨t,T,h,h'⟩),fun _ _ _ _ _=>rfl⟩
theorem Evo.own (h:Evo g w g' w') (ho:P7 g' w' b):P7 g w b:=by
 rcases ho with h1|⟨i,h1⟩|⟨t,T,h1,h2⟩
 . exact .inl (E3 h.bel.size h1)
 . rcases h.bl i b h1 with h2|h2
   . exact .inr (.inl ⟨i,h2⟩)
   . exact h2.2
 . exact h.tb t T b h1 h2
theorem Evo.trans {g'':Gh} {w'':World} (h:Evo g w g' w') (k:Evo g' w' g'' w''):Evo g w g'' w'':=by
 refine⟨h.bel.trans k.bel,k.f0.trans h.f0,h.fx.trans k.fx,fun b hb=>(k.heap b fun hb'=>hb (h.own hb')).trans (h.heap b hb),fun i b hi=>?_,fun t T'' hT=>?_,fun t T b hT hb=>h.own (k.tb t T b hT hb),fun i b hs hi hi''=>?_⟩
 . rcases k.bl i b hi with h1|⟨h1,h2⟩
   . exact h.bl i b h1
   . exact .inr ⟨h1,h.own h2⟩
 . rcases k.tk t T'' hT with⟨T',h1,h2⟩|h1
   . rcases h.tk t T' h1 with⟨T,h3,h4⟩|h3
     . exact .inl ⟨T,h3,h4.trans h2⟩
     . exact .inr h3
   . exact .inr h1
 . rcases k.bl i b hi'' with h1|h1
   . exact(k.sh i b hs h1 hi'').trans (h.sh i b hs hi h1)
   . exact F9 h1.1 hs
theorem Evo.grow (hbl:∀ i b,g.bl i=some b->b<w.heap.size) (hb:Below w.heap.size w w'):Evo g w g w':=by
 refine⟨hb.mono (D4 _),O,fun b o hF hs=>⟨hF,I2 (hb.block b (V4 hs)) o⟩,fun b hb'=>?_,fun _ _ h=>.inl h,fun _ T h=>.inl ⟨T,h,.inl O⟩,fun t T _ h h'=>.inr (.inr ⟨t,T,h,h'⟩),fun i b _ hi _=>G5 (hb.block b (hbl i b hi))⟩
 rcases G0 b w.heap.size with h1|h1
 . exact hb.block b h1
 . exact F9 (.inl h1) hb'
structure PS where
 n:Nat
 s:List (Nat×SV)
 b:List (Nat×List SV)
 t:List (Nat×Nat)
variable {st st2:PS}
theorem I3 (l:List (Nat×α)) (i j:Nat) (x:α):F8 ((i,x)::l) j=if j=i then some x else F8 l j:=by
 simp only[F8]
 by_cases h:j=i
 . subst h;simp[Nat.beq_refl]
 . have:Nat.beq i j=false:=by rw[<-Bool.not_eq_true];intro e;exact h (E5 e).symm
   simp[this,h]
def PS.get (st:PS) (i:Nat):SV:=match F8 st.s i with|some x=>x|none=>.any
def PS.bget (st:PS) (i:Nat):Option (List SV):=F8 st.b i
def PS.tget (st:PS) (i:Nat):Option Nat:=F8 st.t i
def PS.put (st:PS) (d:Option Nat) (x:SV):PS:=match d with
 | some d=>{ st with s:=(d,x)::st.s }
 | none=>st
def PS.bput (st:PS) (i:Nat) (cs:List SV):PS:={ st with b:=(i,cs)::st.b }
def PS.tput (st:PS) (i n:Nat):PS:={ st with t:=(i,n)::st.t }
def PS.ev (st:PS):Operand->SV
 | .tmp t=>st.get t
 | .const v=>bif v.oneCell' then .d (.val v)else .any
 | .global g=>match F8 gs g with|some cs=>.rd cs|none=>.d (.val (.pointer (some ⟨g,0,none⟩)))
 | .func f=>.fn f []
theorem O5 (st:PS) (d i:Nat) (x:SV):(st.put (some d) x).get i=if i=d then x else st.get i:=by
 simp only[PS.get,PS.put,I3]
 by_cases h:i=d<;>simp[h]
theorem HG (st:PS) (d:Option Nat) (i:Nat) (x:SV):(st.put d x).bget i=st.bget i:=by cases d<;>rfl
theorem GD (st:PS) (d:Option Nat) (i:Nat) (x:SV):(st.put d x).tget i=st.tget i:=by cases d<;>rfl
theorem n_put (st:PS) (d:Option Nat) (x:SV):(st.put d x).n=st.n:=by cases d<;>rfl
theorem I0 (st:PS) (i j:Nat) (cs:List SV):(st.bput i cs).bget j=if j=i then some cs else st.bget j:=by
 simp only[PS.bget,PS.bput,I3]
theorem Q0 (st:PS) (i j n:Nat):(st.tput i n).tget j=if j=i then some n else st.tget j:=by
 simp only[PS.tget,PS.tput,I3]
structure Cx where
 w:World
 g:Gh
 rl:Option Nat
 d0:Nat
 hd:d0<=w.heap.size
variable {w0:Cx}
def Dfr (w0:Cx) (g:Gh) (w:World) (ds:List Deferred):Prop:=ds.Nodup ∧ ∀ d∈ds,∃ D,d={ target:=.collected D,args:=#[] }∧w.heap[D]? = some (.deferred (some [])) ∧ ¬ P7 g w D∧w0.d0<=D
theorem Dfr.nil (w0:Cx) (g:Gh) (w:World):Dfr w0 g w []:=⟨List.nodup_nil,fun d hd=>by cases hd⟩
theorem Dfr.evo {ds:List Deferred} (h:Dfr w0 g w ds) (e:Evo g w g' w'):Dfr w0 g' w' ds:=⟨h.1,fun d hd=>by
 obtain⟨D,h1,h2,h3,h4⟩:=h.2 d hd
 exact⟨D,h1,(e.heap D h3).trans h2,fun ho=>h3 (e.own ho),h4⟩⟩
def Av (g:Gh) (w:World) (es:Array MapEntry) (c:Nat) (ms:List (Value×DV)):Prop:=es.size=ms.length∧MapKept.Stamped es c ∧ ∀ (i:Nat) e p,es[i]? = some e->ms[i]? = some p->e.key=p.1∧DRep (Fx g) w e.val p.2
theorem Av.mono {es:Array MapEntry} {c:Nat} (h:Av g w es c ms) (k:Kp (Fx g) w (Fx g') w'):Av g' w' es c ms:=⟨h.1,h.2.1,fun i e p he hp=>⟨(h.2.2 i e p he hp).1,(h.2.2 i e p he hp).2.mono k⟩⟩
structure Rep (B:Nat) (w0:Cx) (g:Gh) (st:PS) (a:Act) (w:World):Prop where
 evo:Evo w0.g w0.w g w
 base:B<=w.heap.size
 f0:∀ b o,B<=b->g.f0 b o
 lim:st.n<=10000
 size:a.tmps.size=st.n
 defers:Dfr w0 g w a.defers
 slots:∀ i,SRep g w (a.tmps.getD i undef) (st.get i)
 boxes:∀ i cs,st.bget i=some cs->i<500000->∃ b xs T,g.bl i=some b∧w.heap[b]? = some (.cells xs T (0,0))∧cs.length<=xs.size∧(∀ (j:Nat) c,cs[j]? = some c->∃ x,xs[j]? = some x∧SRep g w x c) ∧ ∀ (j:Nat) u,j<cs.length->xs[j]? = some u->u.oneCell'=true
 maps:∀ i ms,st.bget i=some [.mc ms]->500000<=i->∃ b es c,g.bl i=some b∧w.heap[b]? = some (.map es c)∧Av g w es c ms
 blk:∀ i b,g.bl i=some b->(∀ o,g.f0 b o)∧b<w.heap.size
 dom:∀ i b,g.bl i=some b->st.bget i≠none
 inj:∀ i j b,g.bl i=some b->g.bl j=some b->i=j
 toks:∀ t T,g.tk t=some T->(∃ n xs,w.ownsRow 0 T.E T.k T.v n xs)∧(∀ i b,T.v.ownBlock=some b->g.bl i≠some b)
 tf0:∀ t T b o,g.tk t=some T->T.v.ownBlock=some b->g.f0 b o
 telt:∀ t T,g.tk t=some T->T.E=t / 100000
 tdis:∀ t t' T T' b,g.tk t=some T->g.tk t'=some T'->T.v.ownBlock=some b->T'.v.ownBlock=some b->t=t'
 tdom:∀ t T,g.tk t=some T->st.tget t≠none
 tlen:∀ t n,st.tget t=some n->∃ T A c,g.tk t=some T∧T.v=.slice A n c
 glob:∀ q cs,F8 gs q=some cs->SRep g w (.pointer (some ⟨q,0,none⟩)) (.rd cs)
 gown:∀ q cs,F8 gs q=some cs->¬ P7 w0.g w0.w q
 ghp:∀ q cs,F8 gs q=some cs->∃ vs:List Value,cs=vs.map .val ∧ ∃ T z,w0.w.heap[q]? = some (.cells vs.toArray T z)
theorem Rep.eval (h:Rep B w0 g st a w) (x:Operand):SRep g w (a.eval x) (st.ev x):=by
 cases x with
 | tmp t=>exact h.slots t
 | const v=>
  show SRep g w v (bif v.oneCell' then .d (.val v)else .any)
  cases hv:v.oneCell' with
  | true=>exact DRep.val v hv
  | false=>trivial
 | global q=>
  show SRep g w (.pointer (some ⟨q,0,none⟩)) (match F8 gs q with|some cs=>.rd cs|none=>.d (.val (.pointer (some ⟨q,0,none⟩))))
  cases e:F8 gs q with
  | some cs=>exact h.glob q cs e
  | none=>exact DRep.val _ O
 | func f=>exact⟨[],by rfl,rfl,fun i b c hb=>by simp at hb⟩
theorem Rep.congr {st':PS} (h:Rep B w0 g st a w) (hn:st'.n=st.n) (hs:∀ i,st'.get i=st.get i) (hb:∀ i,st'.bget i=st.bget i) (ht:∀ i,st'.tget i=st.tget i):Rep B w0 g st' a w:=
 { h with
  lim:=by rw[hn];exact h.lim
  size:=by rw[hn];exact h.size
  slots:=fun i=>by rw[hs];exact h.slots i
  boxes:=fun i cs hi=>h.boxes i cs (by rw[<-hb];exact hi)
  maps:=fun i ms hi=>h.maps i ms (by rw[<-hb];exact hi)
  dom:=fun i b hi=>by rw[hb];exact h.dom i b hi
  tdom:=fun t T hT=>by rw[ht];exact h.tdom t T hT
  tlen:=fun t n hn=>h.tlen t n (by rw[<-ht];exact hn)
  glob:=h.glob }
theorem Ext.grow (h:Rep B w0 g st a w) (hb:Below w.heap.size w w'):Ext g w g w':=
 ⟨(Evo.grow (fun i b hi=>(h.blk i b hi).2) hb).fx,fun _ _ h=>h,fun _ T h=>⟨T,h,.inl rfl⟩,fun i b hi=>G5 (hb.block b (h.blk i b hi).2)⟩
theorem H8 {E k:Nat} (h:w.ownsRow B E k v n xs) (hb:∀ b,v.ownBlock=some b->w'.heap[b]? = w.heap[b]?):w'.ownsRow B E k v n xs:=by
 obtain⟨h1,h2⟩:=h
 refine⟨h1,?_⟩
 rcases h2 with h2|⟨gb,cap,cur,hv,h3,h4,h5⟩
 . exact .inl h2
 . exact .inr ⟨gb,cap,cur,hv,h3,(hb gb (by rw[hv];rfl)).trans h4,h5⟩
theorem Rep.grow (h:Rep B w0 g st a w) (hb:Below w.heap.size w w'):Rep B w0 g st a w':=by
 have e:=Ext.grow h hb
 refine { h with evo:=h.evo.trans (Evo.grow (fun i b hi=>(h.blk i b hi).2) hb),defers:=h.defers.evo (Evo.grow (fun i b hi=>(h.blk i b hi).2) hb),base:=E3 h.base hb.size,slots:=fun i=>(h.slots i).ext e,glob:=fun q cs hq=>(h.glob q cs hq).ext e,boxes:=?_,maps:=?_,blk:=fun i b hi=>⟨(h.blk i b hi).1,G2 (h.blk i b hi).2 hb.size⟩,toks:=fun t T hT=>?_ }
 . intro i cs hi hlt
   obtain⟨b,xs,T,h1,h2,h3,h4,h9⟩:=h.boxes i cs hi hlt
   refine⟨b,xs,T,h1,(hb.block b (h.blk i b h1).2).trans h2,h3,fun j c hj=>?_,h9⟩
   obtain⟨x,h5,h6⟩:=h4 j c hj
   exact⟨x,h5,h6.ext e⟩
 . intro i ms hi hge
   obtain⟨b,es,c,h1,h2,h3⟩:=h.maps i ms hi hge
   exact⟨b,es,c,h1,(hb.block b (h.blk i b h1).2).trans h2,h3.mono e.fx⟩
 . obtain⟨⟨n,xs,h1⟩,h2⟩:=h.toks t T hT
   exact⟨⟨n,xs,H8 h1 fun b hb'=>hb.block b (h1.lt b hb').2⟩,h2⟩
theorem MM (xs:Array Value) (d i:Nat) (v u:Value) (hd:d<xs.size):(xs.setIfInBounds d v).getD i u=if i=d then v else xs.getD i u:=by
 by_cases h:i=d
 . subst h;simp[Array.getD,hd]
 . by_cases hi:i<xs.size
   . simp[Array.getD,hi,h,Ne.symm h]
   . simp[Array.getD,hi,h]
theorem Rep.put (h:Rep B w0 g st a w) (hx:SRep g w v x) (d:Option Nat) (hd:∀ i,d=some i->i<st.n):Rep B w0 g (st.put d x) (a.put d v) w:=by
 cases d with
 | none=>exact h
 | some d=>
  have hd':=hd d rfl
  refine { h with lim:=h.lim,size:=?_,defers:=h.defers,slots:=fun i=>?_,boxes:=fun i cs hi=>h.boxes i cs hi,maps:=fun i ms hi=>h.maps i ms hi,dom:=h.dom,tdom:=h.tdom,tlen:=h.tlen,glob:=h.glob }
  . simp only[Act.put,Array.size_setIfInBounds];exact h.size
  . rw[O5]
    simp only[Act.put]
    rw[MM _ _ _ _ _ (by rw[h.size];exact hd')]
    by_cases e:i=d
    . simp[e,hx]
    . rw[B8 e,B8 e];exact h.slots i
theorem FG (w:World) (base:Nat) (t ty e:TypeId) (i:TypeInfo) (z:Value) (size bytes:Nat) (ht:P.underlying t=some (.slice e)) (hi:P.info? e=some i) (hz:i.zero=some z)
 (hsize:i.size=size) (hby:i.bytes=bytes) (hzs:z.cells.size=size) (v:Value) (n:Nat) (xs:List Value) (hown:w.ownsRow base e size v n xs)
 (A:Option Addr) (m c:Nat) (news:List Value) (hl:news.length=m*size) (hnews:0<m->∃ a,A=some a ∧ ∀ j u,news[j]? = some u->w.cell? (a.add j)=some u) (h1:∀ u∈news,u.oneCell'=true)
 (h63:n+m<=maxLen) (hbytes:(n+m)*bytes<=140737488355328) (hbase:base<=w.heap.size):
 ∃ v' w',(Builtin.append_ #[t,t] ty #[v,.slice A m c]).run P w=.ok v' w'∧w'.ownsRow base e size v' (n+m) (xs++news)∧Below 0 w w' ∧
  (∀ b,b<w.heap.size->v.ownBlock≠some b->w'.heap[b]? = w.heap[b]?)∧(∀ b o,b<w.heap.size->v.ownBlock=some b->o<n*size->w'.cell? ⟨b,o,none⟩=w.cell? ⟨b,o,none⟩) ∧
  (v'.ownBlock=v.ownBlock∨v'.ownBlock=some w.heap.size)∧(m=0->v'=v):=by
 subst hsize
 subst hby
 have hsmall:n+m<=9223372036854775807:=by simp only[maxLen]at h63;omega
 rcases F7 m with hm0|hm0
 . subst hm0
   have hn:news=[]:=List.eq_nil_of_length_eq_zero (by simpa using hl)
   subst hn
   refine⟨v,w,?_,by simpa using hown,Below.refl _ _,fun _ _ _=>rfl,fun _ _ _ _ _=>rfl,.inl rfl,fun _=>rfl⟩
   rcases hown.2 with⟨rfl,rfl⟩|⟨gb,cap,cur,rfl,hbg,hg,hnc,hcm,hcs,htake⟩
   . cases A<;>simp[Builtin.append_,run_underlying ht,sizeOf,typeInfo,hi,Builtin.lenOf,Builtin.firstCells,loadCells,loadCellsFrom]
   . cases A<;>simp[Builtin.append_,run_underlying ht,sizeOf,typeInfo,hi,Builtin.lenOf,Builtin.firstCells,loadCells,loadCellsFrom,hnc,storeCells]
 obtain⟨a,rfl,hnews'⟩:=hnews hm0
 have hlen:(xs++news).length=(n+m)*i.size:=by rw[D1,hown.1,hl,Nat.add_mul]
 have grown:∀ (old:Nat),old<n+m →
  (w.drew.alloc (.cells (xs.toArray++news.toArray++Builtin.zeroCells z.cells (grownCap w (n+m) old e-(n+m))) e)).ownsRow base e i.size
   (.slice (some ⟨w.heap.size,0,none⟩) (n+m) (grownCap w (n+m) old e)) (n+m) (xs++news):=by
  intro old ho
  have hge:=grownCap_ge w (n+m) old e
  have hcm:grownCap w (n+m) old e<=maxLen:=grownCap_le_maxLen w (n+m) old e h63
  refine⟨hlen,.inr ⟨w.heap.size,_,_,O,hbase,heap_alloc_new w.drew _,hge,hcm,?_,?_⟩⟩
  . simp only[Array.size_append,List.size_toArray,size_zeroCells,hzs,hown.1,hl,<-Nat.add_mul]
    congr 1
    omega
  . simp only[Array.toList_append,E8]
    rw[<-E8,<-hlen]
    exact List.take_left
 have hold:∀ o b,b<w.heap.size->(w.drew.alloc o).heap[b]? = w.heap[b]?:=fun o b hb=>Below.heap_alloc w.drew o b hb
 have hbel:∀ o,Below 0 w (w.drew.alloc o):=fun o=>⟨rfl,rfl,rfl,by simp,fun k hk=>by omega⟩
 rcases hown.2 with⟨rfl,rfl⟩|⟨gb,cap,cur,rfl,hbg,hg,hnc,hcm,hcs,htake⟩
 . have hx:xs=[]:=List.eq_nil_of_length_eq_zero (by simpa using hown.1)
   subst hx
   have hr:=run_append_nil (P:=P) w t ty e i z ht hi hz a m c news hl hnews' (by omega) (by omega) (by have hb:=hbytes;simp only[D0]at hb;omega)
   have hgr:=grown 0 (by omega)
   simp only[D0,List.nil_append,Array.empty_append]at hgr ⊢
   exact⟨_,_,hr,hgr,hbel _,fun b hb _=>hold _ b hb,fun b o hb h=>by simp[Value.ownBlock]at h,.inr rfl,fun h=>by omega⟩
 . by_cases hroom:n+m<=cap
   . have hfit:n*i.size+news.length<=cur.size:=by rw[hl,hcs,<-Nat.add_mul];exact Nat.mul_le_mul_right _ hroom
     have hr:=run_append_room (P:=P) w t ty e i ht hi gb n cap cur hg a m c news hl hnews' h1 hroom hfit
     refine⟨_,_,hr,⟨hlen,.inr ⟨gb,cap,_,O,hbg,setRow_heap w gb cur _ e _ hg,hroom,hcm,?_,?_⟩⟩,⟨rfl,O,O,by simp[World.setRow],fun k hk=>by omega⟩,fun b _ hb=>setRow_other w gb b _ (fun e=>hb (by simp[Value.ownBlock,e])),fun b o _ hb ho=>?_,.inl rfl,fun h=>by omega⟩
     . simp only[List.size_toArray,D1,F3,M9,Array.length_toList]
       omega
     . rw[htake,<-hlen]
       exact List.take_left
     . obtain rfl:gb=b:=by simpa[Value.ownBlock]using hb
       have h2:=setRow_heap w gb cur (cur.toList.take (n*i.size)++news++cur.toList.drop (n*i.size+news.length)).toArray e _ hg
       simp only[World.cell?,h2,hg,Option.isSome_none,Bool.false_eq_true,if_false]
       have hcl:n*i.size<=cur.size:=by omega
       rw[List.getElem?_toArray,E8,E4 (by simp;omega),C7 ho]
       simp
   . have holds:∀ j u,xs[j]? = some u->w.cell? ((⟨gb,0,none⟩:Addr).add j)=some u:=hown.cells (g:=gb) rfl
     have hr:=run_append_grow (P:=P) w t ty e i z ht hi hz ⟨gb,0,none⟩ n cap xs hown.1 holds a m c news hl hnews' (by omega) (by omega) (growslice_fits (by omega) hbytes)
     refine⟨_,_,hr,grown cap (by omega),hbel _,fun b hb _=>hold _ b hb,fun b o hb _ _=>World.cell?_of_block (hold _ b hb),.inr O,fun h=>by omega⟩
def Gh.addb (g:Gh) (i b:Nat):Gh:={ g with bl:=fun j=>if j=i then some b else g.bl j }
theorem Gh.addb_ne {j:Nat} (h:j≠i):(g.addb i b).bl j=g.bl j:=by simp[Gh.addb,h]
theorem Evo.newb (hbl:∀ i b,g.bl i=some b->b<w.heap.size) (hs:Ka i) (o:Obj):Evo g w (g.addb i w.heap.size) (w.alloc o):=by
 have hb:Below w.heap.size w (w.alloc o):=(Below.refl _ _).alloc (D6 _) _
 refine⟨hb.mono (D4 _),O,fun b o' hf hs=>?_,fun b hb'=>?_,fun j b hj=>?_,fun _ T h=>.inl ⟨T,h,.inl O⟩,fun t T _ h h'=>.inr (.inr ⟨t,T,h,h'⟩),fun j b _ hj _=>G5 (hb.block b (hbl j b hj))⟩
 . have hlt:=V4 hs
   refine⟨⟨hf.1,fun j hj=>?_,hf.2.2⟩,I2 (hb.block b hlt) o'⟩
   simp only[Gh.addb]at hj
   split at hj
   . cases hj;omega
   . exact hf.2.1 j hj
 . rcases G0 b w.heap.size with h1|h1
   . exact hb.block b h1
   . exact F9 (.inl h1) hb'
 . simp only[Gh.addb]at hj
   split at hj
   . rename_i e;cases hj;exact .inr ⟨e ▸ hs,.inl (D6 _)⟩
   . exact .inl hj
theorem Ext.newb (h:Rep B w0 g st a w) (hi:g.bl i=none) (hs:Ka i) (o:Obj):Ext g w (g.addb i w.heap.size) (w.alloc o):=by
 have hb:Below w.heap.size w (w.alloc o):=(Below.refl _ _).alloc (D6 _) _
 refine⟨(Evo.newb (fun i b hi=>(h.blk i b hi).2) hs o).fx,fun j b hj=>?_,fun _ T h=>⟨T,h,.inl O⟩,fun j b hj=>G5 (hb.block b (h.blk j b hj).2)⟩
 simp only[Gh.addb]
 split
 . rename_i e;subst e;rw[hi]at hj;cases hj
 . exact hj
theorem Rep.newo (h:Rep B w0 g st a w) (i:Nat) (hi:st.bget i=none) (hs:Ka i) (o:Obj) (cs:List SV)
 (hB:Ext g w (g.addb i w.heap.size) (w.alloc o)->i<500000->∃ b xs T,(g.addb i w.heap.size).bl i=some b∧(w.alloc o).heap[b]? = some (.cells xs T (0,0))∧cs.length<=xs.size∧(∀ (j:Nat) c,cs[j]? = some c->∃ x,xs[j]? = some x∧SRep (g.addb i w.heap.size) (w.alloc o) x c) ∧ ∀ (j:Nat) u,j<cs.length->xs[j]? = some u->u.oneCell'=true)
 (hM:Ext g w (g.addb i w.heap.size) (w.alloc o)->500000<=i->∀ ms,cs=[.mc ms]->∃ b es c,(g.addb i w.heap.size).bl i=some b∧(w.alloc o).heap[b]? = some (.map es c)∧Av (g.addb i w.heap.size) (w.alloc o) es c ms):
 Rep B w0 (g.addb i w.heap.size) (st.bput i cs) a (w.alloc o):=by
 have hgi:g.bl i=none:=by
  cases e:g.bl i with
  | none=>rfl
  | some b=>exact F9 hi (h.dom i b e)
 have e:=Ext.newb h hgi hs o
 have hb:Below w.heap.size w (w.alloc o):=(Below.refl _ _).alloc (D6 _) _
 refine { h with evo:=h.evo.trans (Evo.newb (fun i b hi=>(h.blk i b hi).2) hs o),defers:=h.defers.evo (Evo.newb (fun i b hi=>(h.blk i b hi).2) hs o),base:=E3 h.base hb.size,lim:=h.lim,size:=h.size,slots:=fun j=>(h.slots j).ext e,glob:=fun q cs hq=>(h.glob q cs hq).ext e,boxes:=?_,maps:=?_,blk:=fun j b hj=>?_,dom:=fun j b hj=>?_,inj:=fun j k b hj hk=>?_,toks:=fun t T' hT=>?_,tdom:=h.tdom,tlen:=h.tlen,f0:=h.f0,tf0:=h.tf0,telt:=h.telt,tdis:=h.tdis }
 . intro j cs' hj hlt
   rw[I0]at hj
   by_cases hji:j=i
   . rw[C2 hji]at hj
     cases hj
     subst hji
     exact hB e hlt
   . rw[B8 hji]at hj
     obtain⟨b,ys,T',h1,h2,h3,h4,h9⟩:=h.boxes j cs' hj hlt
     refine⟨b,ys,T',by simp[Gh.addb,hji,h1],(hb.block b (h.blk j b h1).2).trans h2,h3,fun q c hq=>?_,h9⟩
     obtain⟨x,h5,h6⟩:=h4 q c hq
     exact⟨x,h5,h6.ext e⟩
 . intro j ms hj hge
   rw[I0]at hj
   by_cases hji:j=i
   . rw[C2 hji]at hj
     subst hji
     exact hM e hge ms (G4 hj)
   . rw[B8 hji]at hj
     obtain⟨b,es,c,h1,h2,h3⟩:=h.maps j ms hj hge
     exact⟨b,es,c,by simp[Gh.addb,hji,h1],(hb.block b (h.blk j b h1).2).trans h2,h3.mono e.fx⟩
 . simp only[Gh.addb]at hj
   split at hj
   . cases hj;exact⟨fun o=>h.f0 _ o h.base,by simp⟩
   . exact⟨(h.blk j b hj).1,G2 (h.blk j b hj).2 hb.size⟩
 . simp only[Gh.addb]at hj
   rw[I0]
   split at hj
   . rename_i e;simp[e]
   . rename_i e;rw[B8 e];exact h.dom j b hj
 . simp only[Gh.addb]at hj hk
   split at hj<;>split at hk
   . omega
   . cases hj;have:=(h.blk k _ hk).2;omega
   . cases hk;have:=(h.blk j _ hj).2;omega
   . exact h.inj j k b hj hk
 . obtain⟨⟨n,ys,h1⟩,h2⟩:=h.toks t T' hT
   refine⟨⟨n,ys,H8 h1 fun b hb'=>hb.block b (h1.lt b hb').2⟩,fun j b hb' hj=>?_⟩
   simp only[Gh.addb]at hj
   split at hj
   . cases hj;have:=(h1.lt _ hb').2;omega
   . exact h2 j b hb' hj
theorem Rep.newb (h:Rep B w0 g st a w) (i T:Nat) (hi:st.bget i=none) (hin:i<st.n) (xs:Array Value) (cs:List SV) (hl:cs.length<=xs.size)
 (hx:∀ (j:Nat) c,cs[j]? = some c->∃ x,xs[j]? = some x∧SRep g w x c) (h1c:∀ u∈xs,u.oneCell'=true):Rep B w0 (g.addb i w.heap.size) (st.bput i cs) a (w.alloc (.cells xs T)):=by
 have hlim:=h.lim
 refine h.newo i hi (by unfold Ka;omega) _ cs (fun e hlt=>⟨w.heap.size,xs,T,by simp[Gh.addb],heap_alloc_new _ _,hl,fun q c hq=>?_,fun _ u _ hu=>h1c u (Array.mem_of_getElem? hu)⟩) fun _ hge=>by omega
 obtain⟨x,h1,h2⟩:=hx q c hq
 exact⟨x,h1,h2.ext e⟩
theorem Rep.newm (h:Rep B w0 g st a w) (i c:Nat) (hi:st.bget (500000+i)=none) (hin:i<st.n) (es:Array MapEntry) (ms:List (Value×DV)) (hm:Av g w es c ms):Rep B w0 (g.addb (500000+i) w.heap.size) (st.bput (500000+i) [.mc ms]) a (w.alloc (.map es c)):=by
 have hlim:=h.lim
 refine h.newo (500000+i) hi (by unfold Ka;omega) _ [.mc ms] (fun _ hlt=>by omega) fun e _ ms' hms=>?_
 obtain rfl:ms=ms':=by simpa using hms
 exact⟨w.heap.size,es,c,by simp[Gh.addb],heap_alloc_new _ _,hm.mono e.fx⟩
theorem Evo.setb (hbl:g.bl i=some b) (hb0:Below 0 w w') (hne:∀ k,k<w.heap.size->k≠b->w'.heap[k]? = w.heap[k]?) (hlts:∀ i b,g.bl i=some b->b<w.heap.size) (hsh:w'.shape? b=w.shape? b):Evo g w g w':=by
 refine⟨hb0,O,fun b' o hf hs=>⟨hf,?_⟩,fun b' hb'=>?_,fun _ _ h=>.inl h,fun _ T h=>.inl ⟨T,h,.inl O⟩,fun t T _ h h'=>.inr (.inr ⟨t,T,h,h'⟩),fun j b' _ hj _=>?_⟩
 rotate_left 2
 . by_cases e:b'=b
   . subst e;exact hsh
   . exact G5 (hne b' (hlts j b' hj) e)
 . have:b'≠b:=fun e=>hf.2.1 i (by rw[hbl,e])
   exact I2 (hne b' (V4 hs) this) o
 . rcases G0 b' w.heap.size with h1|h1
   . exact hne b' h1 fun e=>hb' (.inr (.inl ⟨i,e ▸ hbl⟩))
   . exact F9 (.inl h1) hb'
theorem Rep.seto (h:Rep B w0 g st a w) (i b:Nat) (cs':List SV) (hbl:g.bl i=some b) (hb0:Below 0 w w') (hne:∀ k,k<w.heap.size->k≠b->w'.heap[k]? = w.heap[k]?) (hsh:w'.shape? b=w.shape? b)
 (hB:Ext g w g w'->i<500000->∃ xs T,w'.heap[b]? = some (.cells xs T (0,0))∧cs'.length<=xs.size∧(∀ (j:Nat) c,cs'[j]? = some c->∃ x,xs[j]? = some x∧SRep g w' x c) ∧ ∀ (j:Nat) u,j<cs'.length->xs[j]? = some u->u.oneCell'=true)
 (hM:Ext g w g w'->500000<=i->∀ ms,cs'=[.mc ms]->∃ es c,w'.heap[b]? = some (.map es c)∧Av g w' es c ms):
 Rep B w0 g (st.bput i cs') a w':=by
 have ev:=Evo.setb hbl hb0 hne (fun i b hi=>(h.blk i b hi).2) hsh
 have e:Ext g w g w':=⟨ev.fx,fun _ _ h=>h,fun _ T h=>⟨T,h,.inl rfl⟩,fun j b' hj=>by
  by_cases hb:b'=b
  . subst hb;exact hsh
  . exact G5 (hne b' (h.blk j b' hj).2 hb)⟩
 refine { h with evo:=h.evo.trans ev,defers:=h.defers.evo ev,base:=E3 h.base hb0.size,lim:=h.lim,size:=h.size,slots:=fun j=>(h.slots j).ext e,glob:=fun q cs hq=>(h.glob q cs hq).ext e,boxes:=?_,maps:=?_,blk:=fun j b' hj=>⟨(h.blk j b' hj).1,G2 (h.blk j b' hj).2 hb0.size⟩,dom:=fun j b' hj=>?_,toks:=fun t T' hT=>?_,tdom:=h.tdom,tlen:=h.tlen }
 . intro j cs1 hj hlt
   rw[I0]at hj
   by_cases hji:j=i
   . rw[C2 hji]at hj
     cases hj
     subst hji
     obtain⟨xs,T,h1⟩:=hB e hlt
     exact⟨b,xs,T,hbl,h1⟩
   . rw[B8 hji]at hj
     obtain⟨b',ys,T',h5,h6,h7,h8,h8c⟩:=h.boxes j cs1 hj hlt
     have hbb:b'≠b:=fun e=>hji (h.inj j i b (by rw[h5,e]) hbl)
     refine⟨b',ys,T',h5,(hne b' (h.blk j b' h5).2 hbb).trans h6,h7,fun q c hq=>?_,h8c⟩
     obtain⟨y,h9,h10⟩:=h8 q c hq
     exact⟨y,h9,h10.ext e⟩
 . intro j ms hj hge
   rw[I0]at hj
   by_cases hji:j=i
   . rw[C2 hji]at hj
     subst hji
     obtain⟨es,c,h1⟩:=hM e hge ms (G4 hj)
     exact⟨b,es,c,hbl,h1⟩
   . rw[B8 hji]at hj
     obtain⟨b',es,c,h5,h6,h7⟩:=h.maps j ms hj hge
     have hbb:b'≠b:=fun e=>hji (h.inj j i b (by rw[h5,e]) hbl)
     exact⟨b',es,c,h5,(hne b' (h.blk j b' h5).2 hbb).trans h6,h7.mono e.fx⟩
 . rw[I0]
   by_cases hji:j=i
   . simp[hji]
   . rw[B8 hji];exact h.dom j b' hj
 . obtain⟨⟨n,ys,h5⟩,h6⟩:=h.toks t T' hT
   refine⟨⟨n,ys,H8 h5 fun b' hb'=>hne b' (h5.lt b' hb').2 fun e=>h6 i b' hb' (by rw[hbl,e])⟩,h6⟩
theorem Rep.setb (h:Rep B w0 g st a w) (i off b:Nat) (cs:List SV) (hi:st.bget i=some cs) (hlt:i<500000) (hbl:g.bl i=some b) (hoff:off<cs.length) (hx:SRep g w v x) (hv:v.oneCell'=true):
 Rep B w0 g (st.bput i (cs.set off x)) a (w.setCell ⟨b,off,none⟩ v):=by
 have hne:∀ k,k<w.heap.size->k≠b->(w.setCell ⟨b,off,none⟩ v).heap[k]? = w.heap[k]?:=fun k _ hk=>Below.heap_setCell w _ _ k (by simpa using hk)
 obtain⟨b1,xs,T,h1,h2,h3,h4,h4c⟩:=h.boxes i cs hi hlt
 rw[hbl]at h1
 cases h1
 have hheap:(w.setCell ⟨b,off,none⟩ v).heap[b]? = some (.cells (xs.setIfInBounds off v) T (0,0)):=by
  simp[World.setCell,Array.getElem?_modify,h2]
 refine h.seto i b _ hbl ((Below.refl 0 w).setCell (D4 _) v) hne (by simp[World.shape?,hheap,h2]) (fun e _=>⟨xs.setIfInBounds off v,T,hheap,by simpa using h3,fun q c hq=>?_,fun q u hq hu=>?_⟩) fun _ hge=>by omega
 . by_cases hqo:q=off
   . subst hqo
     rw[List.getElem?_set_self hoff]at hq
     cases hq
     exact⟨v,Array.getElem?_setIfInBounds_self_of_lt (by omega),hx.ext e⟩
   . rw[List.getElem?_set_ne (Ne.symm hqo)]at hq
     obtain⟨y,h5,h6⟩:=h4 q c hq
     exact⟨y,by rw[Array.getElem?_setIfInBounds_ne (Ne.symm hqo)];exact h5,h6.ext e⟩
 . by_cases hqo:q=off
   . subst hqo
     rw[Array.getElem?_setIfInBounds_self_of_lt (by omega)]at hu
     cases hu;exact hv
   . rw[Array.getElem?_setIfInBounds_ne (Ne.symm hqo)]at hu
     exact h4c q u (by simpa using hq) hu
theorem Rep.adopt (h:Rep B w0 g st a w) (i b T:Nat) (hi:st.bget i=none) (hin:i<st.n) (hb:Below w.heap.size w w') (hfr:w.heap.size<=b) (xs:Array Value) (hheap:w'.heap[b]? = some (.cells xs T (0,0))) (cs:List SV) (hl:cs.length<=xs.size)
 (hx:Evo g w (g.addb i b) w'->∀ (j:Nat) c,cs[j]? = some c->∃ x,xs[j]? = some x∧SRep (g.addb i b) w' x c) (h1c:∀ (j:Nat) u,j<cs.length->xs[j]? = some u->u.oneCell'=true):Evo g w (g.addb i b) w'∧Rep B w0 (g.addb i b) (st.bput i cs) a w':=by
 have hlim:=h.lim
 have hgi:g.bl i=none:=by
  cases e:g.bl i with
  | none=>rfl
  | some b=>exact F9 hi (h.dom i b e)
 have hbs:b<w'.heap.size:=by
  rcases G0 b w'.heap.size with q|q
  . exact q
  . rw[Array.getElem?_eq_none q]at hheap;cases hheap
 have ev:Evo g w (g.addb i b) w':=by
  refine⟨hb.mono (D4 _),O,fun b' o' hf hs=>?_,fun b' hb'=>?_,fun j b' hj=>?_,fun _ T h=>.inl ⟨T,h,.inl O⟩,fun t T _ h h'=>.inr (.inr ⟨t,T,h,h'⟩),fun j b' _ hj _=>G5 (hb.block b' (h.blk j b' hj).2)⟩
  . have hlt:=V4 hs
    refine⟨⟨hf.1,fun j hj=>?_,hf.2.2⟩,I2 (hb.block b' hlt) o'⟩
    simp only[Gh.addb]at hj
    split at hj
    . cases hj;omega
    . exact hf.2.1 j hj
  . rcases G0 b' w.heap.size with h1|h1
    . exact hb.block b' h1
    . exact F9 (.inl h1) hb'
  . simp only[Gh.addb]at hj
    split at hj
    . rename_i e;cases hj;exact .inr ⟨by unfold Ka;omega,.inl hfr⟩
    . exact .inl hj
 have e:Ext g w (g.addb i b) w':=by
  refine⟨ev.fx,fun j b' hj=>?_,fun _ T h=>⟨T,h,.inl O⟩,fun j b' hj=>G5 (hb.block b' (h.blk j b' hj).2)⟩
  simp only[Gh.addb]
  split
  . rename_i e;subst e;rw[hgi]at hj;cases hj
  . exact hj
 refine⟨ev,{ h with evo:=h.evo.trans ev,defers:=h.defers.evo ev,base:=E3 h.base hb.size,lim:=h.lim,size:=h.size,slots:=fun j=>(h.slots j).ext e,glob:=fun q cs hq=>(h.glob q cs hq).ext e,boxes:=?_,maps:=?_,blk:=fun j b' hj=>?_,dom:=fun j b' hj=>?_,inj:=fun j k b' hj hk=>?_,toks:=fun t T' hT=>?_,tdom:=h.tdom,tlen:=h.tlen,f0:=h.f0,tf0:=h.tf0,telt:=h.telt,tdis:=h.tdis }⟩
 . intro j cs' hj hlt
   rw[I0]at hj
   by_cases hji:j=i
   . rw[C2 hji]at hj
     cases hj
     subst hji
     exact⟨b,xs,T,by simp[Gh.addb],hheap,hl,hx ev,h1c⟩
   . rw[B8 hji]at hj
     obtain⟨b',ys,T',h1,h2,h3,h4,h9⟩:=h.boxes j cs' hj hlt
     refine⟨b',ys,T',by simp[Gh.addb,hji,h1],(hb.block b' (h.blk j b' h1).2).trans h2,h3,fun q c hq=>?_,h9⟩
     obtain⟨x,h5,h6⟩:=h4 q c hq
     exact⟨x,h5,h6.ext e⟩
 . intro j ms hj hge
   rw[I0,B8 (by omega)]at hj
   obtain⟨b',es,c,h1,h2,h3⟩:=h.maps j ms hj hge
   exact⟨b',es,c,by rw[Gh.addb_ne (by omega)];exact h1,(hb.block b' (h.blk j b' h1).2).trans h2,h3.mono e.fx⟩
 . simp only[Gh.addb]at hj
   split at hj
   . cases hj;exact⟨fun o=>h.f0 _ o (E3 h.base hfr),hbs⟩
   . exact⟨(h.blk j b' hj).1,G2 (h.blk j b' hj).2 hb.size⟩
 . simp only[Gh.addb]at hj
   rw[I0]
   split at hj
   . rename_i e;simp[e]
   . rename_i e;rw[B8 e];exact h.dom j b' hj
 . simp only[Gh.addb]at hj hk
   split at hj<;>split at hk
   . omega
   . cases hj;have:=(h.blk k _ hk).2;omega
   . cases hk;have:=(h.blk j _ hj).2;omega
   . exact h.inj j k b' hj hk
 . obtain⟨⟨n,ys,h1⟩,h2⟩:=h.toks t T' hT
   refine⟨⟨n,ys,H8 h1 fun b' hb'=>hb.block b' (h1.lt b' hb').2⟩,fun j b' hb' hj=>?_⟩
   simp only[Gh.addb]at hj
   split at hj
   . cases hj;have:=(h1.lt _ hb').2;omega
   . exact h2 j b' hb' hj
theorem Jz {j k:Nat} (hi:i<n) (hj:j<k):i*k+j<n*k:=by
 have:(i+1)*k<=n*k:=Nat.mul_le_mul_right _ hi
 rw[Nat.succ_mul]at this
 omega
theorem DRep.row {k:Nat} (h:DRep F w v (.sl k es)):
 ∃ A c,∃ news:List Value,v=.slice A es.length c∧es.length<=c∧es.length<=9223372036854775807∧(∀ e∈es,e.length=k)∧news.length=es.length*k ∧
  (0<es.length->∃ b off,A=some ⟨b,off,none⟩ ∧ ∀ j u,news[j]? = some u->w.cell? ⟨b,off+j,none⟩=some u∧F b (off+j))∧(∀ u∈news,u.oneCell'=true) ∧
  ∀ (i j:Nat) e x,es[i]? = some e->e[j]? = some x->∃ u,news[i*k+j]? = some u∧DRep F w u x:=by
 cases h with
 | @sl _ n c A _ f hn hc hm hk ha h1 h=>
  subst hn
  have hget:∀ q,q<es.length*k->(List.ofFn (n:=es.length*k) fun q=>f (q.val / k) (q.val % k))[q]? = some (f (q / k) (q % k)):=fun q hq=>by
   rw[A4 (by simpa using hq)]
   simp
  have hsplit:∀ q,q<es.length*k->q / k<es.length∧q % k<k:=fun q hq=>by
   have hk0:0<k:=by
    rcases F7 k with h0|h0
    . subst h0;simp at hq
    . exact h0
   exact⟨(Nat.div_lt_iff_lt_mul hk0).2 hq,Nat.mod_lt _ hk0⟩
  refine⟨A,c,List.ofFn (n:=es.length*k) fun q=>f (q.val / k) (q.val % k),O,hc,hm,hk,by simp,fun h0=>?_,fun u hu=>?_,fun i j e x he hx=>?_⟩
  . obtain⟨b,off,hA,hcell⟩:=ha h0
    refine⟨b,off,hA,fun q u hq=>?_⟩
    have hlt:q<es.length*k:=by
     rcases G0 q (es.length*k)with h2|h2
     . exact h2
     . rw[E9 (by simpa using h2)]at hq;cases hq
    rw[hget q hlt]at hq
    cases hq
    have:=hcell (q / k) (q % k) (hsplit q hlt).1 (hsplit q hlt).2
    have e:q / k*k+q % k=q:=by rw[Nat.mul_comm];exact Nat.div_add_mod q k
    rw[Nat.add_assoc,e]at this
    exact this
  . obtain⟨q,hq⟩:=List.mem_iff_getElem?.1 hu
    have hlt:q<es.length*k:=by
     rcases G0 q (es.length*k)with h2|h2
     . exact h2
     . rw[E9 (by simpa using h2)]at hq;cases hq
    rw[hget q hlt]at hq
    cases hq
    exact h1 _ _ (hsplit q hlt).1 (hsplit q hlt).2
  . have hi:i<es.length:=(A6.1 he).1
    have hj:j<k:=by rw[<-hk e (B2 he)];exact(A6.1 hx).1
    refine⟨f i j,?_,h i j e x he hx⟩
    rw[hget _ (Jz hi hj)]
    congr 2
    . rw[Nat.add_comm,Nat.add_mul_div_right _ _ (by omega),Nat.div_eq_of_lt hj];omega
    . rw[Nat.add_comm,Nat.add_mul_mod_self_right,Nat.mod_eq_of_lt hj]
theorem DRep.of_row {k c:Nat} {A:Option Addr} (hc:es.length<=c) (hm:es.length<=9223372036854775807) (hk:∀ e∈es,e.length=k)
 (ha:0<es.length->∃ b off,A=some ⟨b,off,none⟩ ∧ ∀ (j:Nat) u,xs[j]? = some u->w.cell? ⟨b,off+j,none⟩=some u∧F b (off+j)) (h1:∀ u∈xs,u.oneCell'=true)
 (h:∀ (i j:Nat) e x,es[i]? = some e->e[j]? = some x->∃ u,xs[i*k+j]? = some u∧DRep F w u x):DRep F w (.slice A es.length c) (.sl k es):=by
 have hex:∀ i j,i<es.length->j<k->∃ u e x,es[i]? = some e∧e[j]? = some x∧xs[i*k+j]? = some u∧DRep F w u x:=fun i j hi hj=>by
  have he:=A4 hi
  have hx:(es[i])[j]? = some _:=A4 (by rw[hk _ (List.getElem_mem hi)];exact hj)
  obtain⟨u,h2,h3⟩:=h i j _ _ he hx
  exact⟨u,_,_,he,hx,h2,h3⟩
 refine .sl (fun i j=>(xs[i*k+j]?).getD undef) O hc hm hk (fun h0=>?_) (fun i j hi hj=>?_) fun i j e x he hx=>?_
 . obtain⟨b,off,hA,hcell⟩:=ha h0
   refine⟨b,off,hA,fun i j hi hj=>?_⟩
   obtain⟨u,-,-,-,-,h2,-⟩:=hex i j hi hj
   rw[h2]
   have:=hcell _ u h2
   rw[Nat.add_assoc]
   exact this
 . obtain⟨u,-,-,-,-,h2,-⟩:=hex i j hi hj
   show((xs[i*k+j]?).getD undef).oneCell'=true
   rw[h2]
   exact h1 u (B2 h2)
 . obtain⟨u,h2,h3⟩:=h i j e x he hx
   show DRep F w ((xs[i*k+j]?).getD undef) x
   rw[h2]
   exact h3
def Gh.sett (g:Gh) (t:Nat) (T:Tk):Gh:={ g with tk:=fun j=>if j=t then some T else g.tk j }
theorem O0 {E k:Nat} (h:w.ownsRow B E k v n xs):∃ A c,v=.slice A n c∧n<=c∧(∀ b,v.ownBlock=some b->v=.slice (some ⟨b,0,none⟩) n c):=by
 rcases h.2 with⟨rfl,rfl⟩|⟨gb,cap,cur,rfl,-,-,hc,-⟩
 . exact⟨none,0,O,D6 _,fun b hb=>by simp[Value.ownBlock]at hb⟩
 . exact⟨_,cap,rfl,hc,fun b hb=>by obtain rfl:gb=b:=by simpa[Value.ownBlock]using hb
                                   rfl⟩
theorem T9 {E k:Nat} (h:w.ownsRow B E k v n xs) (hb:v.ownBlock=some b) (j:Nat) (u:Value) (hj:xs[j]? = some u):w.cell? ⟨b,j,none⟩=some u:=by
 have:=h.cells hb j u hj
 rw[Addr.add_lit]at this
 simpa using this
theorem Evo.app (t n m:Nat) (T:Tk) (hT:g.tk t=some T) (v':Value) (A:Option Addr) (c:Nat) (hTv:T.v=.slice A n c) (hTb:∀ b,T.v.ownBlock=some b->T.v=.slice (some ⟨b,0,none⟩) n c) (A':Option Addr) (c':Nat) (hv':v'=.slice A' (n+m) c') (hvb:∀ b,v'.ownBlock=some b->v'=.slice (some ⟨b,0,none⟩) (n+m) c')
 (hb0:Below 0 w w') (hoth:∀ b,b<w.heap.size->T.v.ownBlock≠some b->w'.heap[b]? = w.heap[b]?) (hrow:∀ b o,b<w.heap.size->T.v.ownBlock=some b->o<n*T.k->AB w' b o=AB w b o)
 (hblk:v'.ownBlock=T.v.ownBlock∨v'.ownBlock=some w.heap.size) (hm:m=0->v'=T.v) (hlts:∀ i b,g.bl i=some b->b<w.heap.size∧T.v.ownBlock≠some b):Evo g w (g.sett t ⟨v',T.E,T.k⟩) w':=by
 refine⟨hb0,O,fun b o hf hs=>?_,fun b hb=>?_,fun _ _ h=>.inl h,fun t' T' hT'=>?_,fun t' T' b hT' hb=>?_,fun i b _ hi _=>G5 (hoth b (hlts i b hi).1 (hlts i b hi).2)⟩
 . have hlt:=V4 hs
   refine⟨⟨hf.1,hf.2.1,fun t' T' n' c'' h1 h2=>?_⟩,?_⟩
   . simp only[Gh.sett]at h1
     by_cases ht:t'=t
     . rw[C2 ht]at h1
       cases h1
       have h3:v'.ownBlock=some b:=by show v'.ownBlock=_;rw[show v'=_ from h2];rfl
       rcases hblk with h4|h4
       . have h5:=hTb b (h4 ▸ h3)
         have h6:=hf.2.2 t T n c hT h5
         have h7:=hvb b h3
         rw[show v'=_ from h2]at h7
         have h8:n'=n+m:=(Value.slice.inj h7).2.1
         show o<n'*T.k
         rw[h8,Nat.add_mul]
         omega
       . rw[h4]at h3;cases h3;omega
     . rw[B8 ht]at h1
       exact hf.2.2 t' T' n' c'' h1 h2
   . by_cases hb:T.v.ownBlock=some b
     . exact hrow b o hlt hb (hf.2.2 t T n c hT (hTb b hb))
     . exact I2 (hoth b hlt hb) o
 . rcases G0 b w.heap.size with h1|h1
   . exact hoth b h1 fun e=>hb (.inr (.inr ⟨t,T,hT,e⟩))
   . exact F9 (.inl h1) hb
 . simp only[Gh.sett]at hT'
   by_cases ht:t'=t
   . rw[C2 ht]at hT'
     cases hT'
     refine .inl ⟨T,ht ▸ hT,.inr ⟨rfl,O,A,n,c,A',n+m,c',hTv,hv',by omega,fun h=>hm (by omega)⟩⟩
   . rw[B8 ht]at hT'
     exact .inl ⟨T',hT',.inl O⟩
 . simp only[Gh.sett]at hT'
   by_cases ht:t'=t
   . rw[C2 ht]at hT'
     cases hT'
     rcases hblk with h4|h4
     . exact .inr (.inr ⟨t,T,hT,by rw[<-h4];exact hb⟩)
     . rw[show v'.ownBlock=_ from h4]at hb
       cases hb
       exact .inl (D6 _)
   . rw[B8 ht]at hT'
     exact .inr (.inr ⟨t',T',hT',hb⟩)
theorem Rep.app (h:Rep B w0 g st a w) (t n m:Nat) (T:Tk) (hT:g.tk t=some T) (xs news:List Value) (v':Value) (hown:w.ownsRow 0 T.E T.k T.v n xs) (hown':w'.ownsRow 0 T.E T.k v' (n+m) (xs++news))
 (hb0:Below 0 w w') (hoth:∀ b,b<w.heap.size->T.v.ownBlock≠some b->w'.heap[b]? = w.heap[b]?) (hrow:∀ b o,b<w.heap.size->T.v.ownBlock=some b->o<n*T.k->w'.cell? ⟨b,o,none⟩=w.cell? ⟨b,o,none⟩)
 (hblk:v'.ownBlock=T.v.ownBlock∨v'.ownBlock=some w.heap.size) (hm:m=0->v'=T.v):
 Kp (Fx g) w (Fx (g.sett t ⟨v',T.E,T.k⟩)) w'∧Rep B w0 (g.sett t ⟨v',T.E,T.k⟩) (st.tput t (n+m)) a w':=by
 obtain⟨A,c,hTv,hnc,hTb⟩:=O0 hown
 obtain⟨A',c',hv',hnc',hvb⟩:=O0 hown'
 have hsee:∀ b o,b<w.heap.size->T.v.ownBlock=some b->o<n*T.k->AB w' b o=AB w b o:=fun b o hb hT' ho=>by
  have hlx:=hown.1
  obtain⟨u,hu⟩:∃ u,xs[o]? = some u:=⟨_,A4 (by omega)⟩
  have h1:=T9 hown hT' o u hu
  rw[Ac.1 h1,Ac.1 ((hrow b o hb hT' ho).trans h1)]
 have ev:=Evo.app t n m T hT v' A c hTv hTb A' c' hv' hvb hb0 hoth hsee hblk hm (fun i b hi=>⟨(h.blk i b hi).2,fun e=>(h.toks t T hT).2 i b e hi⟩)
 have e:Ext g w (g.sett t ⟨v',T.E,T.k⟩) w':=by
  refine⟨ev.fx,fun _ _ h=>h,fun t' T' hT'=>?_,fun i b hi=>G5 (hoth b (h.blk i b hi).2 fun e=>(h.toks t T hT).2 i b e hi)⟩
  simp only[Gh.sett]at hT'
  by_cases ht:t'=t
  . rw[C2 ht]at hT'
    cases hT'
    exact⟨T,ht ▸ hT,.inr ⟨rfl,O,A,n,c,A',n+m,c',hTv,hv',by omega,fun h=>hm (by omega)⟩⟩
  . rw[B8 ht]at hT'
    exact⟨T',hT',.inl O⟩
 refine⟨ev.fx,{ h with evo:=h.evo.trans ev,defers:=h.defers.evo ev,base:=E3 h.base hb0.size,f0:=h.f0,lim:=h.lim,size:=h.size,slots:=fun i=>(h.slots i).ext e,glob:=fun q cs hq=>(h.glob q cs hq).ext e,boxes:=?_,maps:=?_,blk:=fun i b hi=>⟨(h.blk i b hi).1,G2 (h.blk i b hi).2 hb0.size⟩,dom:=h.dom,inj:=h.inj,toks:=?_,tf0:=?_,telt:=?_,tdis:=?_,tdom:=?_,tlen:=?_ }⟩
 . intro i cs hi hlt
   obtain⟨b,ys,T',h1,h2,h3,h4,h9⟩:=h.boxes i cs hi hlt
   refine⟨b,ys,T',h1,(hoth b (h.blk i b h1).2 fun e=>(h.toks t T hT).2 i b e h1).trans h2,h3,fun j c hj=>?_,h9⟩
   obtain⟨x,h5,h6⟩:=h4 j c hj
   exact⟨x,h5,h6.ext e⟩
 . intro i ms hi hge
   obtain⟨b,es,c,h1,h2,h3⟩:=h.maps i ms hi hge
   exact⟨b,es,c,h1,(hoth b (h.blk i b h1).2 fun e=>(h.toks t T hT).2 i b e h1).trans h2,h3.mono e.fx⟩
 . intro t' T' hT'
   simp only[Gh.sett]at hT'
   by_cases ht:t'=t
   . rw[C2 ht]at hT'
     cases hT'
     refine⟨⟨_,_,hown'⟩,fun i b hb hi=>?_⟩
     rcases hblk with h4|h4
     . exact(h.toks t T hT).2 i b (h4 ▸ hb) hi
     . have:=(h.blk i b hi).2
       rw[show v'.ownBlock=_ from h4]at hb
       cases hb
       omega
   . rw[B8 ht]at hT'
     obtain⟨⟨n',ys,h1⟩,h2⟩:=h.toks t' T' hT'
     exact⟨⟨n',ys,H8 h1 fun b hb=>hoth b (h1.lt b hb).2 fun e=>ht (h.tdis t' t T' T b hT' hT hb e)⟩,h2⟩
 . intro t' T' b o hT' hb
   simp only[Gh.sett]at hT'
   by_cases ht:t'=t
   . rw[C2 ht]at hT'
     cases hT'
     rcases hblk with h4|h4
     . exact h.tf0 t T b o hT (h4 ▸ hb)
     . rw[show v'.ownBlock=_ from h4]at hb
       cases hb
       exact h.f0 _ o h.base
   . rw[B8 ht]at hT'
     exact h.tf0 t' T' b o hT' hb
 . intro t' T' hT'
   simp only[Gh.sett]at hT'
   by_cases ht:t'=t
   . rw[C2 ht]at hT'
     cases hT'
     rw[ht]
     exact h.telt t T hT
   . rw[B8 ht]at hT'
     exact h.telt t' T' hT'
 . intro t1 t2 T1 T2 b h1 h2 h3 h4
   simp only[Gh.sett]at h1 h2
   by_cases e1:t1=t<;>by_cases e2:t2=t
   . omega
   . rw[C2 e1]at h1
     rw[B8 e2]at h2
     cases h1
     rcases hblk with h5|h5
     . have:=h.tdis t t2 T T2 b hT h2 (h5 ▸ h3) h4;omega
     . rw[show v'.ownBlock=_ from h5]at h3
       cases h3
       obtain⟨⟨n',ys,h6⟩,-⟩:=h.toks t2 T2 h2
       have:=(h6.lt _ h4).2;omega
   . rw[B8 e1]at h1
     rw[C2 e2]at h2
     cases h2
     rcases hblk with h5|h5
     . have:=h.tdis t1 t T1 T b h1 hT h3 (h5 ▸ h4);omega
     . rw[show v'.ownBlock=_ from h5]at h4
       cases h4
       obtain⟨⟨n',ys,h6⟩,-⟩:=h.toks t1 T1 h1
       have:=(h6.lt _ h3).2;omega
   . rw[B8 e1]at h1
     rw[B8 e2]at h2
     exact h.tdis t1 t2 T1 T2 b h1 h2 h3 h4
 . intro t' T' hT'
   rw[Q0]
   simp only[Gh.sett]at hT'
   by_cases ht:t'=t
   . simp[ht]
   . rw[B8 ht]at hT'
     rw[B8 ht]
     exact h.tdom t' T' hT'
 . intro t' n' hn'
   rw[Q0]at hn'
   by_cases ht:t'=t
   . rw[C2 ht]at hn'
     cases hn'
     exact⟨⟨v',T.E,T.k⟩,A',c',by simp[Gh.sett,ht],hv'⟩
   . rw[B8 ht]at hn'
     obtain⟨T',A2,c2,h1,h2⟩:=h.tlen t' n' hn'
     exact⟨T',A2,c2,by simp[Gh.sett,ht,h1],h2⟩
theorem DRep.val_eq {u:Value} (h:DRep F w v (.val u)):v=u:=by
 generalize e:DV.val u=x at h
 cases h with
 | val=>cases e;rfl
 | _=>cases e
inductive SVle:SV->SV->Prop
 | refl (x:SV):SVle x x
 | any (x:SV):SVle x .any
 | tok (t k:Nat) (es:List (List DV)):SVle (.ts t k es) (.d (.sl k es))
 | nil (k:Nat):SVle (.d (.val (.slice none 0 0))) (.d (.sl k []))
 | ref (cs:List DV):SVle (.d (.ref cs)) (.rd cs)
theorem D2 {x:SV}:SVle x x:=.refl x
theorem SVle.of_eq {y:SV} (h:x=y):SVle x y:=h ▸ .refl x
theorem SRep.le {y:SV} (h:SRep g w v x) (hl:SVle x y):SRep g w v y:=by
 cases hl with
 | refl=>exact h
 | any=>trivial
 | tok t k es=>exact h.1
 | nil k=>rw[show v=_ from DRep.val_eq h];exact DRep.nil
 | ref cs=>
  have hh:DRep (Fx g) w v (.ref cs):=h
  generalize e:DV.ref cs=y at hh
  cases hh with
  | ref f hc hd=>
   cases e
   refine⟨_,_,f,O,fun j x hj=>?_⟩
   have hlt:j<cs.length:=(A6.1 hj).1
   obtain⟨h1,h2,h3⟩:=hc j hlt
   exact⟨h1,h2,h3,hd j x hj⟩
  | _=>cases e
def SV.ok (ks:List (Nat×List SV)):SV->Bool
 | .bx i _=>(F8 ks i).isSome
 | .fn _ caps=>caps.all fun c=>(F8 ks c).isSome
 | .fb _ i _=>(F8 ks i).isSome
 | .bs i _ _ _=>(F8 ks i).isSome
 | .mb i=>(F8 ks i).isSome
 | .tx i _ _=>(F8 ks i).isSome
 | _=>true
def PS.closed (st:PS):Bool:=st.s.all (fun p=>p.2.ok st.b)&&st.b.all fun p=>p.2.all fun x=>x.ok st.b
def lesS (st:PS):List (Nat×SV)->Prop
 | []=>True
 | (i,x)::l=>SVle (st.get i) x∧lesS st l
def Hw:List SV->List SV->Prop
 | [],[]=>True
 | x::l,y::l'=>SVle x y∧Hw l l'
 | _,_=>False
def lesB (st:PS):List (Nat×List SV)->Prop
 | []=>True
 | (i,cs)::l=>(∃ cs0,st.bget i=some cs0∧Hw cs0 cs)∧lesB st l
def lesT (st:PS):List (Nat×Nat)->Prop
 | []=>True
 | (t,n)::l=>st.tget t=some n∧lesT st l
structure Le (st st':PS):Prop where
 n:st'.n=st.n
 s:lesS st st'.s
 b:lesB st st'.b
 t:lesT st st'.t
 c:st'.closed=true
theorem O8 (l:List SV):Hw l l:=by
 induction l with
 | nil=>trivial
 | cons x l ih=>exact⟨.refl x,ih⟩
theorem Ly {l l':List SV} (h:Hw l l') (j:Nat) (y:SV) (hj:l'[j]? = some y):∃ x,l[j]? = some x∧SVle x y:=by
 induction l generalizing l' j with
 | nil=>cases l' with
  | nil=>simp at hj
  | cons=>exact h.elim
 | cons x l ih=>cases l' with
  | nil=>exact h.elim
  | cons y' l'=>
   cases j with
   | zero=>simp at hj;subst hj;exact⟨x,O,h.1⟩
   | succ j=>exact ih h.2 j (by simpa using hj)
theorem Cb {l l':List SV} (h:Hw l l'):l.length=l'.length:=by
 induction l generalizing l' with
 | nil=>cases l' with
  | nil=>rfl
  | cons=>exact h.elim
 | cons x l ih=>cases l' with
  | nil=>exact h.elim
  | cons y' l'=>simp[ih h.2]
theorem J1 {l:List (Nat×α)} {x:α} (h:F8 l i=some x):(i,x)∈l:=by
 induction l with
 | nil=>simp[F8]at h
 | cons p l ih=>
  obtain⟨j,y⟩:=p
  rw[I3]at h
  by_cases e:i=j
  . rw[C2 e]at h;cases h;subst e;exact List.mem_cons_self
  . rw[B8 e]at h;exact List.mem_cons_of_mem _ (ih h)
theorem Lx {l:List (Nat×SV)} (h:lesS st l) (hm:(i,x)∈l):SVle (st.get i) x:=by
 induction l with
 | nil=>simp at hm
 | cons p l ih=>
  rcases List.mem_cons.1 hm with e|e
  . subst e;exact h.1
  . exact ih h.2 e
theorem Gb {l:List (Nat×List SV)} (h:lesB st l) {x:List SV} (hm:(i,x)∈l):∃ cs0,st.bget i=some cs0∧Hw cs0 x:=by
 induction l with
 | nil=>simp at hm
 | cons p l ih=>
  rcases List.mem_cons.1 hm with e|e
  . subst e;exact h.1
  . exact ih h.2 e
theorem Lw {l:List (Nat×Nat)} (h:lesT st l) (hm:(i,n)∈l):st.tget i=some n:=by
 induction l with
 | nil=>simp at hm
 | cons p l ih=>
  rcases List.mem_cons.1 hm with e|e
  . subst e;exact h.1
  . exact ih h.2 e
def Gh.only (g:Gh) (ks:List (Nat×List SV)) (ts:List (Nat×Nat)):Gh:=⟨g.f0,fun i=>if (F8 ks i).isSome then g.bl i else none,fun t=>if (F8 ts t).isSome then g.tk t else none⟩
theorem Gh.only_bl (h:(g.only ks ts).bl i=some b):g.bl i=some b:=by
 simp only[Gh.only]at h
 split at h
 . exact h
 . cases h
theorem Gh.only_tk {t:Nat} {T:Tk} (h:(g.only ks ts).tk t=some T):g.tk t=some T:=by
 simp only[Gh.only]at h
 split at h
 . exact h
 . cases h
theorem Evo.only (g:Gh) (w:World) (ks:List (Nat×List SV)) (ts:List (Nat×Nat)):Evo g w (g.only ks ts) w:=
 ⟨Below.refl _ _,rfl,Kp.same fun _ _ hf=>⟨hf.1,fun i hi=>hf.2.1 i (Gh.only_bl hi),fun t T n c hT hv=>hf.2.2 t T n c (Gh.only_tk hT) hv⟩,fun _ _=>rfl,fun _ _ h=>.inl (Gh.only_bl h),fun _ T h=>.inl ⟨T,Gh.only_tk h,.inl rfl⟩,fun t T _ h h'=>.inr (.inr ⟨t,T,Gh.only_tk h,h'⟩),fun _ _ _ _ _=>rfl⟩
theorem SRep.forget (h:SRep g w v x) (hok:x.ok ks=true):SRep (g.only ks ts) w v x:=by
 have fx:=(Evo.only g w ks ts).fx
 have hb:∀ i b,(F8 ks i).isSome=true->g.bl i=some b->(g.only ks ts).bl i=some b:=fun i b h1 h2=>by simp[Gh.only,h1,h2]
 cases x with
 | any=>trivial
 | d x=>exact DRep.mono h fx
 | ts t k es=>exact⟨DRep.mono h.1 fx,fun T hT=>h.2 T (Gh.only_tk hT)⟩
 | bx i off=>
  obtain⟨b,h1,h2⟩:=h
  exact⟨b,hb _ _ hok h1,h2⟩
 | rd cs=>
  obtain⟨b,off,f,h1,h2⟩:=h
  refine⟨b,off,f,h1,fun j x hj=>?_⟩
  obtain⟨h3,h4,h5',h5⟩:=h2 j x hj
  obtain⟨h6,h7⟩:=fx.cell h4 h3
  exact⟨h7,h6,h5',h5.mono fx⟩
 | tup xs=>
  obtain⟨vs,h1,h2,h3⟩:=h
  exact⟨vs,h1,h2,fun i y x hy hx=>(h3 i y x hy hx).mono fx⟩
 | fn f caps=>
  obtain⟨bs,h1,h2,h3⟩:=h
  refine⟨bs,h1,h2,fun i b c hbi hc=>?_⟩
  simp only[SV.ok,E7]at hok
  exact hb _ _ (hok c (B2 hc)) (h3 i b c hbi hc)
 | fb f i off=>obtain⟨b,h1,h2⟩:=h;exact⟨b,hb _ _ hok h1,h2⟩
 | bs i n E k=>obtain⟨b,c,h1,h2⟩:=h;exact⟨b,c,hb _ _ hok h1,h2⟩
 | mb i=>obtain⟨b,h1,h2⟩:=h;exact⟨b,hb _ _ hok h1,h2⟩
 | tx i T n=>obtain⟨b,h1,h2⟩:=h;exact⟨b,hb _ _ hok h1,h2⟩
 | mc ms=>exact h
theorem Rep.le {st':PS} (h:Rep B w0 g st a w) (hl:Le st st'):∃ g',Rep B w0 g' st' a w:=by
 have hcl:=hl.c
 unfold PS.closed at hcl
 rw[C6,E7,E7]at hcl
 have ev:=Evo.only g w st'.b st'.t
 refine⟨g.only st'.b st'.t,{ evo:=h.evo.trans ev,base:=h.base,f0:=h.f0,lim:=by rw[hl.n];exact h.lim,size:=by rw[hl.n];exact h.size,defers:=h.defers.evo ev,slots:=fun i=>?_,boxes:=fun i cs hi hlt=>?_,maps:=fun i ms hi hge=>?_,blk:=fun i b hi=>h.blk i b (Gh.only_bl hi),dom:=fun i b hi=>?_,inj:=fun i j b hi hj=>h.inj i j b (Gh.only_bl hi) (Gh.only_bl hj),toks:=fun t T hT=>?_,tf0:=fun t T b o hT hb=>h.tf0 t T b o (Gh.only_tk hT) hb,telt:=fun t T hT=>h.telt t T (Gh.only_tk hT),tdis:=fun t t' T T' b h1 h2=>h.tdis t t' T T' b (Gh.only_tk h1) (Gh.only_tk h2),tdom:=fun t T hT=>?_,tlen:=fun t n ht=>?_,glob:=fun q cs hq=>SRep.forget (h.glob q cs hq) O,gown:=h.gown,ghp:=h.ghp }⟩
 . unfold PS.get
   cases e:F8 st'.s i with
   | none=>trivial
   | some x=>
    exact SRep.forget ((h.slots i).le (Lx hl.s (J1 e))) (hcl.1 _ (J1 e))
 . obtain⟨cs0,h1,h2⟩:=Gb hl.b (J1 hi)
   obtain⟨b,xs,T,h3,h4,h5,h6,h6c⟩:=h.boxes i cs0 h1 hlt
   have hs:(F8 st'.b i).isSome=true:=by rw[show F8 st'.b i=_ from hi];rfl
   refine⟨b,xs,T,by simp[Gh.only,hs,h3],h4,by rw[<-Cb h2];exact h5,fun j c hj=>?_,fun j u hj hu=>h6c j u (by rw[Cb h2];exact hj) hu⟩
   obtain⟨c0,h7,h8⟩:=Ly h2 j c hj
   obtain⟨x,h9,h10⟩:=h6 j c0 h7
   have hc':=hcl.2 _ (J1 hi)
   rw[E7]at hc'
   exact⟨x,h9,SRep.forget (h10.le h8) (hc' c (B2 hj))⟩
 . obtain⟨cs0,h1,h2⟩:=Gb hl.b (J1 hi)
   have h3:cs0=[.mc ms]:=by
    match cs0,h2 with
    | [x],h2=>
     obtain⟨h2,-⟩:=h2
     cases h2
     rfl
   subst h3
   obtain⟨b,es,c,h4,h5,h6⟩:=h.maps i ms h1 hge
   have hs:(F8 st'.b i).isSome=true:=by rw[show F8 st'.b i=_ from hi];rfl
   exact⟨b,es,c,by simp[Gh.only,hs,h4],h5,h6.mono ev.fx⟩
 . intro e'
   have:(F8 st'.b i).isSome=true:=by
    simp only[Gh.only]at hi
    split at hi
    . rename_i e;exact e
    . cases hi
   rw[show F8 st'.b i=_ from e']at this
   simp at this
 . obtain⟨h1,h2⟩:=h.toks t T (Gh.only_tk hT)
   exact⟨h1,fun i b hb hi=>h2 i b hb (Gh.only_bl hi)⟩
 . intro e'
   have:(F8 st'.t t).isSome=true:=by
    simp only[Gh.only]at hT
    split at hT
    . rename_i e;exact e
    . cases hT
   rw[show F8 st'.t t=_ from e']at this
   simp at this
 . obtain⟨T,A,c,h1,h2⟩:=h.tlen t n (Lw hl.t (J1 ht))
   have hs:(F8 st'.t t).isSome=true:=by rw[show F8 st'.t t=_ from ht];rfl
   exact⟨T,A,c,by simp[Gh.only,hs,h1],h2⟩
/-! code -/
def Cq (B:Nat) (w0:Cx) (Q:Exit->PS->Prop):Exit->Act->World->Prop:=fun e a w=>∃ g st,Rep B w0 g st a w∧Q e st
def rF (rl:Option Nat):Fence:={ Fence.wide with round:=rl }
theorem IQ {rl:Option Nat} {args:Array Value} {R:Ending->World->Prop}:CallsIn (rF rl) n P f args w R↔Calls P f args w R:=callsIn_wide (n:=n)
theorem Jr {rl:Option Nat} {row:String} {args:Array Value} {R:Value->World->Prop} (h:Rows P row args w R):RowsIn (rF rl) n P row args w R:=fun c cs _=>by
 obtain⟨v,w',h1,h2⟩:=h c cs
 exact⟨v,w',h1,stepsIn_wide.2 h2⟩
def ndO (o:Oper):Bool:=match o.op with|.defer _=>false|_=>true
def ndB (l:List Oper):Bool:=l.all ndO
theorem op_in {rl:Option Nat} {K K':Act->World->Prop} (hnd:ndO o=true) (hK:∀ a w,K a w->K' a w) (h:o.wp P a w K Q):o.wpIn (rF rl) 0 P a w K' Q:=by
 have hne:∀ c,o.op ≠ .defer c:=fun c e=>by unfold ndO at hnd;rw[e]at hnd;cases hnd
 refine⟨fun _ _=>trivial,?_⟩
 rw[Oper.semAt_eq _ _ _ hne]
 unfold Oper.wp at h
 generalize (execOp a.eval o).run P w=r at h
 cases r with
 | ok x w'=>
  cases x with
  | value v=>exact hK _ _ h
  | skip=>exact hK _ _ h
  | defer d=>exact hK _ _ h
  | enter f args=>exact⟨fun e=>(by cases e),IQ.2 (h.mono fun e w'' he=>by cases e<;>first|exact hK _ _ he|exact he)⟩
  | row row args=>exact⟨fun e=>(by cases e),Jr (h.mono fun v w'' he=>hK _ _ he)⟩
  | _=>exact h.elim
 | halt x w'=>cases x<;>first|exact h|exact h.elim
theorem Cy {rl:Option Nat} (hout:∀ a w,¬ Q .outgrown a w):∀ {l:List Oper},ndB l=true->∀ {a:Act} {w:World},wpList P ops Q l a w->wpListIn (rF rl) 0 P ops Q l a w
 | [],_,_,_,h=>h
 | o::rest,hnd,a,w,h=>by
  unfold ndB at hnd
  rw[List.all_cons,C6]at hnd
  unfold wpList at h
  unfold wpListIn
  split
  . rename_i hw
    rw[C2 hw]at h
    rcases h with h|⟨-,a',w',h⟩
    . exact op_in hnd.1 (fun a w hk=>Cy hout hnd.2 hk) h
    . exact F9 h (hout a' w')
  . rename_i hw
    rw[B8 hw]at h
    exact⟨fun _ _=>trivial,Cy hout hnd.2 h⟩
theorem CV {rl:Option Nat} (hout:∀ a w,¬ Q .outgrown a w) (hnd:ndB l=true):∀ {fuel:Nat} {listed:Array Bool} {a:Act} {w:World},wpAny P .any l.toArray Q fuel listed a w->wpAnyIn (rF rl) 0 P .any l.toArray Q fuel listed a w
 | 0,_,_,_,h=>h
 | fuel+1,listed,a,w,⟨h1,h2⟩=>⟨h1,fun i hi=>by
  have h:=h2 i hi
  unfold wpOp at h
  unfold wpOpIn
  cases ho:l.toArray[i]? with
  | none=>rw[ho]at h;exact CV hout hnd h
  | some o=>
   rw[ho]at h
   have hno:ndO o=true:=E7.1 hnd o (B2 (by simpa using ho))
   simp only at h ⊢
   split
   . rename_i hw
     rw[C2 hw]at h
     rcases h with h|⟨-,a',w',h⟩
     . exact op_in hno (fun a w hk=>CV hout hnd hk) h
     . exact F9 h (hout a' w')
   . rename_i hw
     rw[B8 hw]at h
     exact⟨fun _ _=>trivial,CV hout hnd h⟩⟩
theorem AN {F:Fence} (I:Nat->Act->World->Prop) (n₀:Nat) (h₀:I n₀ a w)
 (round:∀ k a w,I k a w->c.wpIn F n P (Exit.then (fun a' w'=>∃ n',n'<k∧I n' a' w') Q) a w):(Code.loop c).wpIn F n P Q a w:=by
 refine wpIn_loop (fun a w=>∃ n,I n a w) (fun a w=>leastOf (fun n=>I n a w)) ⟨n₀,h₀⟩ ?_
 intro a w hI
 refine wpIn_mono (round _ a w (leastOf_spec hI).1) ?_
 intro e a' w' hq
 cases e with
 | normal=>
  obtain⟨n',hlt,hI'⟩:=hq
  exact show(∃ n,I n a' w')∧leastOf (fun n=>I n a' w')<leastOf (fun n=>I n a w)from⟨⟨n',hI'⟩,Nat.lt_of_le_of_lt ((leastOf_spec ⟨n',hI'⟩).2 n' hI') hlt⟩
 | exit id=>exact hq
 | goto l=>exact hq
 | ret=>exact hq
 | panic ch=>exact hq
 | outgrown=>exact hq
def PW (P:Program) (B:Nat) (w0:Cx) (c:Code) (Q:Exit->PS->Prop) (st:PS):Prop:=∀ g a w,Rep B w0 g st a w->c.wpIn (rF w0.rl) 0 P (Cq B w0 Q) a w
def IZ (Q:Exit->PS->Prop):Exit->PS->Prop
 | .normal,st=>Q .normal st
 | _,_=>False
theorem R5 {Q:Exit->PS->Prop}:(∀ a w,¬ Cq B w0 (IZ Q) .outgrown a w) ∧ ∀ e a w,Cq B w0 (IZ Q) e a w->Cq B w0 Q e a w:=
 ⟨fun _ _ ⟨_,_,_,h⟩=>h,fun e _ _ ⟨g,s,h1,h2⟩=>by cases e<;>first|exact⟨g,s,h1,h2⟩|exact h2.elim⟩
def HS (K:PS->Prop) (Q:Exit->PS->Prop):Exit->PS->Prop
 | .normal,st=>K st
 | e,st=>Q e st
def Dv (id:Nat) (Q:Exit->PS->Prop):Exit->PS->Prop
 | .exit id',st=>bif Nat.beq id' id then Q .normal st else Q (.exit id') st
 | e,st=>Q e st
section
variable {Q:Exit->PS->Prop}
theorem A7 (h:Q .normal st):PW P B w0 .skip Q st:=fun g _ _ hr=>wpIn_skip ⟨g,st,hr,h⟩
theorem F6 (h:Q (.exit id) st):PW P B w0 (.exit id) Q st:=fun g _ _ hr=>wpIn_exit ⟨g,st,hr,h⟩
theorem C4 (h:Q .ret st):PW P B w0 .ret Q st:=fun g _ _ hr=>wpIn_ret ⟨g,st,hr,h⟩
theorem A5 {x y:Code} (h:PW P B w0 x (HS (PW P B w0 y Q) Q) st):PW P B w0 (.seq x y) Q st:=fun g a w hr=>
 wpIn_seq (wpIn_mono (h g a w hr) fun e a w ⟨g,s,h1,h2⟩=>by
  cases e with
  | normal=>exact h2 g a w h1
  | _=>exact⟨g,s,h1,h2⟩)
theorem A9 (h:PW P B w0 c (Dv id Q) st):PW P B w0 (.block id c) Q st:=fun g a w hr=>
 wpIn_block (wpIn_mono (h g a w hr) fun e _ _ ⟨g,s,h1,h2⟩=>by
  cases e with
  | exit id'=>
   simp only[Exit.inBlock]
   by_cases e:id'=id
   . subst e
     rw[C2 rfl]
     refine⟨g,s,h1,?_⟩
     simpa[Dv,Nat.beq_refl]using h2
   . rw[B8 e]
     refine⟨g,s,h1,?_⟩
     have:Nat.beq id' id=false:=by rw[<-Bool.not_eq_true];intro e';exact e (E5 e')
     simpa[Dv,this]using h2
  | _=>exact⟨g,s,h1,h2⟩)
theorem H7 {c:Operand} {x y:Code} (hc:st.ev c=.d (.val (.bool t))) (h1:t=true->PW P B w0 x Q st) (h2:t=false->PW P B w0 y Q st):PW P B w0 (.cond c x y) Q st:=fun g a w hr=>by
 have h:=hr.eval c
 rw[hc]at h
 have:a.eval c=.bool t:=DRep.val_eq h
 cases t with
 | true=>exact wpIn_cond_true this (h1 O g a w hr)
 | false=>exact wpIn_cond_false this (h2 O g a w hr)
theorem G6 {ι:Type} (J:ι->PS) (I:ι->Prop) (μ:ι->Nat) (i0:ι) (hI:I i0) (hle:Le st (J i0))
 (round:∀ i,I i->PW P B w0 c (HS (fun s=>∃ i',I i'∧μ i'<μ i∧Le s (J i')) Q) (J i)):PW P B w0 (.loop c) Q st:=fun g a w hr=>by
 obtain⟨g',hr'⟩:=hr.le hle
 refine AN (fun n a w=>∃ i,μ i=n∧I i ∧ ∃ g,Rep B w0 g (J i) a w) (μ i0) ⟨i0,O,hI,g',hr'⟩ ?_
 rintro n a w ⟨i,rfl,hi,g,hr⟩
 refine wpIn_mono (round i hi g a w hr) fun e a w ⟨g,s,h1,h2⟩=>?_
 cases e with
 | normal=>
  obtain⟨i',h3,h4,h5⟩:=h2
  obtain⟨g',h6⟩:=h1.le h5
  exact⟨μ i',h4,i',O,h3,g',h6⟩
 | _=>exact⟨g,s,h1,h2⟩
end
inductive Ef where
 | no
 | box (i:Nat) (cs:List SV)
 | tok (t n:Nat)
def PS.eff (st:PS):Ef->PS
 | .no=>st
 | .box i cs=>st.bput i cs
 | .tok t n=>st.tput t n
def OpS (P:Program) (o:Oper) (st st':PS):Prop:=
 ∀ B w0 g a w K Q,Rep B w0 g st a w->(∀ g' a' w',Rep B w0 g' st' a' w'->K a' w')->o.wp P a w K Q
def HU:Op->Bool
 | .move _|.assign _|.pick .. | .alloc _|.box .. | .build .. | .buildSlice .. | .unOp .. | .binOp .. | .convert .. | .slice .. | .fieldAddr .. | .field .. | .indexAddr .. | .index .. | .extract .. | .makeFunc .. | .makeMap .. | .makeSlice .. | .makeInterface .. => false
 | _=>true
def Cd:Op->Bool
 | .call { callee:=.builtin .append,.. }=>true
 | _=>false
def AG:Op->Bool
 | .store .. | .mapUpdate .. | .entryStore .. | .insert .. => true
 | _=>false
def Cc:Op->Bool
 | .box .. | .alloc _|.makeMap .. | .makeSlice .. | .buildSlice .. => true
 | _=>false
def SV.ids:SV->List Nat
 | .bx i _=>[i]
 | .fn _ caps=>caps
 | .fb _ i _=>[i]
 | .bs i _ _ _=>[i]
 | .mb i=>[i]
 | .tx i _ _=>[i]
 | _=>[]
def U1 (d i:Nat):Bool:=Nat.blt d 500000&&(Nat.beq d i||Nat.beq (500000+d) i)
theorem Jw {d':Nat} (h:U1 d i=true) (h':U1 d' i=true):d=d':=by
 simp only[U1,C6,Bool.or_eq_true]at h h'
 have h1:=B0 h.1
 have h2:=B0 h'.1
 rcases h.2 with h3|h3<;>rcases h'.2 with h4|h4<;>have h5:=E5 h3<;>have h6:=E5 h4<;>omega
theorem U0 (h:d<500000):U1 d d=true:=by
 simp only[U1,C6,Bool.or_eq_true]
 exact⟨Nat.ble_eq_true_of_le h,.inl (Nat.beq_refl d)⟩
theorem Jv (h:d<500000):U1 d (500000+d)=true:=by
 simp only[U1,C6,Bool.or_eq_true]
 exact⟨Nat.ble_eq_true_of_le h,.inr (Nat.beq_refl _)⟩
structure Agr (o:Oper) (st st2:PS):Prop where
 n:st2.n=st.n
 ev:∀ y∈o.op.operands,st2.ev y=st.ev y
 ids:HU o.op=true->∀ y∈o.op.operands,∀ i∈(st.ev y).ids,st2.bget i=st.bget i
 tk:HU o.op=true->∀ y∈o.op.operands,∀ t k es,st.ev y=.ts t k es->st2.tget t=st.tget t
 fresh:Cc o.op=true->∀ d,o.dst=some d->∀ e,U1 d e=true->st.bget e=none->st2.bget e=none
theorem Agr.bx (h:Agr o st st2) (ht:HU o.op=true) (y:Operand) (hy:y∈o.op.operands) (i off:Nat) (e:st.ev y=.bx i off):st2.bget i=st.bget i:=h.ids ht y hy i (by rw[e];simp[SV.ids])
theorem Agr.fn (h:Agr o st st2) (ht:HU o.op=true) (y:Operand) (hy:y∈o.op.operands) (f:Nat) (caps:List Nat) (e:st.ev y=.fn f caps) (c:Nat) (hc:c∈caps):st2.bget c=st.bget c:=h.ids ht y hy c (by rw[e];simpa[SV.ids]using hc)
def I7 (P:Program) (o:Oper) (st:PS) (x:SV) (ef:Ef):Prop:=∀ st2,Agr o st st2->OpS P o st2 ((st2.eff ef).put o.dst x)
theorem Agr.refl (o:Oper) (st:PS):Agr o st st:=⟨rfl,fun _ _=>rfl,fun _ _ _ _ _=>rfl,fun _ _ _ _ _ _ _=>rfl,fun _ _ _ _ _ h=>h⟩
def G3 (o:Oper) (st:PS):Bool:=match o.dst with|some d=>Nat.blt d st.n|none=>true
theorem F5 (h:G3 o st=true):∀ i,o.dst=some i->i<st.n:=by
 intro i hi
 unfold G3 at h
 rw[hi]at h
 exact B0 h
def boolOf:SV->Option Bool
 | .d (.val (.bool t))=>some t
 | _=>none
def Kf (b:Bool):SV->Option Bool
 | .d (.val (.bool t))=>some (t==b)
 | .tup _=>some false
 | _=>none
theorem SRep.undef:SRep g w Go.undef (.tup []):=⟨[],rfl,rfl,fun i y x hy=>by simp at hy⟩
def PS.want (st:PS) (ops:Array Oper) (o:Oper):Option Bool:=
 match o.guard with
 | none=>some true
 | some (j,b)=>match (ops[j]?).bind (·.dst) with
  | some d=>bif Nat.blt d st.n then Kf b (st.get d)else none
  | none=>none
def Cm (o:Oper) (st:PS) (ef:Ef):Bool:=
 (match ef with
  | .no=>true
  | .box i _=>(AG o.op&&o.op.operands.any fun y=>(st.ev y).ids.any (Nat.beq i))||(Cc o.op&&(match o.dst with|some d=>U1 d i|none=>false)&&(st.bget i).isNone)
  | .tok _ _=>Cd o.op) &&
 (!HU o.op||o.op.operands.all fun y=>(st.ev y).ids.all fun i=>(st.bget i).isSome)
def zk (ops:Array Oper) (st:PS) (o:Oper) (x:Ef):Bool:=G3 o st&&Cm o st x&&st.want ops o==some true
theorem zd {x:Ef} (h:zk ops st o x=true):G3 o st=true:=by simp only[zk,C6]at h;exact h.1.1
theorem zo {x:Ef} (h:zk ops st o x=true):Cm o st x=true:=by simp only[zk,C6]at h;exact h.1.2
theorem zw {x:Ef} (h:zk ops st o x=true):st.want ops o=some true:=by simp only[zk,C6]at h;exact beq_iff_eq.mp h.2
inductive YR (P:Program) (sq:Bool) (ops:Array Oper) (K:PS->Prop):List Oper->PS->Prop
 | nil {st:PS} (h:K st):YR P sq ops K [] st
 | op {o:Oper} {rest:List Oper} {st:PS} (x:SV) (ef:Ef) (hs:I7 P o st x ef) (hk:Cm o st ef=true) (hw:st.want ops o=some true) (h:YR P sq ops K rest ((st.eff ef).put o.dst x)):YR P sq ops K (o::rest) st
 | skip {o:Oper} {rest:List Oper} {st:PS} (hd:G3 o st=true) (hw:st.want ops o=some false) (h:YR P sq ops K rest (st.put o.dst (.tup []))):YR P sq ops K (o::rest) st
 | any {l:List Oper} {st:PS} (hq:sq=true) (h:∀ (B:Nat) (w0:Cx) (Q:Exit->PS->Prop),(∀ s,K s->Q .normal s)->∀ g a w,Rep B w0 g st a w->wpList P ops (Cq B w0 Q) l a w):YR P sq ops K l st
theorem H9 (h:Rep B w0 g st a w) (hw:st.want ops o=some t):Region.wanted o (yielded ops a.tmps)=t:=by
 unfold PS.want at hw
 unfold Region.wanted
 cases hg:o.guard with
 | none=>rw[hg]at hw;simpa using hw
 | some p=>
  obtain⟨j,b⟩:=p
  rw[hg]at hw
  simp only at hw ⊢
  cases hd:(ops[j]?).bind (·.dst) with
  | none=>rw[hd]at hw;cases hw
  | some d=>
   rw[hd]at hw
   simp only at hw
   cases hlt:Nat.blt d st.n with
   | false=>rw[hlt]at hw;cases hw
   | true=>
    rw[hlt,cond_true]at hw
    have hd2:d<a.tmps.size:=by rw[h.size];exact B0 hlt
    have h3:=h.slots d
    unfold Kf at hw
    split at hw
    . rename_i q hq
      rw[hq]at h3
      have h4:a.tmps.getD d undef=.bool q:=DRep.val_eq h3
      have h5:a.tmps[d]? = some (.bool q):=by
       rw[Array.getElem?_eq_getElem hd2]
       congr 1
       simpa[Array.getD,hd2]using h4
      simp only[yielded,hd,Option.bind_some,h5]
      cases hw
      cases q<;>cases b<;>rfl
    . rename_i xs hq
      rw[hq]at h3
      obtain⟨vs,h4,-⟩:=h3
      have h5:a.tmps[d]? = some (.tuple vs.toArray):=by
       rw[Array.getElem?_eq_getElem hd2]
       congr 1
       simpa[Array.getD,hd2]using h4
      simp only[yielded,hd,Option.bind_some,h5]
      cases hw
      rfl
    . cases hw
theorem YR.sound {sq:Bool} {K:PS->Prop} (h:YR P sq ops K l st):∀ {B:Nat} {w0:Cx} {Q:Exit->PS->Prop} (_:∀ s,K s->Q .normal s) {g:Gh} {a:Act} {w:World},Rep B w0 g st a w->wpList P ops (Cq B w0 Q) l a w:=by
 induction h with
 | nil h=>intro B w0 Q hQ g a w hr;exact⟨g,_,hr,hQ _ h⟩
 | op x ef hs hk hw _ ih=>
  intro B w0 Q hQ g a w hr
  unfold wpList
  rw[C2 (H9 hr hw)]
  exact .inl (hs _ (Agr.refl _ _) B w0 g a w _ _ hr fun g' a' w' hr'=>ih hQ hr')
 | skip hd hw _ ih=>
  intro B w0 Q hQ g a w hr
  unfold wpList
  rw[B8 (by rw[H9 hr hw];simp)]
  exact ih hQ (hr.put SRep.undef _ (F5 hd))
 | any _ h=>intro B w0 Q hQ g a w hr;exact h B w0 Q hQ g a w hr
theorem B3 {Q:Exit->PS->Prop} (h:YR P true l.toArray (Q .normal) l st) (hnd:ndB l=true:=by rfl):PW P B w0 (.region id l.toArray false) Q st:=fun _ _ _ hr=>
 wpIn_mono (wpIn_region_lit (Cy R5.1 hnd (h.sound (Q:=IZ Q) (fun _ h=>h) hr))) R5.2
theorem B4 {Q:Exit->PS->Prop} {y:Code} (h:YR P true l.toArray (HS (PW P B w0 y Q) Q .normal) l st) (hnd:ndB l=true:=by rfl):PW P B w0 (.seq (.region id l.toArray false) y) Q st:=A5 (B3 h hnd)
/-! operations -/
theorem OpS.value (hd:G3 o st=true) (h:∀ B w0 g a w,Rep B w0 g st a w->∃ v w',(execOp a.eval o).run P w=.ok (.value v) w'∧Below w.heap.size w w'∧SRep g w' v x):OpS P o st (st.put o.dst x):=by
 intro B w0 g a w K Q hr hK
 obtain⟨v,w',h1,h2,h3⟩:=h B w0 g a w hr
 unfold Oper.wp
 rw[h1]
 exact hK g _ _ ((hr.grow h2).put h3 _ (F5 hd))
theorem Agr.dst (h:Agr o st st2) (hd:G3 o st=true):G3 o st2=true:=by
 unfold G3 at hd ⊢
 rw[h.n];exact hd
section
variable {d:Option Nat} {ty:TypeId} {pos:String} {af:Array Edge} {gd:Option (Nat×Bool)}
theorem ls_move (x:Operand) (hd:G3 ⟨d,.move x,ty,pos,af,gd⟩ st=true):I7 P ⟨d,.move x,ty,pos,af,gd⟩ st (st.ev x) .no:=fun st2 ha=>
 OpS.value (ha.dst hd) fun _ _ _ a w hr=>⟨a.eval x,w,rfl,Below.refl _ _,by rw[<-ha.ev x (by simp[Op.operands])];exact hr.eval x⟩
theorem KE (x:Operand) (hd:G3 ⟨d,.assign x,ty,pos,af,gd⟩ st=true):I7 P ⟨d,.assign x,ty,pos,af,gd⟩ st (st.ev x) .no:=fun st2 ha=>
 OpS.value (ha.dst hd) fun _ _ _ a w hr=>⟨a.eval x,w,rfl,Below.refl _ _,by rw[<-ha.ev x (by simp[Op.operands])];exact hr.eval x⟩
theorem JG (c x y:Operand) (hc:st.ev c=.d (.val (.bool t))) (hd:G3 ⟨d,.pick c x y,ty,pos,af,gd⟩ st=true):I7 P ⟨d,.pick c x y,ty,pos,af,gd⟩ st (bif t then st.ev x else st.ev y) .no:=fun st2 ha=>
 OpS.value (ha.dst hd) fun _ _ _ a w hr=>by
  have h1:=hr.eval c
  rw[ha.ev c (by simp[Op.operands]),hc]at h1
  refine⟨if t then a.eval x else a.eval y,w,?_,Below.refl _ _,?_⟩
  . simp[execOp,DRep.val_eq h1,asBool]
  . have hx:=hr.eval x
    have hy:=hr.eval y
    rw[ha.ev x (by simp[Op.operands])]at hx
    rw[ha.ev y (by simp[Op.operands])]at hy
    cases t
    . exact hy
    . exact hx
theorem ls_un (op:UnOp) (t:TypeId) (x:Operand) {vx u:Value} (hx:st.ev x=.d (.val vx)) (hr:Op.unary op vx=Sem.pure u) (hu:u.oneCell'=true) (hd:G3 ⟨d,.unOp op t x,ty,pos,af,gd⟩ st=true):
 I7 P ⟨d,.unOp op t x,ty,pos,af,gd⟩ st (.d (.val u)) .no:=fun st2 ha=>
 OpS.value (ha.dst hd) fun _ _ _ a w h=>by
  have h1:=h.eval x
  rw[ha.ev x (by simp[Op.operands]),hx]at h1
  refine⟨u,w,?_,Below.refl _ _,DRep.val u hu⟩
  simp[execOp,DRep.val_eq h1,hr]
theorem BE (op:BinOp) (t t':TypeId) (x y:Operand) {vx vy u:Value} (hx:st.ev x=.d (.val vx)) (hy:st.ev y=.d (.val vy)) (hr:(eqGuard op t x y vx vy >>= fun _=>binOp op t vx vy)=Sem.pure u) (hu:u.oneCell'=true) (hd:G3 ⟨d,.binOp op t x y t',ty,pos,af,gd⟩ st=true):
 I7 P ⟨d,.binOp op t x y t',ty,pos,af,gd⟩ st (.d (.val u)) .no:=fun st2 ha=>
 OpS.value (ha.dst hd) fun _ _ _ a w h=>by
  have h1:=h.eval x
  rw[ha.ev x (by simp[Op.operands]),hx]at h1
  have h2:=h.eval y
  rw[ha.ev y (by simp[Op.operands]),hy]at h2
  refine⟨u,w,?_,Below.refl _ _,DRep.val u hu⟩
  simp only[execOp,DRep.val_eq h1,DRep.val_eq h2,hr]
  rfl
theorem AF (op:BinOp) (t t':TypeId) (x y:Operand) {vx vy u:Value} (hx:st.ev x=.d (.val vx)) (hy:st.ev y=.d (.val vy)) (hr:∀ w,(eqGuard op t x y vx vy >>= fun _=>binOp op t vx vy).run P w=.ok u w) (hu:u.oneCell'=true) (hd:G3 ⟨d,.binOp op t x y t',ty,pos,af,gd⟩ st=true):
 I7 P ⟨d,.binOp op t x y t',ty,pos,af,gd⟩ st (.d (.val u)) .no:=fun st2 ha=>
 OpS.value (ha.dst hd) fun _ _ _ a w h=>by
  have h1:=h.eval x
  rw[ha.ev x (by simp[Op.operands]),hx]at h1
  have h2:=h.eval y
  rw[ha.ev y (by simp[Op.operands]),hy]at h2
  refine⟨u,w,?_,Below.refl _ _,DRep.val u hu⟩
  have:=hr w
  simp only[execOp,DRep.val_eq h1,DRep.val_eq h2,Sem.run_bind,Sem.run_pure]at this ⊢
  cases h3:Sem.run P (eqGuard op t x y vx vy) w with
  | ok q w1=>
   rw[h3]at this
   simp only[C1]at this ⊢
   rw[this]
   rfl
  | halt q w1=>rw[h3]at this;simp[Result.andThen]at this
theorem Hu (x:Operand) (i:Nat) {xs:List DV} {u:DV} (hx:st.ev x=.tup xs) (hu:xs[i]? = some u) (hd:G3 ⟨d,.extract x i,ty,pos,af,gd⟩ st=true):I7 P ⟨d,.extract x i,ty,pos,af,gd⟩ st (.d u) .no:=fun st2 ha=>
 OpS.value (ha.dst hd) fun _ _ _ a w h=>by
  have h1:=h.eval x
  rw[ha.ev x (by simp[Op.operands]),hx]at h1
  obtain⟨vs,h2,h3,h4⟩:=h1
  have hi:i<vs.length:=by rw[h3];exact(A6.1 hu).1
  refine⟨vs[i],w,?_,Below.refl _ _,h4 i _ _ (A4 hi) hu⟩
  simp[execOp,h2,Instr.extract,hi]
end
class AggOf (P:Program) (T:TypeId) (b:outParam Bool) (k:outParam Nat):Prop where
 run:∀ w,(isAgg T).run P w=.ok b w
 size:∀ w,(Go.sizeOf T).run P w=.ok k w
def Z9:SV->Option (List SV)
 | .any=>none
 | .d (.agg cs)=>some (cs.map .d)
 | .d x=>some [.d x]
 | .ts t k es=>some [.ts t k es]
 | .bx i o=>some [.bx i o]
 | .rd cs=>some [.rd cs]
 | .tup _=>none
 | .fn f cs=>some [.fn f cs]
 | .fb f i o=>some [.fb f i o]
 | .bs i n E k=>some [.bs i n E k]
 | .mb i=>some [.mb i]
 | .tx i T n=>some [.tx i T n]
 | .mc _=>none
theorem SRep.cells {cs:List SV} (h:SRep g w v x) (hc:Z9 x=some cs):
 v.cells.size=cs.length∧(∀ u∈v.cells.toList,u.oneCell'=true) ∧ ∀ (j:Nat) c,cs[j]? = some c->∃ u,v.cells[j]? = some u∧SRep g w u c:=by
 have one:∀ {v:Value} {x:SV},SRep g w v x->v.oneCell'=true->v.cells.size=[x].length∧(∀ u∈v.cells.toList,u.oneCell'=true) ∧ ∀ (j:Nat) c,[x][j]? = some c->∃ u,v.cells[j]? = some u∧SRep g w u c:=by
  intro v x h hv
  have:v.cells = #[v]:=by cases v<;>first|rfl|cases hv
  rw[this]
  refine⟨rfl,by simpa using hv,fun j c hj=>?_⟩
  cases j with
  | zero=>simp at hj;subst hj;exact⟨v,by simp,h⟩
  | succ j=>simp at hj
 cases x with
 | any=>cases hc
 | tup=>cases hc
 | d x=>
  cases x with
  | val u=>
   cases hc
   refine one h ?_
   have:=h
   generalize e:DV.val u=y at this
   cases this with
   | val _ hv=>exact hv
   | _=>cases e
  | mp ms=>
   cases hc
   refine one h ?_
   have:=h
   generalize e:DV.mp ms=y at this
   cases this with
   | mp=>rfl
   | _=>cases e
  | sl k es=>
   cases hc
   refine one h ?_
   obtain⟨A,c,news,rfl,-⟩:=DRep.row h
   rfl
  | ref ds=>
   cases hc
   refine one h ?_
   have:=h
   generalize e:DV.ref ds=y at this
   cases this with
   | ref=>rfl
   | _=>cases e
  | abs R=>
   cases hc
   refine one h ?_
   have:=h
   generalize e:DV.abs R=y at this
   cases this with
   | abs _ hv=>exact hv
   | _=>cases e
  | agg ds=>
   cases hc
   have:=h
   generalize e:DV.agg ds=y at this
   cases this with
   | val=>cases e
   | sl=>cases e
   | ref=>cases e
   | abs=>cases e
   | mp=>cases e
   | @agg xs cs hl h1 h2=>
    cases e
    refine⟨by simp[Value.cells,hl],by simpa[Value.cells]using h1,fun j c hj=>?_⟩
    rw[B5,B7]at hj
    obtain⟨y,h3,rfl⟩:=hj
    have hlt:j<xs.length:=by rw[hl];exact(A6.1 h3).1
    exact⟨xs[j],by simp[Value.cells,hlt],h2 j _ y (A4 hlt) h3⟩
 | ts t k es=>
  cases hc
  refine one h ?_
  obtain⟨A,c,news,rfl,-⟩:=DRep.row h.1
  rfl
 | bx i o=>
  cases hc
  refine one h ?_
  obtain⟨b,-,rfl⟩:=h
  rfl
 | rd cs=>
  cases hc
  refine one h ?_
  obtain⟨b,off,f,rfl,-⟩:=h
  rfl
 | fn f cs=>
  cases hc
  refine one h ?_
  obtain⟨bs,rfl,-⟩:=h
  rfl
 | fb f i o=>
  cases hc
  refine one h ?_
  obtain⟨b,-,rfl⟩:=h
  rfl
 | bs i n E k=>
  cases hc
  refine one h ?_
  obtain⟨b,c,-,rfl,-⟩:=h
  rfl
 | mb i=>
  cases hc
  refine one h ?_
  obtain⟨b,-,rfl⟩:=h
  rfl
 | tx i T n=>
  cases hc
  refine one h ?_
  obtain⟨b,-,rfl,-⟩:=h
  rfl
 | mc ms=>cases hc
section
variable {d:Option Nat} {ty:TypeId} {pos:String} {af:Array Edge} {gd:Option (Nat×Bool)}
theorem OpS.newbox {T:Nat} {cs:List SV} (hd:G3 o st=true) (hi:i<500000->st.bget i=none) (hdst:o.dst=some i) (hx:x=.bx i 0)
 (h:∀ B w0 g a w,Rep B w0 g st a w->∃ xs:Array Value,(execOp a.eval o).run P w=.ok (.value (.pointer (some ⟨w.heap.size,0,none⟩))) (w.alloc (.cells xs T))∧xs.size=cs.length∧(∀ (j:Nat) c,cs[j]? = some c->∃ u,xs[j]? = some u∧SRep g w u c) ∧ ∀ u∈xs,u.oneCell'=true):
 OpS P o st ((st.eff (.box i cs)).put o.dst x):=by
 intro B w0 g a w K Q hr hK
 obtain⟨xs,h1,h2,h3,h4⟩:=h B w0 g a w hr
 unfold Oper.wp
 rw[h1]
 have hin:i<st.n:=F5 hd i hdst
 have hlim:st.n<=10000:=hr.lim
 refine hK _ _ _ ((hr.newb i T (hi (by omega)) hin xs cs (Nat.le_of_eq h2.symm) h3 h4).put ?_ _ (F5 (st:=st.bput i cs) hd))
 rw[hx]
 exact⟨w.heap.size,by simp[Gh.addb],rfl⟩
theorem ls_box (T:TypeId) (x:Operand) {cs:List SV} (hx:Z9 (st.ev x)=some cs) (hi:st.bget e=none) (hd:G3 ⟨some e,.box T x,ty,pos,af,gd⟩ st=true):
 I7 P ⟨some e,.box T x,ty,pos,af,gd⟩ st (.bx e 0) (.box e cs):=fun st2 ha=>by
 refine OpS.newbox (T:=T) (ha.dst hd) (fun hlt=>ha.fresh O e O e (U0 hlt) hi) O O fun B w0 g a w hr=>?_
 have h1:=hr.eval x
 rw[ha.ev x (by simp[Op.operands])]at h1
 obtain⟨h2,h3,h4⟩:=h1.cells hx
 refine⟨(a.eval x).cells,?_,h2,h4,fun u hu=>h3 u (by simpa using hu)⟩
 simp[execOp,Instr.box,newVar,newRow,go_sem]
class ZeroOf (P:Program) (T:TypeId) (zs:outParam (List Value)):Prop where
 run:∀ w,∃ z,(zeroValue T).run P w=.ok z w∧z.cells=zs.toArray
 one:∀ z∈zs,z.oneCell'=true
theorem Lu (T:TypeId) {zs:List Value} [hz:ZeroOf P T zs] (hi:st.bget e=none) (hd:G3 ⟨some e,.alloc T,ty,pos,af,gd⟩ st=true):
 I7 P ⟨some e,.alloc T,ty,pos,af,gd⟩ st (.bx e 0) (.box e (zs.map fun z=>.d (.val z))):=fun st2 ha=>by
 refine OpS.newbox (T:=T) (ha.dst hd) (fun hlt=>ha.fresh O e O e (U0 hlt) hi) O O fun B w0 g a w hr=>?_
 obtain⟨z,h1,h2⟩:=hz.run w
 refine⟨zs.toArray,?_,by simp,fun j c hj=>?_,fun u hu=>hz.one u (by simpa using hu)⟩
 . rw[<-h2]
   simp[execOp,Instr.alloc,newVar,newRow,go_sem,h1]
 . rw[B5,B7]at hj
   obtain⟨y,h3,rfl⟩:=hj
   exact⟨y,by simpa using h3,DRep.val y (hz.one y (B2 h3))⟩
def toD:SV->Option DV
 | .d x=>some x
 | .ts _ k es=>some (.sl k es)
 | _=>none
def P5:List SV->Option (List DV)
 | []=>some []
 | x::l=>match toD x,P5 l with
  | some y,some ys=>some (y::ys)
  | _,_=>none
theorem SRep.toD {y:DV} (h:SRep g w v x) (hy:toD x=some y):DRep (Fx g) w v y:=by
 cases x<;>cases hy
 . exact h
 . exact h.1
theorem R0 {l:List SV} (h:P5 l=some ys):l.length=ys.length ∧ ∀ (j:Nat) y,ys[j]? = some y->∃ x,l[j]? = some x∧toD x=some y:=by
 induction l generalizing ys with
 | nil=>cases h;exact⟨rfl,fun j y hj=>by simp at hj⟩
 | cons x l ih=>
  simp only[P5]at h
  split at h
  . rename_i y0 ys0 h1 h2
    cases h
    obtain⟨h3,h4⟩:=ih h2
    refine⟨by simp[h3],fun j y hj=>?_⟩
    cases j with
    | zero=>simp at hj;subst hj;exact⟨x,O,h1⟩
    | succ j=>exact h4 j y (by simpa using hj)
  . cases h
theorem LP {a:Addr} (h:w.cell? a=some v):(load a).run P w=.ok v w:=by
 simp[load,Sem.run,h]
theorem S9 (P:Program) (w:World) (ad:Addr) (us:List Value):∀ (n i:Nat) (acc:Array Value),us.length=n->(∀ (j:Nat) u,us[j]? = some u->w.cell? (ad.add (i+j))=some u)->(loadCellsFrom ad i n acc).run P w=.ok (acc++us.toArray) w:=by
 induction us with
 | nil=>intro n i acc hn _;subst hn;simp[loadCellsFrom]
 | cons u us ih=>
  intro n i acc hn h
  subst hn
  have h0:=h 0 u rfl
  simp only[Nat.add_zero]at h0
  simp only[List.length_cons,loadCellsFrom,Sem.run_bind,LP h0,C1]
  rw[ih us.length (i+1) (acc.push u) rfl (fun j x hj=>by have:=h (j+1) x (by simpa using hj);rw[show i+1+j=i+(j+1)by omega];exact this)]
  simp
theorem DE {x:Operand} (h:ρ x=.pointer (some ad)) (hr:(loadVar T ad).run P w=.ok v w):(execOp ρ ⟨d,.load T x,ty,pos,af,gd⟩).run P w=.ok (.value v) w:=by
 simp only[execOp,Instr.loadAt,h,Instr.sureAddr,pure_bind,Sem.run_bind,hr,C1,Sem.run_pure]
theorem S8 [hT:AggOf P T false 1] (h:w.cell? ad=some v):(loadVar T ad).run P w=.ok v w:=by
 simp only[loadVar,Sem.run_bind,hT.run,C1,Bool.false_eq_true,if_false,LP h]
theorem AC {k:Nat} [hT:AggOf P T true k] {us:Array Value} (h:(loadCellsFrom ad 0 k #[]).run P w=.ok us w):(loadVar T ad).run P w=.ok (.agg us) w:=by
 simp only[loadVar,Sem.run_bind,hT.run,hT.size,C1,if_true,loadCells,h,Sem.run_pure]
theorem Cw (T:TypeId) (x:Operand) {cs:List SV} {c:SV} [hT:AggOf P T false 1] (hlt:i<500000) (hx:st.ev x=.bx i off) (hi:st.bget i=some cs) (hc:cs[off]? = some c) (hd:G3 ⟨d,.load T x,ty,pos,af,gd⟩ st=true):
 I7 P ⟨d,.load T x,ty,pos,af,gd⟩ st c .no:=fun st2 ha=>
 OpS.value (ha.dst hd) fun _ _ g a w h=>by
  have h1:=h.eval x
  rw[ha.ev x (by simp[Op.operands]),hx]at h1
  obtain⟨b,h2,h3⟩:=h1
  obtain⟨b',xs,T',h4,h5,h6,h7,h7c⟩:=h.boxes i cs ((ha.bx rfl x (by simp[Op.operands]) i off hx).trans hi) hlt
  rw[h2]at h4
  cases h4
  obtain⟨u,h8,h9⟩:=h7 off c hc
  refine⟨u,w,?_,Below.refl _ _,h9⟩
  have hcell:w.cell? ⟨b,off,none⟩=some u:=by simp[World.cell?,h5,h8]
  exact DE h3 (S8 hcell)
theorem GZ (T:TypeId) (x:Operand) {k:Nat} {cs:List SV} [hT:AggOf P T true k] (hlt:i<500000) (hx:st.ev x=.bx i off) (hi:st.bget i=some cs) (hc:P5 ((cs.drop off).take k)=some ys) (hk:ys.length=k) (hd:G3 ⟨d,.load T x,ty,pos,af,gd⟩ st=true):
 I7 P ⟨d,.load T x,ty,pos,af,gd⟩ st (.d (.agg ys)) .no:=fun st2 ha=>
 OpS.value (ha.dst hd) fun _ _ g a w h=>by
  have h1:=h.eval x
  rw[ha.ev x (by simp[Op.operands]),hx]at h1
  obtain⟨b,h2,h3⟩:=h1
  obtain⟨b',xs,T',h4,h5,h6,h7,h7c⟩:=h.boxes i cs ((ha.bx rfl x (by simp[Op.operands]) i off hx).trans hi) hlt
  rw[h2]at h4
  cases h4
  obtain⟨hl,hg⟩:=R0 hc
  have hcs:∀ (j:Nat) y,ys[j]? = some y->∃ u,xs[off+j]? = some u∧DRep (Fx g) w u y:=fun j y hj=>by
   obtain⟨c,h8,h9⟩:=hg j y hj
   have hjk:j<k:=by rw[<-hk];exact(A6.1 hj).1
   rw[C7 hjk,List.getElem?_drop]at h8
   obtain⟨u,h10,h11⟩:=h7 _ c h8
   exact⟨u,h10,h11.toD h9⟩
  have hlen:((xs.toList.drop off).take k).length=k:=by
   have:off+k<=xs.size∨k=0:=by
    rcases F7 k with h0|h0
    . exact .inr h0
    . left
      have hlt:k-1<ys.length:=by omega
      obtain⟨u,h8,-⟩:=hcs (k-1) _ (A4 hlt)
      have:=(D5.1 h8).1
      omega
   simp
   omega
  have hone:∀ u∈(xs.toList.drop off).take k,u.oneCell'=true:=fun u hu=>by
   obtain⟨q,hq⟩:=List.mem_iff_getElem?.1 hu
   have hqk:q<k:=by rw[<-hlen];exact(A6.1 hq).1
   obtain⟨c0,h8,-⟩:=hg q _ (A4 (by omega))
   rw[C7 hqk,List.getElem?_drop]at h8 hq
   exact h7c (off+q) u (A6.1 h8).1 (by simpa using hq)
  have hrun:=S9 P w ⟨b,off,none⟩ ((xs.toList.drop off).take k) k 0 #[] hlen (fun j u hj=>by
   rw[D0,Addr.add_lit]
   have hjk:j<k:=by rw[<-hlen];exact(A6.1 hj).1
   rw[C7 hjk,List.getElem?_drop]at hj
   simp only[World.cell?,h5,Option.isSome_none,Bool.false_eq_true,if_false]
   simpa using hj)
  refine⟨.agg ((xs.toList.drop off).take k).toArray,w,?_,Below.refl _ _,?_⟩
  . exact DE h3 (AC (by simpa using hrun))
  . refine DRep.agg (by rw[hlen,hk]) hone fun j u y hu hy=>?_
    obtain⟨u',h8,h9⟩:=hcs j y hy
    have hjk:j<k:=by rw[<-hk];exact(A6.1 hy).1
    rw[C7 hjk,List.getElem?_drop]at hu
    have:u'=u:=by
     have h10:xs[off+j]? = some u:=by simpa using hu
     rw[h8]at h10
     exact G4 h10
    exact this ▸ h9
theorem load_rd (T:TypeId) (x:Operand) {cs:List DV} {c:DV} [AggOf P T false 1] (hx:st.ev x=.rd cs) (hc:cs[0]? = some c) (hd:G3 ⟨d,.load T x,ty,pos,af,gd⟩ st=true):
 I7 P ⟨d,.load T x,ty,pos,af,gd⟩ st (.d c) .no:=fun st2 ha=>
 OpS.value (ha.dst hd) fun _ _ g a w h=>by
  have h1:=h.eval x
  rw[ha.ev x (by simp[Op.operands]),hx]at h1
  obtain⟨b,off,f,h2,h3⟩:=h1
  obtain⟨h4,-,-,h5⟩:=h3 0 c hc
  exact⟨f 0,w,DE h2 (S8 h4),Below.refl _ _,h5⟩
theorem GY (T:TypeId) (x:Operand) {k:Nat} {cs:List DV} [AggOf P T true k] (hx:st.ev x=.rd cs) (hc:cs.take k=ys) (hk:ys.length=k) (hd:G3 ⟨d,.load T x,ty,pos,af,gd⟩ st=true):
 I7 P ⟨d,.load T x,ty,pos,af,gd⟩ st (.d (.agg ys)) .no:=fun st2 ha=>
 OpS.value (ha.dst hd) fun _ _ g a w h=>by
  have h1:=h.eval x
  rw[ha.ev x (by simp[Op.operands]),hx]at h1
  obtain⟨b,off,f,h2,h3⟩:=h1
  have hy:∀ (j:Nat),j<k->∃ y,ys[j]? = some y∧cs[j]? = some y:=fun j hj=>by
   obtain⟨y,h4⟩:∃ y,ys[j]? = some y:=⟨_,A4 (by omega)⟩
   refine⟨y,h4,?_⟩
   rw[<-hc,C7 hj]at h4
   exact h4
  have hrun:=S9 P w ⟨b,off,none⟩ (List.ofFn (n:=k) fun j=>f j.val) k 0 #[] (by simp) (fun j u hj=>by
   rw[D0,Addr.add_lit]
   have hjk:j<k:=by have:=(A6.1 hj).1;simpa using this
   rw[A4 (by simpa using hjk)]at hj
   simp only[List.getElem_ofFn,Option.some.injEq]at hj
   subst hj
   obtain⟨y,-,h5⟩:=hy j hjk
   exact(h3 j y h5).1)
  refine⟨.agg (List.ofFn (n:=k) fun j=>f j.val).toArray,w,DE h2 (AC (by simpa using hrun)),Below.refl _ _,?_⟩
  refine DRep.agg (by simp[hk]) (fun u hu=>?_) fun j u y hu hy'=>?_
  . obtain⟨q,hq⟩:=List.mem_iff_getElem?.1 hu
    have hqk:q<k:=by have:=(A6.1 hq).1;simpa using this
    rw[A4 (by simpa using hqk)]at hq
    simp only[List.getElem_ofFn,Option.some.injEq]at hq
    subst hq
    obtain⟨y,-,h5⟩:=hy q hqk
    exact(h3 q y h5).2.2.1
  . have hjk:j<k:=by have:=(A6.1 hu).1;simpa using this
    rw[A4 (by simpa using hjk)]at hu
    simp only[List.getElem_ofFn,Option.some.injEq]at hu
    subst hu
    obtain⟨y',h6,h5⟩:=hy j hjk
    rw[hy']at h6
    cases h6
    exact(h3 j y h5).2.2.2
class FieldOf (P:Program) (S:TypeId) (f:Nat) (off:outParam Nat) (T:outParam TypeId):Prop where
 run:∀ w ad,(Instr.fieldAt S (.pointer (some ad)) f).run P w=.ok (.pointer (some (ad.add off))) w
 part:∀ w cs,(Instr.field S (.agg cs) f).run P w=(part T cs off).run P w
theorem Bh {S f:Nat} {x:Operand} {T:Nat} [hF:FieldOf P S f off T] (h:ρ x=.pointer (some ad)):(execOp ρ ⟨d,.fieldAddr S x f,ty,pos,af,gd⟩).run P w=.ok (.value (.pointer (some (ad.add off)))) w:=by
 simp only[execOp,h,Sem.run_bind,hF.run,C1,Sem.run_pure]
theorem fa_bx (S:TypeId) (f:Nat) (x:Operand) {o T:Nat} [hF:FieldOf P S f off T] (hx:st.ev x=.bx i o) (hd:G3 ⟨d,.fieldAddr S x f,ty,pos,af,gd⟩ st=true):
 I7 P ⟨d,.fieldAddr S x f,ty,pos,af,gd⟩ st (.bx i (o+off)) .no:=fun st2 ha=>
 OpS.value (ha.dst hd) fun _ _ g a w h=>by
  have h1:=h.eval x
  rw[ha.ev x (by simp[Op.operands]),hx]at h1
  obtain⟨b,h2,h3⟩:=h1
  exact⟨_,w,Bh h3,Below.refl _ _,b,h2,by rw[Addr.add_lit]⟩
theorem fa_rd (S:TypeId) (f:Nat) (x:Operand) {cs cs':List DV} {T:Nat} [hF:FieldOf P S f off T] (hx:st.ev x=.rd cs) (hc:cs.drop off=cs') (hd:G3 ⟨d,.fieldAddr S x f,ty,pos,af,gd⟩ st=true):
 I7 P ⟨d,.fieldAddr S x f,ty,pos,af,gd⟩ st (.rd cs') .no:=fun st2 ha=>
 OpS.value (ha.dst hd) fun _ _ g a w h=>by
  have h1:=h.eval x
  rw[ha.ev x (by simp[Op.operands]),hx]at h1
  obtain⟨b,o,fn,h2,h3⟩:=h1
  refine⟨_,w,Bh h2,Below.refl _ _,b,o+off,fun j=>fn (off+j),by rw[Addr.add_lit],fun j y hj=>?_⟩
  rw[<-hc,List.getElem?_drop]at hj
  have:=h3 _ y hj
  rw[<-Nat.add_assoc]at this
  exact this
class SliceOf (P:Program) (T:TypeId) (E:outParam TypeId) (k:outParam Nat):Prop where
 und:∀ w,(underlying T).run P w=.ok (.slice E) w
 size:∀ w,(Go.sizeOf E).run P w=.ok k w
def asSl:SV->Option (Nat×List (List DV))
 | .d (.sl k es)=>some (k,es)
 | .ts _ k es=>some (k,es)
 | _=>none
theorem SRep.asSl {k:Nat} (h:SRep g w v x) (hx:asSl x=some (k,es)):DRep (Fx g) w v (.sl k es):=by
 cases x with
 | d x=>cases x<;>cases hx;exact h
 | ts t k es=>cases hx;exact h.1
 | _=>cases hx
theorem FW (T:TypeId) (x y:Operand) {E k:Nat} {n:Int} {kd:IntKind} {e:List DV} [hS:SliceOf P T E k] (hx:asSl (st.ev x)=some (k,es)) (hy:st.ev y=.d (.val (.int kd n))) (h0:0<=n) (he:es[n.toNat]? = some e) (hd:G3 ⟨d,.indexAddr T x y,ty,pos,af,gd⟩ st=true):
 I7 P ⟨d,.indexAddr T x y,ty,pos,af,gd⟩ st (.rd e) .no:=fun st2 ha=>
 OpS.value (ha.dst hd) fun _ _ g a w h=>by
  have h1:=h.eval x
  rw[ha.ev x (by simp[Op.operands])]at h1
  obtain⟨A,c,news,hv,hc,hm,hk,hl,hcell,hone,hrep⟩:=DRep.row (h1.asSl hx)
  have h2:=h.eval y
  rw[ha.ev y (by simp[Op.operands]),hy]at h2
  have hlt:n.toNat<es.length:=(A6.1 he).1
  obtain⟨b,off,rfl,hcell'⟩:=hcell (by omega)
  refine⟨.pointer (some ⟨b,off+n.toNat*k,none⟩),w,?_,Below.refl _ _,b,off+n.toNat*k,fun j=>(news[n.toNat*k+j]?).getD undef,O,fun j z hj=>?_⟩
  . have hn:0<=n∧n<(es.length:Int):=⟨h0,by omega⟩
    simp only[execOp,Instr.indexAt,hv,DRep.val_eq h2,asIntOf,Sem.run_bind,Sem.run_pure,C1,hS.und,hn,and_self,if_true,hS.size,Addr.add_lit]
  . obtain⟨u,h3,h4⟩:=hrep n.toNat j e z he hj
    obtain⟨h5,h6⟩:=hcell' _ u h3
    simp only[h3,Option.getD_some]
    rw[Nat.add_assoc]
    exact⟨h5,h6,hone u (B2 h3),h4⟩
theorem KA (T:TypeId) (x:Operand) {E k:Nat} [hS:SliceOf P T E k] (hx:asSl (st.ev x)=some (k,es)) (hd:G3 ⟨d,.call { callee:=.builtin .len,args:=#[x],argTypes:=#[T] },ty,pos,af,gd⟩ st=true):
 I7 P ⟨d,.call { callee:=.builtin .len,args:=#[x],argTypes:=#[T] },ty,pos,af,gd⟩ st (.d (.val (.int .i64 es.length))) .no:=fun st2 ha=>
 OpS.value (ha.dst hd) fun _ _ g a w h=>by
  have h1:=h.eval x
  rw[ha.ev x (by simp[Op.operands,Call.operands])]at h1
  obtain⟨A,c,news,hv,-⟩:=DRep.row (h1.asSl hx)
  refine⟨.int .i64 es.length,w,?_,Below.refl _ _,DRep.val _ O⟩
  simp[execOp,resolve,invoke,builtin,Builtin.len_,hv,hS.und,goInt]
end
def AA:List SV->Nat->List SV->List SV
 | cs,_,[]=>cs
 | cs,off,x::xs=>AA (cs.set off x) (off+1) xs
theorem run_st {a:Addr} {u:Value} (hv:v.oneCell'=true) (h:w.cell? a=some u) (hf:w.frozen? a=false):(store a v).run P w=.ok () (w.setCell a v):=by
 rw[run_store P w a v _ hv,h]
 simp[hf]
theorem DN (hlt5:i<500000) (hbl:g.bl i=some b) (off0:Nat):∀ (vs:List Value) (xs:List SV) (st:PS) (w:World) (cs:List SV) (j:Nat),Rep B w0 g st a w->st.bget i=some cs->vs.length=xs.length->off0+j+xs.length<=cs.length →
 (∀ (q:Nat) v x,vs[q]? = some v->xs[q]? = some x->SRep g w v x)->(∀ v∈vs,v.oneCell'=true) →
 ∃ w',(storeCells ⟨b,off0,none⟩ vs j).run P w=.ok () w'∧Rep B w0 g (st.bput i (AA cs (off0+j) xs)) a w':=by
 intro vs
 induction vs with
 | nil=>
  intro xs st w cs j hr hi hl hle _ _
  cases xs with
  | cons=>cases hl
  | nil=>
   refine⟨w,O,?_⟩
   rw[AA]
   refine hr.congr O (fun _=>O) (fun q=>?_) (fun _=>O)
   rw[I0]
   by_cases e:q=i
   . subst e;rw[C2 rfl,hi]
   . rw[B8 e]
 | cons v vs ih=>
  intro xs st w cs j hr hi hl hle hrep hone
  cases xs with
  | nil=>cases hl
  | cons x xs=>
   obtain⟨b',ys,T,h1,h2,h3,h4,h5⟩:=hr.boxes i cs hi hlt5
   rw[hbl]at h1
   cases h1
   have hlt:off0+j<cs.length:=by simp at hle;omega
   obtain⟨u,h6,-⟩:=h4 (off0+j) _ (A4 hlt)
   have hcell:w.cell? ⟨b,off0+j,none⟩=some u:=by simp[World.cell?,h2,h6]
   have hfr:w.frozen? ⟨b,off0+j,none⟩=false:=by simp[World.frozen?,h2]
   have hv1:=hone v (by simp)
   have hr1:=hr.setb i (off0+j) b cs hi hlt5 hbl hlt (hrep 0 v x rfl rfl) hv1
   obtain⟨w',h7,h8⟩:=ih xs (st.bput i (cs.set (off0+j) x)) _ (cs.set (off0+j) x) (j+1) hr1 (by rw[I0,C2 rfl]) (by simpa using hl) (by simp at hle ⊢;omega) (fun q v' x' hv' hx'=>by
    have:=hrep (q+1) v' x' (by simpa using hv') (by simpa using hx')
    have hne:∀ k,k<w.heap.size->k≠b->(w.setCell ⟨b,off0+j,none⟩ v).heap[k]? = w.heap[k]?:=fun k _ hk=>Below.heap_setCell w _ _ k (by simpa using hk)
    refine this.ext ⟨(Evo.setb hbl ((Below.refl 0 w).setCell (D4 _) v) hne (fun i b hi=>(hr.blk i b hi).2) (by simp[World.shape?,World.setCell,Array.getElem?_modify,h2])).fx,fun _ _ h=>h,fun _ T h=>⟨T,h,.inl rfl⟩,fun i' b' hi'=>?_⟩
    by_cases e:b'=b
    . subst e;simp[World.shape?,World.setCell,Array.getElem?_modify,h2]
    . exact G5 (Below.heap_setCell w _ _ b' (by simpa using e))) (fun v' hv'=>hone v' (by simp[hv']))
   refine⟨w',?_,?_⟩
   . simp only[storeCells,Sem.run_bind,Addr.add_lit,run_st hv1 hcell hfr,C1]
     exact h7
   . rw[show off0+(j+1)=off0+j+1 by omega]at h8
     refine h8.congr O (fun _=>O) (fun q=>?_) (fun _=>O)
     rw[I0,I0,I0]
     by_cases e:q=i<;>simp[e,AA]
section
variable {d:Option Nat} {ty:TypeId} {pos:String} {af:Array Edge} {gd:Option (Nat×Bool)}
theorem GV (T:TypeId) (x y:Operand) {k:Nat} {b:Bool} {cs xs:List SV} [hT:AggOf P T b k] (hlt:i<500000) (hx:st.ev x=.bx i off) (hi:st.bget i=some cs) (hy:Z9 (st.ev y)=some xs) (hk:xs.length=k) (hle:off+xs.length<=cs.length) (hd:G3 ⟨d,.store T x y,ty,pos,af,gd⟩ st=true):
 I7 P ⟨d,.store T x y,ty,pos,af,gd⟩ st .any (.box i (AA cs off xs)):=fun st2 ha=>by
 intro B w0 g a w K Q hr hK
 have h1:=hr.eval x
 rw[ha.ev x (by simp[Op.operands]),hx]at h1
 obtain⟨b1,h2,h3⟩:=h1
 have h4:=hr.eval y
 rw[ha.ev y (by simp[Op.operands])]at h4
 obtain⟨h5,h6,h7⟩:=h4.cells hy
 obtain⟨w',h8,h9⟩:=DN (P:=P) hlt h2 off (a.eval y).cells.toList xs st2 w cs 0 hr ((ha.bx rfl x (by simp[Op.operands]) i off hx).trans hi) (by simpa using h5) (by simpa using hle) (fun q v x' hv hx'=>by
  obtain⟨u,h10,h11⟩:=h7 q x' hx'
  have:u=v:=by
   have h12:(a.eval y).cells[q]? = some v:=by simpa using hv
   rw[h10]at h12;exact G4 h12
  exact this ▸ h11) h6
 have hrun:(execOp a.eval ⟨d,.store T x y,ty,pos,af,gd⟩).run P w=.ok .skip w':=by
  simp only[execOp,Instr.storeAt,h3,Instr.sureAddr,pure_bind,Sem.run_bind,storeVar,hT.size,C1]
  rw[B8 (by rw[h5,hk];simp)]
  simp only[Sem.run_pure,C1,h8]
 unfold Oper.wp
 rw[hrun]
 exact hK g _ _ (h9.put (x:=.any) trivial _ (F5 (st:=st2.bput i _) (ha.dst hd)))
def GlobOk (F:Nat->Nat->Prop) (w:World):Prop:=∀ q cs,F8 gs q=some cs->DRep F w (.pointer (some ⟨q,0,none⟩)) (.ref cs) ∧ ∃ vs:List Value,cs=vs.map .val ∧ ∃ T z,w.heap[q]? = some (.cells vs.toArray T z)
theorem GlobOk.mono {F':Nat->Nat->Prop} (h:GlobOk F w) (k:Kp F w F' w):GlobOk F' w:=fun q cs hq=>⟨(h q cs hq).1.mono k,(h q cs hq).2⟩
theorem rd_ref {cs:List DV} (h:SRep g w v (.rd cs)):DRep (Fx g) w v (.ref cs):=by
 obtain⟨b,off,f,rfl,h2⟩:=h
 refine .ref f (fun j hj=>?_) fun j x hx=>(h2 j x hx).2.2.2
 obtain⟨h3,h4,h5,-⟩:=h2 j _ (A4 hj)
 exact⟨h3,h4,h5⟩
theorem Rep.gok (h:Rep B w0 g st a w):GlobOk (Fx g) w:=fun q cs hq=>⟨rd_ref (h.glob q cs hq),by
 obtain⟨vs,h1,T,z,h2⟩:=h.ghp q cs hq
 exact⟨vs,h1,T,z,by rw[h.evo.heap q (h.gown q cs hq)];exact h2⟩⟩
theorem GlobOk.rep (h:GlobOk F w) (k:Kp F w (Fx g) w):∀ q cs,F8 gs q=some cs->SRep g w (.pointer (some ⟨q,0,none⟩)) (.rd cs):=fun q cs hq=>SRep.le (x:=.d (.ref cs)) ((h q cs hq).1.mono k) (.ref cs)
theorem GlobOk.own {F':Nat->Nat->Prop} (h:GlobOk F w):∀ q cs,F8 gs q=some cs->¬ P7 (gF F') w q:=fun q cs hq ho=>by
 obtain⟨vs,-,T,z,h2⟩:=(h q cs hq).2
 have h3:=(D5.1 h2).1
 rcases ho with h4|⟨i,h4⟩|⟨t,T,h4,-⟩
 . omega
 . cases h4
 . cases h4
def PCalls (P:Program) (f:FuncId) (args:List DV) (r:SV):Prop:=
 ∀ (F:Nat->Nat->Prop) (w:World) (vals:List Value),vals.length=args.length->(∀ (i:Nat) v x,vals[i]? = some v->args[i]? = some x->DRep F w v x)->GlobOk F w →
  Calls P f vals.toArray w fun e w'=>∃ v,e=.returned v∧SRep (gF fun b o=>F b o∨w.heap.size<=b) w' v r∧Below w.heap.size w w'
def DT:SV->Bool
 | .d _=>true
 | .tup _=>true
 | _=>false
theorem SRep.of_call (hr:Rep B w0 g st a w) (h:SRep (gF fun b o=>Fx g b o∨w.heap.size<=b) w' v r) (hres:DT r=true):SRep g w' v r:=by
 have fx:Kp (Fx (gF fun b o=>Fx g b o∨w.heap.size<=b)) w' (Fx g) w':=Kp.same fun b o hf=>by
  rcases hf.1 with hf|hf
  . exact hf
  . refine⟨hr.f0 b o (E3 hr.base hf),fun i hi=>?_,fun t T n c hT hv=>?_⟩
    . have:=(hr.blk i b hi).2;omega
    . obtain⟨⟨n',xs,h1⟩,-⟩:=hr.toks t T hT
      have:=(h1.lt b (by rw[hv];rfl)).2
      omega
 cases r with
 | d x=>exact DRep.mono h fx
 | tup xs=>
  obtain⟨vs,h1,h2,h3⟩:=h
  exact⟨vs,h1,h2,fun i y x hy hx=>(h3 i y x hy hx).mono fx⟩
 | _=>cases hres
def Bj (st:PS):List Operand->Option (List DV)
 | []=>some []
 | x::l=>match toD (st.ev x),Bj st l with
  | some y,some ys=>some (y::ys)
  | _,_=>none
theorem Bi {l:List Operand} (h:Bj st l=some ys):l.length=ys.length ∧ ∀ (j:Nat) x y,l[j]? = some x->ys[j]? = some y->toD (st.ev x)=some y:=by
 induction l generalizing ys with
 | nil=>cases h;exact⟨rfl,fun j x y hj=>by simp at hj⟩
 | cons x l ih=>
  simp only[Bj]at h
  split at h
  . rename_i y0 ys0 h1 h2
    cases h
    obtain⟨h3,h4⟩:=ih h2
    refine⟨by simp[h3],fun j x' y hx hy=>?_⟩
    cases j with
    | zero=>simp at hx hy;subst hx hy;exact h1
    | succ j=>exact h4 j x' y (by simpa using hx) (by simpa using hy)
  . cases h
theorem Dn {l:List Operand} (h:∀ x∈l,st2.ev x=st.ev x):Bj st2 l=Bj st l:=by
 induction l with
 | nil=>rfl
 | cons x l ih=>simp only[Bj];rw[h x (by simp),ih fun y hy=>h y (by simp[hy])]
class HasBody (P:Program) (f:FuncId):Prop where
 run:∀ w args,(callFunc f args).run P w=.ok (.enter f args) w
theorem ls_call (f:FuncId) (l:List Operand) (ts:Array TypeId) [hB:HasBody P f] (hargs:Bj st l=some ys) (hc:PCalls P f ys r) (hres:DT r=true) (hd:G3 ⟨d,.call { callee:=.value (.func f),args:=l.toArray,argTypes:=ts },ty,pos,af,gd⟩ st=true):
 I7 P ⟨d,.call { callee:=.value (.func f),args:=l.toArray,argTypes:=ts },ty,pos,af,gd⟩ st r .no:=fun st2 ha=>by
 intro B w0 g a w K Q hr hK
 have hev:Bj st2 l=some ys:=by rw[Dn fun x hx=>ha.ev x (by simp[Op.operands,Call.operands,hx])];exact hargs
 obtain⟨h1,h2⟩:=Bi hev
 have M3:=hc (Fx g) w (l.map a.eval) (by simpa using h1) (fun i v x hv hx=>by
  rw[B5,B7]at hv
  obtain⟨y,h3,rfl⟩:=hv
  exact(hr.eval y).toD (h2 i y x h3 hx)) hr.gok
 have hrun:(execOp a.eval ⟨d,.call { callee:=.value (.func f),args:=l.toArray,argTypes:=ts },ty,pos,af,gd⟩).run P w=.ok (.enter f (l.map a.eval).toArray) w:=by
  simp only[execOp,resolve,Act.eval,Deferred.ofValue,Sem.run_bind,Sem.run_pure,C1,invoke]
  rw[hB.run]
  simp
 unfold Oper.wp
 rw[hrun]
 show Calls P f _ w _
 refine M3.mono ?_
 rintro e w' ⟨v,rfl,h3,h4⟩
 exact hK g _ _ ((hr.grow h4).put (SRep.of_call hr h3 hres) _ (F5 (ha.dst hd)))
end
/-! functions -/
theorem Evo.below (h:Evo (gF F) w g' w'):Below w.heap.size w w':=
 ⟨h.bel.os,h.bel.tape,h.bel.output,h.bel.size,fun k hk=>h.heap k (by
  rintro(h1|⟨i,h1⟩|⟨t,T,h1,-⟩)
  . omega
  . cases h1
  . cases h1)⟩
inductive ResV (P:Program) (st:PS):List ResultVar->List DV->Prop
 | nil:ResV P st [] []
 | tmp {t:Nat} {x:DV} {rs:List ResultVar} {xs:List DV} (h:toD (st.get t)=some x) (hr:ResV P st rs xs):ResV P st (.tmp t::rs) (x::xs)
 | tnil {t:Nat} (k:Nat) {rs:List ResultVar} {xs:List DV} (h:st.get t=.d (.val (.slice none 0 0))) (hr:ResV P st rs xs):ResV P st (.tmp t::rs) (.sl k []::xs)
 | agg {t T i k:Nat} {cs:List SV} {ys:List DV} {rs:List ResultVar} {xs:List DV} (hT:AggOf P T true k) (h:st.get t=.bx i 0) (hb:st.bget i=some cs) (hc:P5 (cs.take k)=some ys) (hk:ys.length=k) (hr:ResV P st rs xs) (hlt:Nat.blt i 500000=true:=by rfl):ResV P st (.cell t T::rs) (.agg ys::xs)
 | one {t T i:Nat} {c:SV} {y:DV} {rs:List ResultVar} {xs:List DV} (hT:AggOf P T false 1) (h:st.get t=.bx i 0) (hb:st.bget i=some [c]) (hc:toD c=some y) (hr:ResV P st rs xs) (hlt:Nat.blt i 500000=true:=by rfl):ResV P st (.cell t T::rs) (y::xs)
 | onil {t T i:Nat} (k:Nat) {rs:List ResultVar} {xs:List DV} (hT:AggOf P T false 1) (h:st.get t=.bx i 0) (hb:st.bget i=some [.d (.val (.slice none 0 0))]) (hr:ResV P st rs xs) (hlt:Nat.blt i 500000=true:=by rfl):ResV P st (.cell t T::rs) (.sl k []::xs)
def P2:List DV->SV
 | [x]=>.d x
 | xs=>.tup xs
def IY (P:Program) (rs:List ResultVar) (r:SV):Exit->PS->Prop
 | .normal,st|.ret,st=>∃ xs,ResV P st rs xs∧r=P2 xs
 | _,_=>False
def Dy (tmps:Array Value):ResultVar->Sem Value
 | .tmp t=>pure (tmps.getD t undef)
 | .cell q t=>do loadVar t (<-asAddr (tmps.getD q undef))
theorem Ad (hr:Rep B w0 g st a w) {xs:List DV} (h:ResV P st rs xs):
 ∃ vs:List Value,(rs.mapM (Dy a.tmps)).run P w=.ok vs w∧vs.length=xs.length ∧ ∀ (i:Nat) v x,vs[i]? = some v->xs[i]? = some x->DRep (Fx g) w v x:=by
 induction h with
 | nil=>exact⟨[],by simp,rfl,fun i v x hv=>by simp at hv⟩
 | @tmp t x rs xs h _ ih=>
  obtain⟨vs,h1,h2,h3⟩:=ih
  refine⟨a.tmps.getD t undef::vs,?_,by simp[h2],fun i v y hv hy=>?_⟩
  . rw[List.mapM_cons]
    rw[show Dy a.tmps (.tmp t)=pure (a.tmps.getD t undef)from rfl]
    simp only[pure_bind,Sem.run_bind,h1,C1,Sem.run_pure]
  . cases i with
    | zero=>simp at hv hy;subst hv hy;simpa using (hr.slots t).toD h
    | succ i=>exact h3 i v y (by simpa using hv) (by simpa using hy)
 | @tnil t k rs xs h _ ih=>
  obtain⟨vs,h1,h2,h3⟩:=ih
  refine⟨a.tmps.getD t undef::vs,?_,by simp[h2],fun i v y hv hy=>?_⟩
  . rw[List.mapM_cons]
    rw[show Dy a.tmps (.tmp t)=pure (a.tmps.getD t undef)from rfl]
    simp only[pure_bind,Sem.run_bind,h1,C1,Sem.run_pure]
  . cases i with
    | zero=>
     have h4:=hr.slots t
     rw[h]at h4
     rw[List.getElem?_cons_zero]at hv hy
     cases hv
     cases hy
     rw[show a.tmps.getD t undef=_ from DRep.val_eq h4]
     exact DRep.nil
    | succ i=>exact h3 i v y (by simpa using hv) (by simpa using hy)
 | @agg t T i k cs ys rs xs hT h hb hc hk _ hlt ih=>
  obtain⟨vs,h1,h2,h3⟩:=ih
  have h4:=hr.slots t
  rw[h]at h4
  obtain⟨b,h5,h6⟩:=h4
  obtain⟨b',zs,T',h7,h8,h9,h10,h11⟩:=hr.boxes i cs hb (B0 hlt)
  rw[h5]at h7
  cases h7
  obtain⟨hl,hg⟩:=R0 hc
  have hcs:∀ (j:Nat) y,ys[j]? = some y->∃ u,zs[j]? = some u∧DRep (Fx g) w u y:=fun j y hj=>by
   obtain⟨c,h12,h13⟩:=hg j y hj
   have hjk:j<k:=by rw[<-hk];exact(A6.1 hj).1
   rw[C7 hjk]at h12
   obtain⟨u,h14,h15⟩:=h10 _ c h12
   exact⟨u,h14,h15.toD h13⟩
  have hlen:(zs.toList.take k).length=k:=by
   rcases F7 k with h0|h0
   . simp[h0]
   . have hlt:k-1<ys.length:=by omega
     obtain⟨u,h12,-⟩:=hcs (k-1) _ (A4 hlt)
     have:=(D5.1 h12).1
     simp
     omega
  have hrun:=S9 P w ⟨b,0,none⟩ (zs.toList.take k) k 0 #[] hlen (fun j u hj=>by
   rw[D0,Addr.add_lit]
   have hjk:j<k:=by rw[<-hlen];exact(A6.1 hj).1
   rw[C7 hjk]at hj
   simp only[World.cell?,h8,Option.isSome_none,Bool.false_eq_true,if_false]
   simpa using hj)
  have hld:(loadVar T ⟨b,0,none⟩).run P w=.ok (.agg (zs.toList.take k).toArray) w:=AC (by simpa using hrun)
  refine⟨.agg (zs.toList.take k).toArray::vs,?_,by simp[h2],fun q v y hv hy=>?_⟩
  . rw[List.mapM_cons]
    have hA:(asAddr (a.tmps.getD t undef):Sem Addr)=pure ⟨b,0,none⟩:=by rw[h6];rfl
    rw[show Dy a.tmps (.cell t T)=(asAddr (a.tmps.getD t undef) >>= fun q=>loadVar T q)from rfl]
    simp only[hA,pure_bind,Sem.run_bind,hld,h1,C1,Sem.run_pure]
  . cases q with
    | zero=>
     simp at hv hy
     subst hv hy
     have:DRep (Fx g) w (.agg (zs.toList.take k).toArray) (.agg ys):=by
      refine DRep.agg (by rw[hlen,hk]) (fun u hu=>by
       obtain⟨q,hq⟩:=List.mem_iff_getElem?.1 hu
       have hqk:q<k:=by rw[<-hlen];exact(A6.1 hq).1
       obtain⟨c0,h8',-⟩:=hg q _ (A4 (by omega))
       rw[C7 hqk]at h8' hq
       exact h11 q u (A6.1 h8').1 (by simpa using hq)) fun j u y hu hy=>?_
      obtain⟨u',h12,h13⟩:=hcs j y hy
      have hjk:j<k:=by rw[<-hk];exact(A6.1 hy).1
      rw[C7 hjk]at hu
      have:u'=u:=by
       have h14:zs[j]? = some u:=by simpa using hu
       rw[h12]at h14
       exact G4 h14
      exact this ▸ h13
     simpa using this
    | succ q=>exact h3 q v y (by simpa using hv) (by simpa using hy)
 | @one t T i c y rs xs hT h hb hc _ hlt ih=>
  obtain⟨vs,h1,h2,h3⟩:=ih
  have h4:=hr.slots t
  rw[h]at h4
  obtain⟨b,h5,h6⟩:=h4
  obtain⟨b',zs,T',h7,h8,h9,h10,h11⟩:=hr.boxes i [c] hb (B0 hlt)
  rw[h5]at h7
  cases h7
  obtain⟨u,h12,h13⟩:=h10 0 c rfl
  have hcell:w.cell? ⟨b,0,none⟩=some u:=by simp[World.cell?,h8,h12]
  have hld:(loadVar T ⟨b,0,none⟩).run P w=.ok u w:=S8 hcell
  refine⟨u::vs,?_,by simp[h2],fun q v x hv hx=>?_⟩
  . rw[List.mapM_cons]
    have hA:(asAddr (a.tmps.getD t undef):Sem Addr)=pure ⟨b,0,none⟩:=by rw[h6];rfl
    rw[show Dy a.tmps (.cell t T)=(asAddr (a.tmps.getD t undef) >>= fun q=>loadVar T q)from rfl]
    simp only[hA,pure_bind,Sem.run_bind,hld,h1,C1,Sem.run_pure]
  . cases q with
    | zero=>simp at hv hx;subst hv hx;exact h13.toD hc
    | succ q=>exact h3 q v x (by simpa using hv) (by simpa using hx)
 | @onil t T i k rs xs hT h hb _ hlt ih=>
  obtain⟨vs,h1,h2,h3⟩:=ih
  have h4:=hr.slots t
  rw[h]at h4
  obtain⟨b,h5,h6⟩:=h4
  obtain⟨b',zs,T',h7,h8,h9,h10,h11⟩:=hr.boxes i [.d (.val (.slice none 0 0))] hb (B0 hlt)
  rw[h5]at h7
  cases h7
  obtain⟨u,h12,h13⟩:=h10 0 _ rfl
  have hcell:w.cell? ⟨b,0,none⟩=some u:=by simp[World.cell?,h8,h12]
  have hld:(loadVar T ⟨b,0,none⟩).run P w=.ok u w:=S8 hcell
  refine⟨u::vs,?_,by simp[h2],fun q v x hv hx=>?_⟩
  . rw[List.mapM_cons]
    have hA:(asAddr (a.tmps.getD t undef):Sem Addr)=pure ⟨b,0,none⟩:=by rw[h6];rfl
    rw[show Dy a.tmps (.cell t T)=(asAddr (a.tmps.getD t undef) >>= fun q=>loadVar T q)from rfl]
    simp only[hA,pure_bind,Sem.run_bind,hld,h1,C1,Sem.run_pure]
  . cases q with
    | zero=>simp at hv hx;subst hv hx;have:=DRep.val_eq h13;rw[this];exact DRep.nil
    | succ q=>exact h3 q v x (by simpa using hv) (by simpa using hx)
def CU:Nat->List DV->List (Nat×SV)
 | _,[]=>[]
 | i,x::l=>(i,.d x)::CU (i+1) l
theorem CW (i j:Nat) (l:List DV):F8 (CU i l) j=if i<=j then (l[j-i]?).map .d else none:=by
 induction l generalizing i with
 | nil=>simp[CU,F8]
 | cons x l ih=>
  rw[CU,I3,ih]
  by_cases h:j=i
  . simp[h]
  . rw[B8 h]
    by_cases h2:i<=j
    . rw[C2 h2,C2 (by omega),show j-i=(j-(i+1))+1 by omega];simp
    . rw[B8 h2,B8 (by omega)]
theorem T4 {fn:Func} {args:Array Value} {R:Ending->World->Prop} (hf:P.funcs[f]? = some fn) (hb:fn.body=some c)
 (h:c.wpIn Fence.wide 0 P (bodyPostM Fence.wide 0 P fn R) { tmps:=args++Array.replicate (fn.ntmps-args.size) undef,defers:=[] } w):Calls P f args w R:=
 callsIn_wide.1 (callsIn_of_wp_marks (F:=Fence.wide) (n:=0) hf hb trivial h)
theorem see_put {D o:Nat} {ob ob':Obj} (h:w.heap[D]? = some ob) (h1:∀ c T z,ob ≠ .cells c T z) (h2:∀ es c,ob ≠ .map es c) (h1':∀ c T z,ob' ≠ .cells c T z) (h2':∀ es c,ob' ≠ .map es c):AB (w.putObj D ob') b o=AB w b o:=by
 by_cases e:b=D
 . subst e
   unfold AB
   rw[World.putObj_heap_same (D5.1 h).1,h]
   cases ob' with
   | cells c T z=>exact F9 O (h1' c T z)
   | map es c=>exact F9 O (h2' es c)
   | _=>cases ob with
    | cells c T z=>exact F9 O (h1 c T z)
    | map es c=>exact F9 O (h2 es c)
    | _=>rfl
 . exact I2 (World.putObj_heap_other e) o
theorem Rep.hide (h:Rep B w0 g st a w) {D:Nat} {ob ob':Obj} (hD:w.heap[D]? = some ob) (h1:∀ c T z,ob ≠ .cells c T z) (h2:∀ es c,ob ≠ .map es c) (h1':∀ c T z,ob' ≠ .cells c T z) (h2':∀ es c,ob' ≠ .map es c)
 (hn:¬ P7 g w D) (hw0:w0.w.heap.size<=D) {ds:List Deferred} (hds:ds.Nodup ∧ ∀ d∈ds,d∈a.defers∧d ≠ { target:=.collected D,args:=#[] }):Rep B w0 g st { a with defers:=ds } (w.putObj D ob'):=by
 have hsee:∀ b o,AB (w.putObj D ob') b o=AB w b o:=fun b o=>see_put hD h1 h2 h1' h2'
 have kp:Kp (Fx g) w (Fx g) (w.putObj D ob'):=fun b o hf _=>⟨hf,hsee b o⟩
 have hbl:∀ i b,g.bl i=some b->b≠D:=fun i b hi e=>hn (.inr (.inl ⟨i,e ▸ hi⟩))
 have hoth:∀ b,b≠D->(w.putObj D ob').heap[b]? = w.heap[b]?:=fun b hb=>World.putObj_heap_other hb
 have hsz:(w.putObj D ob').heap.size=w.heap.size:=by simp
 have hown:∀ b,P7 g (w.putObj D ob') b↔P7 g w b:=fun b=>by unfold P7;rw[hsz]
 have e:Ext g w g (w.putObj D ob'):=⟨kp,fun _ _ h=>h,fun _ T h=>⟨T,h,.inl rfl⟩,fun i b hi=>G5 (hoth b (hbl i b hi))⟩
 have htk:∀ t T b,g.tk t=some T->T.v.ownBlock=some b->b≠D:=fun t T b hT hb e=>hn (.inr (.inr ⟨t,T,hT,e ▸ hb⟩))
 have ev0:=h.evo
 refine { h with evo:=?_,base:=by rw[hsz];exact h.base,size:=h.size,defers:=⟨hds.1,fun d hd=>?_⟩,slots:=fun i=>(h.slots i).ext e,boxes:=fun i cs hi hlt=>?_,maps:=fun i ms hi hge=>?_,blk:=fun i b hi=>⟨(h.blk i b hi).1,by rw[hsz];exact(h.blk i b hi).2⟩,toks:=fun t T hT=>?_,glob:=fun q cs hq=>(h.glob q cs hq).ext e }
 . refine⟨⟨ev0.bel.os,ev0.bel.tape,ev0.bel.output,by rw[hsz];exact ev0.bel.size,fun b hb=>F9 hb (Nat.not_lt_zero b)⟩,ev0.f0,ev0.fx.trans kp,fun b hb=>?_,ev0.bl,ev0.tk,ev0.tb,fun i b hs hi hi'=>?_⟩
   . have hne:b≠D:=fun e=>hb (.inl (e ▸ hw0))
     rw[hoth b hne]
     exact ev0.heap b hb
   . rw[G5 (hoth b (hbl i b hi'))]
     exact ev0.sh i b hs hi hi'
 . obtain⟨h3,h4⟩:=hds.2 d hd
   obtain⟨D',h5,h6,h7,h8⟩:=h.defers.2 d h3
   have hne:D'≠D:=fun e=>h4 (by rw[h5,e])
   exact⟨D',h5,(hoth D' hne).trans h6,fun ho=>h7 ((hown D').1 ho),h8⟩
 . obtain⟨b,xs,T,q1,q2,q3,q4,q5⟩:=h.boxes i cs hi hlt
   refine⟨b,xs,T,q1,(hoth b (hbl i b q1)).trans q2,q3,fun j c hj=>?_,q5⟩
   obtain⟨x,q6,q7⟩:=q4 j c hj
   exact⟨x,q6,q7.ext e⟩
 . obtain⟨b,es,c,q1,q2,q3⟩:=h.maps i ms hi hge
   exact⟨b,es,c,q1,(hoth b (hbl i b q1)).trans q2,q3.mono kp⟩
 . obtain⟨⟨n,xs,q1⟩,q2⟩:=h.toks t T hT
   exact⟨⟨n,xs,H8 q1 fun b hb=>hoth b (htk t T b hT hb)⟩,q2⟩
theorem X7 {fn:Func} {R:Ending->World->Prop} {tmps:Array Value} (hd0:w0.w.heap.size<=w0.d0) (hR:∀ w2,Rep B w0 g st { tmps:=tmps,defers:=[] } w2->∃ v,(results fn tmps).run P w2=.ok v w2∧R (.returned v) w2):
 ∀ (ds:List Deferred) (w:World),Rep B w0 g st { tmps:=tmps,defers:=ds } w->LeavesInM Fence.wide 0 P fn tmps R ds .returning w:=by
 intro ds
 induction ds with
 | nil=>exact fun w h=>hR w h
 | cons d ds ih=>
  intro w h
  obtain⟨hnd,hd⟩:=h.defers
  obtain⟨D,h1,h2,h3,h4⟩:=hd d (List.mem_cons_self ..)
  have hnd2:=List.nodup_cons.1 hnd
  refine⟨fun e=>(by cases e),.inl ⟨D,w.putObj D (.deferred none),by rw[h1],run_takeDeferred h2,ih _ ?_⟩⟩
  exact h.hide h2 (fun _ _ _ e=>by cases e) (fun _ _ e=>by cases e) (fun _ _ _ e=>by cases e) (fun _ _ e=>by cases e) h3 (E3 hd0 h4) ⟨hnd2.2,fun d' hd'=>⟨List.mem_cons_of_mem _ hd',fun e=>hnd2.1 (by rw[h1];exact e ▸ hd')⟩⟩
theorem EA {fn:Func} {args:List DV} (hf:P.funcs[f]? = some fn) (hb:fn.body=some c) (hn:fn.ntmps=n) (hrs:fn.results=rs.toArray) (hl:args.length<=n)
 (h:∀ B w0,w0.rl=none->PW P B w0 c (IY P rs r) ⟨n,CU 0 args,[],[]⟩) (hlim:Nat.ble n 10000=true:=by rfl):PCalls P f args r:=by
 intro F w vals hvl hv hgo
 refine T4 hf hb ?_
 have hrep:Rep w.heap.size ⟨w,gF fun b o=>F b o∨w.heap.size<=b,none,w.heap.size,D6 _⟩ (gF fun b o=>F b o∨w.heap.size<=b) ⟨n,CU 0 args,[],[]⟩ { tmps:=vals.toArray++Array.replicate (fn.ntmps-vals.toArray.size) undef,defers:=[] } w:=by
  refine { evo:=Evo.refl _ _,base:=D6 _,f0:=fun b o h=>.inr h,lim:=B0 hlim,size:=by simp;omega,defers:=Dfr.nil _ _ _,slots:=fun i=>?_,boxes:=fun i cs hi=>(by cases hi),maps:=fun i ms hi=>(by cases hi),blk:=fun i b hi=>(by cases hi),dom:=fun i b hi=>(by cases hi),inj:=fun i j b hi=>(by cases hi),toks:=fun t T hT=>(by cases hT),tf0:=fun t T b o hT=>(by cases hT),telt:=fun t T hT=>(by cases hT),tdis:=fun t t' T T' b h1=>(by cases h1),tdom:=fun t T hT=>(by cases hT),tlen:=fun t n ht=>(by cases ht),glob:=hgo.rep (Kp.same fun b o hF=>Fx.gF (.inl hF)),gown:=hgo.own,ghp:=fun q cs hq=>(hgo q cs hq).2 }
  unfold PS.get
  simp only[CW,D4,if_true,Nat.sub_zero]
  cases hx:args[i]? with
  | none=>trivial
  | some x=>
   have hlt:i<vals.length:=by rw[hvl];exact(A6.1 hx).1
   have h1:=hv i _ x (A4 hlt) hx
   have h2:(vals.toArray++Array.replicate (fn.ntmps-vals.toArray.size) undef).getD i undef=vals[i]:=by
    simp[Array.getD,hlt]
    omega
   simp only[Option.map_some]
   show DRep _ w _ x
   rw[h2]
   exact h1.mono (Kp.same fun b o hF=>Fx.gF (.inl hF))
 refine wpIn_mono (h w.heap.size _ O _ _ _ hrep) fun e a' w' ⟨g,st,h1,h2⟩=>?_
 have fin:(∃ xs,ResV P st rs xs∧r=P2 xs)->LeavesInM Fence.wide 0 P fn a'.tmps (fun e w'=>∃ v',e=.returned v'∧SRep (gF fun b o=>F b o∨w.heap.size<=b) w' v' r∧Below w.heap.size w w') a'.defers .returning w':=by
  rintro⟨xs,h3,rfl⟩
  refine X7 (st:=st) (D6 _) (fun w' h1=>?_) a'.defers w' h1
  obtain⟨vs,h4,h5,h6⟩:=Ad h1 h3
  have hrun:(results fn a'.tmps).run P w'=.ok (if h:vs.toArray.size=1 then vs.toArray[0]else .tuple vs.toArray) w':=by
   rw[show results fn a'.tmps=(fn.results.mapM (Dy a'.tmps) >>= fun vs=>pure (if h:vs.size=1 then vs[0]else .tuple vs))from rfl,hrs,Array.mapM_eq_mapM_toList]
   simp only[Sem.run_bind,Sem.run_map]
   rw[h4]
   rfl
  have h7:∀ (i:Nat) v x,vs[i]? = some v->xs[i]? = some x->DRep (Fx (gF fun b o=>F b o∨w.heap.size<=b)) w' v x:=fun i v x hv hx=>
   (h6 i v x hv hx).mono (Kp.same fun b o hf=>Fx.gF (by have:=hf.1;rw[h1.evo.f0]at this;exact this))
  refine⟨_,hrun,_,O,?_,h1.evo.below⟩
  match vs,xs,h5,h7 with
  | [],[],_,_=>exact⟨[],O,O,fun i y x hy=>by simp at hy⟩
  | [v],[x],_,h7=>exact h7 0 v x O O
  | v::v'::vs,x::x'::xs,h5,h7=>exact⟨v::v'::vs,by simp,h5,h7⟩
 cases e with
 | normal=>exact fin h2
 | ret=>exact fin h2
 | _=>exact h2.elim
theorem FN {fn:Func} {args:List DV} (hf:P.funcs[f]? = some fn) (hb:fn.body=some c) (hn:fn.ntmps=n) (hrs:fn.results=rs.toArray) (hl:args.length<=n)
 (h:∀ B w0,PW P B w0 c (IY P rs r) ⟨n,CU 0 args,[],[]⟩) (hlim:Nat.ble n 10000=true:=by rfl):PCalls P f args r:=EA hf hb hn hrs hl (fun B w0 _=>h B w0) hlim
theorem L7 {P:Program} {f n:Nat} {c:Code} {rs:List ResultVar} {r:SV} {fn:Func} {args:List DV} (hf:P.funcs[f]? = some fn) (hb:fn.body=some c) (hn:fn.ntmps=n) (hrs:fn.results=rs.toArray) (h:∀ B w0,PW P B w0 c (IY P rs r) ⟨n,CU 0 args,[],[]⟩) (hl:args.length<=n:=by simp) (hlim:Nat.ble n 10000=true:=by rfl):PCalls P f args r:=FN hf hb hn hrs hl h hlim
/-! the ends of code -/
section
variable {K:PS->Prop} {Q:Exit->PS->Prop}
theorem B6 (h:K st):HS K Q .normal st:=h
theorem A8 (h:Q .ret st):HS K Q .ret st:=h
theorem LU (h:Q .normal st):Dv id Q .normal st:=h
theorem C0 (h:Q .ret st):Dv id Q .ret st:=h
theorem K9 (xs:List DV) (h:ResV P st rs xs) (hr:r=P2 xs):IY P rs r .ret st:=⟨xs,h,hr⟩
theorem J2 {P:Program} {t:Nat} {x:DV} {r:SV} {st:PS} (h:toD (st.get t)=some x) (hr:r=P2 [x]):IY P [.tmp t] r .ret st:=K9 _ (.tmp h .nil) hr
theorem Cu {P:Program} {t t':Nat} {x x':DV} {r:SV} {st:PS} (h:toD (st.get t)=some x) (h':toD (st.get t')=some x') (hr:r=P2 [x,x']):IY P [.tmp t,.tmp t'] r .ret st:=K9 _ (.tmp h (.tmp h' .nil)) hr
end
theorem PCalls.of_plain {vs:List Value} {us:List Value} (hv:v=(match us with | [u]=>u|us=>.tuple us.toArray)) (hu:∀ u∈us,u.oneCell'=true) (h:∀ w,Calls P f vs.toArray w fun e w'=>e=.returned v∧Below w.heap.size w w'):PCalls P f (vs.map .val) (P2 (us.map .val)):=by
 intro F w vals hl hr _
 have:vals=vs:=by
  apply List.ext_getElem (by simpa using hl)
  intro i h1 h2
  have:=hr i _ _ (A4 h1) (A4 (by simpa using h2))
  simp only[List.getElem_map]at this
  exact DRep.val_eq this
 subst this
 refine(h w).mono ?_
 rintro e w' ⟨rfl,hb⟩
 refine⟨_,O,?_,hb⟩
 subst hv
 match us,hu with
 | [],_=>exact⟨[],O,O,fun i y x hy=>by simp at hy⟩
 | [u],hu=>exact DRep.val u (hu u (by simp))
 | u::u'::us,hu=>
  refine⟨u::u'::us,O,by simp,fun i y x hy hx=>?_⟩
  simp only[<-List.map_cons,B5]at hx
  rw[hy]at hx
  cases hx
  exact DRep.val y (hu y (B2 hy))
/-! the rows of a region -/
theorem E0 {Q:Exit->PS->Prop} {c:Operand} {x y:Code} (hc:st.ev c=.d (.val (.bool true))) (h:PW P B w0 x Q st):PW P B w0 (.cond c x y) Q st:=H7 hc (fun _=>h) fun e=>by cases e
theorem B9 {Q:Exit->PS->Prop} {c:Operand} {x y:Code} (hc:st.ev c=.d (.val (.bool false))) (h:PW P B w0 y Q st):PW P B w0 (.cond c x y) Q st:=H7 hc (fun e=>by cases e) fun _=>h
section
variable {sq:Bool} {K:PS->Prop} {rest:List Oper} {d:Option Nat} {op:Op} {ty:TypeId} {pos:String} {af:Array Edge} {gd:Option (Nat×Bool)}
theorem I1 (hs:I7 P ⟨d,op,ty,pos,af,gd⟩ st x .no) (hk:Cm ⟨d,op,ty,pos,af,gd⟩ st .no=true) (hw:st.want ops ⟨d,op,ty,pos,af,gd⟩=some true) (h:YR P sq ops K rest (st.put d x)):YR P sq ops K (⟨d,op,ty,pos,af,gd⟩::rest) st:=.op x .no hs hk hw h
theorem Bv {cs:List SV} (hs:I7 P ⟨d,op,ty,pos,af,gd⟩ st x (.box i cs)) (hk:Cm ⟨d,op,ty,pos,af,gd⟩ st (.box i cs)=true) (hw:st.want ops ⟨d,op,ty,pos,af,gd⟩=some true) (h:YR P sq ops K rest ((st.bput i cs).put d x)):YR P sq ops K (⟨d,op,ty,pos,af,gd⟩::rest) st:=.op x _ hs hk hw h
theorem yr_t {t:Nat} (hs:I7 P ⟨d,op,ty,pos,af,gd⟩ st x (.tok t n)) (hk:Cm ⟨d,op,ty,pos,af,gd⟩ st (.tok t n)=true) (hw:st.want ops ⟨d,op,ty,pos,af,gd⟩=some true) (h:YR P sq ops K rest ((st.tput t n).put d x)):YR P sq ops K (⟨d,op,ty,pos,af,gd⟩::rest) st:=.op x _ hs hk hw h
theorem lm (hx:st.ev y=x) (hd:G3 ⟨d,.move y,ty,pos,af,gd⟩ st=true):I7 P ⟨d,.move y,ty,pos,af,gd⟩ st x .no:=hx ▸ ls_move y hd
theorem la (hx:st.ev y=x) (hd:G3 ⟨d,.assign y,ty,pos,af,gd⟩ st=true):I7 P ⟨d,.assign y,ty,pos,af,gd⟩ st x .no:=hx ▸ KE y hd
theorem lpt {c z:Operand} (hc:st.ev c=.d (.val (.bool true))) (hx:st.ev y=x) (hd:G3 ⟨d,.pick c y z,ty,pos,af,gd⟩ st=true):I7 P ⟨d,.pick c y z,ty,pos,af,gd⟩ st x .no:=hx ▸ JG c y z hc hd
theorem lpf {c z:Operand} (hc:st.ev c=.d (.val (.bool false))) (hx:st.ev z=x) (hd:G3 ⟨d,.pick c y z,ty,pos,af,gd⟩ st=true):I7 P ⟨d,.pick c y z,ty,pos,af,gd⟩ st x .no:=hx ▸ JG c y z hc hd
theorem DO {z:Operand} {cs:List SV} [hT:AggOf P T false 1] (h5:i<500000) (hz:st.ev z=.bx i off) (hi:st.bget i=some cs) (hy:st.ev y=x) (hx:Z9 x=some [x]) (hle:off<cs.length) (hd:G3 ⟨d,.store T z y,ty,pos,af,gd⟩ st=true):
 I7 P ⟨d,.store T z y,ty,pos,af,gd⟩ st .any (.box i (cs.set off x)):=GV T z y (xs:=[x]) h5 hz hi (by rw[hy,hx]) rfl hle hd
/-! which operation stands next -/
end
end Go.Proofs.YtdkpmnefoobipaaGreatDoor.Px