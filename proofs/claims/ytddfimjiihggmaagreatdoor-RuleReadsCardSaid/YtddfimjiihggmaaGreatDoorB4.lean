/- Plain mathematics of strings as lists of bytes: their order, ascending lists. -/
import Derived.Test.YtddfimjiihggmaaGreatDoorB3
import Derived.Test.YtddfimjiihggmaaGreatDoorRows
import Derived.LaidMore
import Derived.Lay
import Derived.Stop.Joined
import Derived.Lib.SmallJoins
import Derived.Lib.SplitLaws
import Derived.Sort.KeysCollected
import Derived.Lib.ItoaNum
import Derived.Sort.Walk0
set_option maxHeartbeats 16000000
set_option maxRecDepth 20000
namespace Go.Proofs.YtddfimjiihggmaaGreatDoor
abbrev ltS (a b:F6):Bool:=Go.Op.bytesLess a b
theorem EE (a b:UInt8) (x y:F6):ltS (a::x) (b::y)=(decide (a<b)||(a==b&&ltS x y)):=rfl
theorem U2 (a:F6):ltS a a=false:=by
 induction a with
 | nil=>rfl
 | cons x a ih=>
  rw[EE,ih,Bool.and_false,Bool.or_false]
  exact A7 (UInt8.lt_irrefl x)
theorem BX {a b c:F6} (h:ltS a b=true) (k:ltS b c=true):ltS a c=true:=by
 induction a generalizing b c with
 | nil=>
  cases b with
  | nil=>cases h
  | cons y b=>cases c with
   | nil=>cases k
   | cons z c=>rfl
 | cons x a ih=>
  cases b with
  | nil=>cases h
  | cons y b=>
   cases c with
   | nil=>cases k
   | cons z c=>
    rw[EE]at h k ⊢
    simp only[Bool.or_eq_true,decide_eq_true_eq,D1,beq_iff_eq]at h k ⊢
    rcases h with h|⟨rfl,h⟩
    . rcases k with k|⟨rfl,k⟩
      . exact .inl (UInt8.lt_trans h k)
      . exact .inl h
    . rcases k with k|⟨rfl,k⟩
      . exact .inl k
      . exact .inr ⟨rfl,ih h k⟩
theorem X3 (a b:F6):ltS a b=true∨a=b∨ltS b a=true:=by
 induction a generalizing b with
 | nil=>cases b with
  | nil=>exact .inr (.inl C)
  | cons y b=>exact .inl C
 | cons x a ih=>
  cases b with
  | nil=>exact .inr (.inr C)
  | cons y b=>
   rw[EE,EE]
   simp only[Bool.or_eq_true,decide_eq_true_eq,D1,beq_iff_eq]
   rcases Decidable.em (x<y)with h|h
   . exact .inl (.inl h)
   . rcases Decidable.em (y<x)with k|k
     . exact .inr (.inr (.inl k))
     . have e:x=y:=by
        apply UInt8.toNat_inj.1
        rw[UInt8.lt_iff_toNat_lt]at h k
        omega
       subst e
       rcases ih b with i|rfl|i
       . exact .inl (.inr ⟨rfl,i⟩)
       . exact .inr (.inl C)
       . exact .inr (.inr (.inr ⟨rfl,i⟩))
theorem Z4 {a b:F6} (h:ltS a b=true):ltS b a=false:=by
 cases k:ltS b a with
 | false=>rfl
 | true=>have:=BX h k;rw[U2]at this;cases this
theorem ltS_ne {a b:F6} (h:ltS a b=true):a≠b:=fun e=>by rw[e,U2]at h;cases h
open Go.RowKit Px
variable {us:List Value} {args:List DV} {P:Program} {f:FuncId}
abbrev dI (n:Int):DV:=.val (.int .i64 n)
theorem P2 {a b:Int} (h:a=b):SVle (.d (dI a)) (.d (dI b)):=.of_eq (G4 (fun n=>SV.d (dI n)) h)
theorem FN {a b:Nat} (h:a=b):SVle (.d (dI a)) (.d (dI b)):=.of_eq (G4 (fun n:Nat=>SV.d (dI n)) h)
abbrev dU (n:Nat):DV:=.val (.int .u64 n)
abbrev dB (b:Bool):DV:=.val (.bool b)
abbrev dC (l:F6):List DV:=[dS l]
theorem ix {α:Type} (f:α->List DV) (l:List α) (n:Int) (i:Nat) (x:α) (h:n=i) (hx:l[i]? = some x):(l.map f)[n.toNat]? = some (f x):=by
 subst h
 rw[H1,C6,hx];rfl
theorem I8 (n:Int) (h:-9223372036854775808<=n∧n<=9223372036854775807):IntKind.i64.wrap n=n:=IntWalk.i64_in n h
theorem PCalls.of_any {v:Value} (hv:v=(match us with | [u]=>u|us=>.tuple us.toArray)) (hu:∀ u∈us,u.oneCell'=true)
 (h:∀ (F:Nat->Nat->Prop) (w:World) (vals:List Value),vals.length=args.length->(∀ (i:Nat) v x,vals[i]? = some v->args[i]? = some x->DRep F w v x)->GlobOk F w->Calls P f vals.toArray w fun e w'=>e=.returned v∧Below w.heap.size w w'):PCalls P f args (AD (us.map .val)):=by
 intro F w vals hl hr hg
 refine(h F w vals hl hr hg).mono ?_
 rintro e w' ⟨rfl,hb⟩
 refine⟨_,C,?_,hb⟩
 subst hv
 match us,hu with
 | [],_=>exact⟨[],C,C,fun i y x hy=>by simp at hy⟩
 | [u],hu=>exact DRep.val u (hu u (by simp))
 | u::u'::us,hu=>
  refine⟨u::u'::us,C,by simp,fun i y x hy hx=>?_⟩
  simp only[<-List.map_cons,C6]at hx
  rw[hy]at hx
  cases hx
  exact DRep.val y (hu y (B8 hy))
theorem Fv {F:Nat->Nat->Prop} {w:World} {vals:List Value} (hl:vals.length=(us.map DV.val).length) (hr:∀ (i:Nat) v x,vals[i]? = some v->(us.map DV.val)[i]? = some x->DRep F w v x):vals=us:=by
 apply List.ext_getElem (by simpa using hl)
 intro i h1 h2
 have:=hr i _ _ (A4 h1) (A4 (by simpa using h2))
 simp only[List.getElem_map]at this
 exact DRep.val_eq this
theorem IB (hp:PCalls P f args (.d (dB true))) (w:World) (vals:List Value) (hl:vals.length=args.length) (hr:∀ (i:Nat) v x,vals[i]? = some v->args[i]? = some x->DRep (fun _ _=>True) w v x) (hg:GlobOk (fun _ _=>True) w):
 Calls P f vals.toArray w fun e w'=>e=.returned (.bool true)∧Below w.heap.size w w':=
 (hp (fun _ _=>True) w vals hl hr hg).mono fun e w' ⟨v,h1,h2,h3⟩=>by
  have:v=.bool true:=DRep.val_eq h2
  subst this
  exact⟨h1,h3⟩
open Go.ChangeShapes Go.WideShapes Go.ChangeAt Go.RowKit Go.Joins Px
theorem own:ownKnob Tryz.prog.godebug=none:=by kernel_rfl
def pow10:List Int:=[1,10,100,1000,10000,100000,1000000,10000000,100000000,1000000000,10000000000,100000000000,1000000000000,10000000000000,100000000000000,1000000000000000,10000000000000000,100000000000000000,1000000000000000000,10000000000000000000]
theorem gs_eq:gs=[(5,pow10.map fun n=>DV.val (.int .u64 n))]:=rfl
section
variable {H:Type} {enc:TypeId×Value->H}
theorem Ky {W:World} {cs:Array Value} {fuel:Nat} {x:DataW Unit×List MemPlace} {sp:Nat->Bool} {hd:Bool} (hv:W.var? Tryz.prog "internal/strconv.uint64pow10" = some cs) (hx:x.1=.agg (pow10.map fun n=>.lit (.int .u64 n)))
 (h:DataW.trod (fun _=>()) Tryz.prog W 0 sp hd fuel 293 cs.toList=some x):GlobOk (fun _ _=>True) W:=by
 obtain⟨xs,m,-,rfl,hl,hn,hel⟩:=DataW.trod_array Tryz.underlying293 h
 have hc:Tryz.prog.cellsOf 198=1:=by kernel_rfl
 have hc2:Tryz.prog.cellsOf 293=20:=by kernel_rfl
 rw[hc2]at hl
 have hx:xs.map (·.1)=pow10.map fun n=>(.lit (.int .u64 n):DataW Unit):=DataW.agg.inj hx
 have hp:pow10.length=20:=rfl
 have hcs:cs.toList=pow10.map fun n=>Value.int .u64 n:=by
  apply List.ext_getElem?
  intro r
  by_cases hr:r<20
  . have hE:=hel r hr
    rw[hc,Nat.mul_one,A4 (by omega)]at hE
    obtain⟨z,e1,e2,-⟩:=DataW.trod_int Tryz.underlying198 hE
    have e4:(xs.map (·.1))[r]? = (pow10.map fun n=>(.lit (.int .u64 n):DataW Unit))[r]?:=by rw[hx]
    rw[C6,C6,A4 (by omega:r<xs.length),A4 (by omega:r<pow10.length),e2]at e4
    simp only[Option.map_some,Option.some.injEq,DataW.lit.injEq,Lit.int.injEq,true_and]at e4
    have h0:((cs.toList.drop r).take 1)[0]? = some (.int .u64 z):=by rw[e1];rfl
    have h1:cs.toList[r]? = some (.int .u64 z):=by simpa using h0
    rw[h1,C6,A4 (by omega:r<pow10.length),e4]
    rfl
  . rw[I0 (by omega),I0 (by simp[hp];omega)]
 have hg:Tryz.prog.globalNamed "internal/strconv.uint64pow10" = some 5:=by kernel_rfl
 have hcell:=World.var?_cell hg hv
 obtain⟨T,z,hheap⟩:∃ T z,W.heap[5]? = some (.cells cs T z):=by
  simp only[World.var?,hg,Option.bind_some]at hv
  split at hv
  . rename_i a b c hh;cases hv;exact⟨_,_,hh⟩
  . cases hv
 intro q ds hq
 rw[gs_eq]at hq
 simp only[G1]at hq
 cases hb:Nat.beq 5 q with
 | false=>rw[hb]at hq;cases hq
 | true=>
  have e:=F8 hb
  subst e
  rw[hb]at hq
  cases hq
  refine⟨.ref (fun j=>(pow10.map fun n=>Value.int .u64 n)[j]?.getD default) (fun j hj=>?_) (fun j x hj=>?_),pow10.map fun n=>Value.int .u64 n,by rw[List.map_map];rfl,T,z,?_⟩
  . rw[A8]at hj
    have e1:(pow10.map fun n=>Value.int .u64 n)[j]? = some (Value.int .u64 pow10[j]):=by rw[C6,A4 hj];rfl
    refine⟨?_,D3,?_⟩
    . rw[E4,hcell j,<-Array.getElem?_toList,hcs,e1];rfl
    . rw[e1];rfl
  . rw[C6,C7]at hj
    obtain⟨n,hn,rfl⟩:=hj
    have e1:(pow10.map fun n=>Value.int .u64 n)[j]? = some (Value.int .u64 n):=by rw[C6,hn];rfl
    rw[e1]
    exact .val _ C
  . rw[hheap,<-hcs]
theorem laidOut:laidOutB Tryz.prog=true:=by kernel_rfl
theorem DO {W W':World} (hb:Below W.heap.size W W'):∀ (ts:List TypeId) (vs:List Value) (ds:List (DataW H)) (ps:List MemPlace),(∀ t∈ts,Tryz.prog.readableRec t=true∧t<Tryz.prog.types.size)->(∀ x∈ps,x.block<W.heap.size) →
 DataW.TrodAll enc Tryz.prog W 0 (fun _=>true) true ts vs ds ps->DataW.TrodAll enc Tryz.prog W' 0 (fun b=>decide (b<W.heap.size)) true ts vs ds ps
 | [],vs,ds,ps,_,_,h=>by
  obtain⟨rfl,rfl,rfl⟩:=trodAll_nil h
  exact trodAll_mk0
 | t::ts,vs,ds,ps,ht,hlt,h=>by
  obtain⟨v,vs',d,ds',p,q,rfl,rfl,rfl,h1,h2⟩:=trodAll_cons h
  exact trodAll_cons_mk (Below.trod laidOut (ht t (by simp)).1 (ht t (by simp)).2 h1 hb fun x hx=>hlt x (by simp[hx]))
   (DO hb ts vs' ds' q (fun t' ht'=>ht t' (by simp[ht'])) (fun x hx=>hlt x (by simp[hx])) h2)
theorem SC {f:Func} {s:ChangeSpec} {W W':World} {args:Array Value} {ds:List (DataW H)} {before:List MemPlace} (hW:DataW.Whole enc Tryz.prog f.params.toList s.vars false W args.toList ds [] before) (hv:s.vars=[])
 (hres:f.resultTypes = #[4]) (hfn:s.fn H (ds++[])={ results:=[.lit (.bool true)],args:=ds }) (hread:∀ t∈f.params.toList,Tryz.prog.readableRec t=true∧t<Tryz.prog.types.size) (hb:Below W.heap.size W W'):
 s.post enc Tryz.prog f false true false false W args (.bool true) W':=by
 have hW':=hW
 obtain⟨p,q,hA,hV,rfl,hfz,hnd⟩:=hW
 rw[hv]at hV
 obtain⟨-,rfl⟩:=trodVars_none hV
 have hlt:∀ x∈p,x.block<W.heap.size:=fun x hx=>hW'.lt x (by simp[hx])
 refine⟨ds,[],p++[],[],p,[],hW',?_,?_,?_,hb.frame _,fun h=>by cases h⟩
 . rw[hfn,hres]
   exact trodAll_mk1 (shut_bool Tryz.underlying4 _)
 . rw[hfn]
   exact DO hb _ _ _ _ hread hlt hA
 . rw[hfn,hv]
   rfl
end
end Go.Proofs.YtddfimjiihggmaaGreatDoor
namespace Go.Proofs.YtddfimjiihggmaaGreatDoor.Px
open Go.RowKit
variable {es:List (List DV)} {F:Nat->Nat->Prop} {vs:List Value} {w:World} {B:Nat} {w0:Cx} {a:Act} {g:Gh} {v:Value}
theorem Rep.rebox {st:PS} {w':World} (h:Rep B w0 g st a w) {i b b' T:Nat} (hlt:i<500000) (hsm:Oe i) (hbl:g.bl i=some b) (hb0:Below 0 w w') (hne:∀ k,k<w.heap.size->k≠b->w'.heap[k]? = w.heap[k]?) (hbb:b'=b∨w.heap.size<=b')
 (xs:Array Value) (hheap:w'.heap[b']? = some (.cells xs T (0,0))) (vs:List Value) (hl:vs.length<=xs.size) (hx:∀ (j:Nat) u,vs[j]? = some u->xs[j]? = some u∧u.oneCell'=true):
 Rep B w0 (g.addb i b') ((st.kill i).bput i (vs.map fun u=>.d (.val u))) a w':=by
 have hbs:b'<w'.heap.size:=(D2.1 hheap).1
 have hothers:∀ j c,j≠i->g.bl j=some c->c≠b'∧w'.heap[c]? = w.heap[c]?:=fun j c hj hc=>by
  have h1:c≠b:=fun e=>hj (h.inj j i b (by rw[hc,e]) hbl)
  have h2:=(h.blk j c hc).2
  refine⟨fun e=>?_,hne c h2 h1⟩
  rcases hbb with e2|e2
  . exact h1 (e.trans e2)
  . omega
 have ev:Evo g w (g.addb i b') w':=by
  refine⟨hb0,C,fun c o hf hs=>?_,fun c hc=>?_,fun j c hj=>?_,fun _ T h=>.inl ⟨T,h,.inl C⟩,fun t T _ h h'=>.inr (.inr ⟨t,T,h,h'⟩),fun j c hj hc hc'=>?_⟩
  . have hcl:=Y1 hs
    have hcb:c≠b:=fun e=>hf.2.1 i (by rw[hbl,e])
    refine⟨⟨hf.1,fun j hj=>?_,hf.2.2⟩,L3 (hne c hcl hcb) o⟩
    simp only[Gh.addb]at hj
    split at hj
    . cases hj
      rcases hbb with e2|e2
      . exact hcb e2
      . omega
    . exact hf.2.1 j hj
  . rcases D5 c w.heap.size with h1|h1
    . exact hne c h1 fun e=>hc (.inr (.inl ⟨i,e ▸ hbl⟩))
    . exact G5 (.inl h1) hc
  . simp only[Gh.addb]at hj
    split at hj
    . rename_i e
      cases hj
      refine .inr ⟨e ▸ hsm,?_⟩
      rcases hbb with e2|e2
      . exact .inr (.inl ⟨i,e2 ▸ hbl⟩)
      . exact .inl e2
    . exact .inl hj
  . have hji:j≠i:=fun e=>hj (e ▸ hsm)
    exact J9 (hothers j c hji hc).2
 have srep:∀ v x,SRep g w v x->SRep (g.addb i b') w' v (x.kill i):=fun v x hx=>
  (hx.le (GL i x)).extp ev.fx (fun j hj c hc=>by
   simp only[Gh.addb]
   rw[B5 (Cc hj).2]
   exact hc) (fun t' k' es e T' hT'=>⟨T',hT',.inl C⟩) fun j hj c hc=>J9 (hothers j c (Cc hj).2 hc).2
 obtain⟨-,hk⟩:=h.kill i
 have hxs:∀ (j:Nat) c,(vs.map fun u=>SV.d (.val u))[j]? = some c->∃ x,xs[j]? = some x∧SRep (g.addb i b') w' x c:=fun j c hj=>by
  rw[C6,C7]at hj
  obtain⟨u,hu,rfl⟩:=hj
  obtain⟨h1,h2⟩:=hx j u hu
  exact⟨u,h1,DRep.val u h2⟩
 refine { hk with evo:=h.evo.trans ev,defers:=h.defers.evo ev,base:=D9 h.base hb0.size,f0:=h.f0,lim:=hk.lim,size:=hk.size,glob:=fun q cs hq=>srep _ (.rd cs) (h.glob q cs hq),slots:=fun j=>?_,boxes:=fun j cs' hj hj5=>?_,maps:=fun j ms hj hge=>?_,blk:=fun j c hj=>?_,dom:=fun j c hj=>?_,inj:=fun j k c hj hk=>?_,toks:=fun t' T' hT'=>?_,tf0:=h.tf0,telt:=h.telt,tdis:=h.tdis,tdom:=h.tdom,tlen:=h.tlen }
 . show SRep _ w' _ ((st.kill i).get j)
   rw[EH]
   exact srep _ _ (h.slots j)
 . rw[K7]at hj
   by_cases e:j=i
   . rw[B9 e]at hj
     cases hj
     refine⟨b',xs,T,by simp[Gh.addb,e],hheap,by simpa using hl,hxs,fun q u hq hu=>?_⟩
     rw[A8]at hq
     have h1:=hx q _ (A4 hq)
     rw[h1.1]at hu
     cases hu
     exact h1.2
   . rw[B5 e]at hj
     rw[R9,B5 e,C7]at hj
     obtain⟨cs0,q1,rfl⟩:=hj
     obtain⟨c,ys,T',q2,q3,q4,q5,q6⟩:=h.boxes j cs0 q1 hj5
     refine⟨c,ys,T',by simp[Gh.addb,e,q2],(hothers j c e q2).2.trans q3,by simpa using q4,fun q c0 hq=>?_,fun q u hq hu=>q6 q u (by simpa using hq) hu⟩
     rw[C6,C7]at hq
     obtain⟨c1,q7,rfl⟩:=hq
     obtain⟨x,q8,q9⟩:=q5 q c1 q7
     exact⟨x,q8,srep _ _ q9⟩
 . have e:j≠i:=by omega
   rw[K7,B5 e,R9,B5 e,C7]at hj
   obtain⟨cs0,q1,q2⟩:=hj
   have q3:=GK q2
   subst q3
   obtain⟨c,es,c',q4,q5,q6⟩:=h.maps j ms q1 hge
   exact⟨c,es,c',by simp[Gh.addb,e,q4],(hothers j c e q4).2.trans q5,q6.mono ev.fx⟩
 . simp only[Gh.addb]at hj
   split at hj
   . cases hj
     refine⟨fun o=>?_,hbs⟩
     rcases hbb with e2|e2
     . rw[e2];exact(h.blk i b hbl).1 o
     . exact h.f0 _ o (D9 h.base e2)
   . exact⟨(h.blk j c hj).1,I9 (h.blk j c hj).2 hb0.size⟩
 . rw[K7]
   simp only[Gh.addb]at hj
   split at hj
   . rename_i e;simp[e]
   . rename_i e
     rw[B5 e,R9,B5 e]
     have:=h.dom j c hj
     cases q:st.bget j with
     | none=>exact G5 q this
     | some x=>simp
 . simp only[Gh.addb]at hj hk
   split at hj<;>split at hk
   . omega
   . rename_i e1 e2;cases hj;exact G5 C (hothers k _ e2 hk).1
   . rename_i e1 e2;cases hk;exact G5 C (hothers j _ e1 hj).1
   . exact h.inj j k c hj hk
 . obtain⟨⟨n,ys,h1⟩,h2⟩:=h.toks t' T' hT'
   have h3:∀ c,T'.v.ownBlock=some c->c≠b∧c<w.heap.size:=fun c hc=>⟨fun e=>h2 i b (e ▸ hc) hbl,(h1.lt c hc).2⟩
   refine⟨⟨n,ys,M8 h1 fun c hc=>hne c (h3 c hc).2 (h3 c hc).1⟩,fun j c hc hj=>?_⟩
   simp only[Gh.addb]at hj
   split at hj
   . cases hj
     have:=h3 _ hc
     rcases hbb with e2|e2
     . exact this.1 e2
     . omega
   . exact h2 j c hc hj
section
variable {P:Program} {ops:Array Oper} {K:PS->Prop} {rest:List Oper} {st:PS} {ty:TypeId} {pos:String} {af:Array Edge} {gd:Option (Nat×Bool)}
theorem IX {k m:Nat} {news:List Value} (hes:O9 k m (vs.map .val)=es) (hvl:vs.length=m*k) (hnl:news.length=es.length*k)
 (h:∀ (i j:Nat) e z,es[i]? = some e->e[j]? = some z->∃ u,news[i*k+j]? = some u∧DRep F w u z):news=vs:=by
 have hm:es.length=m:=by rw[<-hes,S8]
 refine List.ext_getElem? fun j=>?_
 by_cases hj:j<m*k
 . have hk0:0<k:=by
    rcases H7 k with h0|h0
    . rw[h0,Nat.mul_zero]at hj;omega
    . exact h0
   have hq:j / k<es.length:=by rw[hm];exact Nat.div_lt_of_lt_mul (by rw[Nat.mul_comm];exact hj)
   have hr:j % k<k:=Nat.mod_lt _ hk0
   have he:=A4 hq
   have hlen:es[j / k].length=k:=by
    have:=DE k m (vs.map .val) (by simpa using hvl)
    exact this _ (by rw[hes];exact List.getElem_mem hq)
   have hx:=A4 (l:=es[j / k]) (i:=j % k) (by omega)
   obtain⟨u,t1,t2⟩:=h _ _ _ _ he hx
   have t3:=(Bh k m (vs.map .val) (j / k) (j % k) es[j / k] _ (by rw[hes];exact he) hx (by simpa using hvl)).1
   have e:j / k*k+j % k=j:=by rw[Nat.mul_comm];exact Nat.div_add_mod j k
   rw[e]at t1 t3
   rw[C6,C7]at t3
   obtain⟨u',t4,t5⟩:=t3
   rw[<-t5]at t2
   rw[t1,t4,DRep.val_eq t2]
 . rw[I0 (by rw[hnl,hm];omega),I0 (by omega)]
theorem yTn {T E k bytes m e:Nat} {x y:Operand} [hA:AppOf P T E k bytes] (h0:0<m) (_:0<k) (hb:m*bytes<=140737488351232) (hm:m<=140737488351232) (hes:O9 k m (vs.map .val)=es) (hvl:vs.length=m*k) (hx:st.ev x=.d (.val (.slice none 0 0))) (hy:asSl (st.ev y)=some (k,es)) (hi:st.bget e=none)
 (h:YR P true ops K rest ((st.bput e (vs.map fun u=>.d (.val u))).put (some e) (.bs e m E k))) (hd:I1 ⟨some e,.call { callee:=.builtin .append,args:=#[x,y],argTypes:=#[T,T] },ty,pos,af,gd⟩ st=true:=by kernel_rfl) (hw:st.want ops ⟨some e,.call { callee:=.builtin .append,args:=#[x,y],argTypes:=#[T,T] },ty,pos,af,gd⟩=some true:=by rfl):
 YR P true ops K (⟨some e,.call { callee:=.builtin .append,args:=#[x,y],argTypes:=#[T,T] },ty,pos,af,gd⟩::rest) st:=by
 refine .any C fun B w0 Q hQ g a w hr=>?_
 have h1:=hr.eval x
 rw[hx]at h1
 have h1:=DRep.val_eq h1
 obtain⟨A2,c2,news,hv2,hl2,hcell2,hone2,hrep2⟩:=Do hr hy
 have hel:es.length=m:=by rw[<-hes,S8]
 obtain rfl:=IX hes hvl hl2 hrep2
 obtain⟨ti,z,q1,q2,q3,q4,q5⟩:=hA.inf
 obtain⟨v',w',r1,r2,r3,r4,r5,r6,r7⟩:=Cp (P:=P) w w.heap.size T ty E ti z k bytes hA.und q1 q2 q3 q4 q5 (.slice none 0 0) 0 [] (World.ownsRow_nil _ _ _ _) A2 es.length c2 news hl2 (fun h0=>by
  obtain⟨b,off,rfl,hcell⟩:=hcell2 h0
  exact⟨_,C,fun j u hj=>by rw[Addr.add_lit];exact hcell j u hj⟩) hone2 (by unfold maxLen;omega) (by rw[hel,E4];omega) (E0 _)
 rw[E4,List.nil_append,hel]at r2
 obtain⟨hxl,(⟨-,q0⟩|⟨gb,cap,cur,rfl,t1,t2,t3,t4,t5,t6⟩)⟩:=r2
 . omega
 have hin:e<st.n:=H6 hd e rfl
 have hcur:∀ (j:Nat) (u:Value),news[j]? = some u->cur[j]? = some u∧u.oneCell'=true:=fun j u hj=>by
  refine⟨?_,hone2 u (B8 hj)⟩
  rw[<-t6]at hj
  have hj':j<m*k:=by have:=(A6.1 hj).1;rw[F4]at this;omega
  rw[E8 hj']at hj
  simpa using hj
 have hbel:Below w.heap.size w w':=⟨r3.os,r3.tape,r3.output,r3.size,fun k hk=>r4 k hk (by simp[Value.ownBlock])⟩
 obtain⟨ev,hr'⟩:=hr.adopt e gb E hi hin hbel t1 cur t2 (news.map fun u=>.d (.val u)) (by rw[A8,hvl,t5];exact Nat.mul_le_mul_right _ t3) (fun _ j c hj=>by
  rw[C6,C7]at hj
  obtain⟨u,hu,rfl⟩:=hj
  exact⟨u,(hcur j u hu).1,DRep.val u (hcur j u hu).2⟩) (fun j u hj hu=>by
  rw[A8]at hj
  have:=hcur j _ (A4 hj)
  rw[this.1]at hu
  cases hu
  exact this.2)
 have hrun:(execOp a.eval ⟨some e,.call { callee:=.builtin .append,args:=#[x,y],argTypes:=#[T,T] },ty,pos,af,gd⟩).run P w=.ok (.value (.slice (some ⟨gb,0,none⟩) m cap)) w':=by
  simp only[execOp,resolve,invoke,builtin,Sem.run_bind,Sem.run_pure,D4,List.map_toArray,List.map_cons,List.map_nil,h1,hv2,r1]
 unfold wpList
 rw[B9 (M4 hr hw)]
 refine .inl ?_
 unfold Oper.wp
 rw[hrun]
 refine h.sound hQ (hr'.put (x:=.bs e m E k) ⟨gb,cap,by simp[Gh.addb],rfl,t3,t4,by simp[World.shape?,t2,t5]⟩ _ ?_)
 intro j hj
 exact H6 (st:=st) hd j hj
theorem Mn (hr:Rep B w0 g st a w) {i n E k:Nat} (hlt:i<500000) (hv:SRep g w v (.bs i n E k)) (hi:st.bget i=some (vs.map fun u=>.d (.val u))) (hn:vs.length=n*k):
 ∃ b c xs,g.bl i=some b∧v=.slice (some ⟨b,0,none⟩) n c∧n<=c∧c<=maxLen∧w.heap[b]? = some (.cells xs E (0,0))∧xs.size=c*k∧w.ownsRow 0 E k v n vs ∧ ∀ u∈vs,u.oneCell'=true:=by
 obtain⟨b,c,q1,q2,q3,q4,q5⟩:=hv
 obtain⟨b',xs,T,q6,q7,q8,q9,q10⟩:=hr.boxes i _ hi hlt
 rw[q1]at q6
 cases q6
 have hsh:T=E∧xs.size=c*k:=by
  simp only[World.shape?,q7,Option.some.injEq,Prod.mk.injEq]at q5
  exact q5
 obtain⟨rfl,hsz⟩:=hsh
 rw[A8]at q8 q10
 have hxv:∀ (j:Nat) u,vs[j]? = some u->xs[j]? = some u∧u.oneCell'=true:=fun j u hj=>by
  obtain⟨u',t1,t2⟩:=q9 j (.d (.val u)) (by rw[C6,hj];rfl)
  have t3:=DRep.val_eq t2
  subst t3
  exact⟨t1,q10 j u' (A6.1 hj).1 t1⟩
 have hone:∀ u∈vs,u.oneCell'=true:=fun u hu=>by
  obtain⟨j,hj⟩:=List.mem_iff_getElem?.1 hu
  exact(hxv j u hj).2
 refine⟨b,c,xs,q1,q2,q3,q4,q7,hsz,?_,hone⟩
 rw[q2]
 refine⟨hn,.inr ⟨b,c,xs,C,E7 _,q7,q3,q4,hsz,?_⟩⟩
 refine List.ext_getElem? fun j=>?_
 by_cases hj:j<n*k
 . rw[E8 hj]
   have hjv:=A4 (l:=vs) (i:=j) (by omega)
   rw[hjv]
   simpa using (hxv j _ hjv).1
 . rw[I0 (by simp;omega),I0 (by omega)]
theorem Lh {T E k bytes n m i e:Nat} {x y:Operand} {us:List Value} [hA:AppOf P T E k bytes] (h0:0<m) (hb:(n+m)*bytes<=140737488351232) (hm:n+m<=140737488351232) (hes:O9 k m (vs.map .val)=es) (hvl:vs.length=m*k) (hul:us.length=n*k) (hx:st.ev x=.bs i n E k) (hi:st.bget i=some (us.map fun u=>.d (.val u))) (hy:asSl (st.ev y)=some (k,es))
 (h:YR P true ops K rest (((st.kill i).bput i ((us++vs).map fun u=>.d (.val u))).put (some e) (.bs i (n+m) E k))) (hd:I1 ⟨some e,.call { callee:=.builtin .append,args:=#[x,y],argTypes:=#[T,T] },ty,pos,af,gd⟩ st=true:=by kernel_rfl) (hw:st.want ops ⟨some e,.call { callee:=.builtin .append,args:=#[x,y],argTypes:=#[T,T] },ty,pos,af,gd⟩=some true:=by rfl) (hlt:Nat.blt i 500000=true:=by rfl) (hsm:Nat.blt (i % 500000) 10000=true:=by rfl):
 YR P true ops K (⟨some e,.call { callee:=.builtin .append,args:=#[x,y],argTypes:=#[T,T] },ty,pos,af,gd⟩::rest) st:=by
 have hlt5:i<500000:=C0 hlt
 have hsm5:Oe i:=C0 hsm
 clear hlt hsm
 refine .any C fun B w0 Q hQ g a w hr=>?_
 have h1:=hr.eval x
 rw[hx]at h1
 obtain⟨b,c,xs,p1,p2,p3,p4,p5,p6,p7,p8⟩:=Mn hr hlt5 h1 hi hul
 obtain⟨A2,c2,news,hv2,hl2,hcell2,hone2,hrep2⟩:=Do hr hy
 have hel:es.length=m:=by rw[<-hes,S8]
 obtain rfl:=IX hes hvl hl2 hrep2
 obtain⟨ti,z,q1,q2,q3,q4,q5⟩:=hA.inf
 obtain⟨v',w',r1,r2,r3,r4,r5,r6,r7⟩:=Cp (P:=P) w 0 T ty E ti z k bytes hA.und q1 q2 q3 q4 q5 (a.eval x) n us p7 A2 es.length c2 news hl2 (fun h0=>by
  obtain⟨b,off,rfl,hcell⟩:=hcell2 h0
  exact⟨_,C,fun j u hj=>by rw[Addr.add_lit];exact hcell j u hj⟩) hone2 (by unfold maxLen;omega) (by rw[hel];omega) (E7 _)
 rw[hel]at r2
 obtain⟨hxl,(⟨-,q0⟩|⟨gb,cap,cur,rfl,t1,t2,t3,t4,t5,t6⟩)⟩:=r2
 . omega
 have hob:(a.eval x).ownBlock=some b:=by rw[p2];rfl
 have hbb:gb=b∨w.heap.size<=gb:=by
  rcases r6 with r6|r6
  . rw[hob]at r6;exact .inl (by simpa[Value.ownBlock]using r6)
  . exact .inr (by have:gb=w.heap.size:=by simpa[Value.ownBlock]using r6
                   omega)
 have hcur:∀ (j:Nat) (u:Value),(us++news)[j]? = some u->cur[j]? = some u∧u.oneCell'=true:=fun j u hj=>by
  refine⟨?_,?_⟩
  . rw[<-t6]at hj
    have hj':j<(n+m)*k:=by have:=(A6.1 hj).1;rw[F4]at this;omega
    rw[E8 hj']at hj
    simpa using hj
  . rcases List.mem_append.1 (B8 hj)with q|q
    . exact p8 u q
    . exact hone2 u q
 have hr':=hr.rebox hlt5 hsm5 p1 r3 (fun k hk hne=>r4 k hk (by rw[hob];exact fun e=>hne (J0 e).symm)) hbb cur t2 (us++news) (by rw[hxl,t5];exact Nat.mul_le_mul_right _ t3) hcur
 have hrun:(execOp a.eval ⟨some e,.call { callee:=.builtin .append,args:=#[x,y],argTypes:=#[T,T] },ty,pos,af,gd⟩).run P w=.ok (.value (.slice (some ⟨gb,0,none⟩) (n+m) cap)) w':=by
  simp only[execOp,resolve,invoke,builtin,Sem.run_bind,Sem.run_pure,D4,List.map_toArray,List.map_cons,List.map_nil,hv2,r1]
 unfold wpList
 rw[B9 (M4 hr hw)]
 refine .inl ?_
 unfold Oper.wp
 rw[hrun]
 refine h.sound hQ (hr'.put (x:=.bs i (n+m) E k) ⟨gb,cap,by simp[Gh.addb],rfl,t3,t4,by simp[World.shape?,t2,t5]⟩ _ ?_)
 intro j hj
 exact H6 (st:=st) hd j hj
end
def Rcl (k:Nat) (es:List (List DV)) (F:Nat->Nat->Prop) (w:World) (v:Value):Prop:=DRep F w v (.sl k es) ∧ ∃ A,v=.slice A es.length es.length
theorem Rcl.mono {k:Nat} (F F':Nat->Nat->Prop) (w w':World) (v:Value) (h:Rcl k es F w v) (hk:Kp F w F' w'):Rcl k es F' w' v:=⟨h.1.mono hk,h.2⟩
theorem DRep.cap {A A':Option Addr} {n c c' k:Nat} (h:DRep F w (.slice A n c) (.sl k es)) (hc:n<=c') (hA:0<n->A'=A):DRep F w (.slice A' n c') (.sl k es):=by
 obtain⟨A0,c0,news,hv,h1,h2,h3,h4,h5,h6,h7⟩:=DRep.row h
 obtain⟨e1,e2,e3⟩:=Value.slice.inj hv
 subst e1 e2 e3
 exact DRep.of_row (xs:=news) hc h2 h3 (fun h0=>by rw[hA h0];exact h5 h0) h6 h7
theorem add_zero (k:Nat) (A:Option Addr):A.map (·.add (0*k))=A:=by
 cases A with
 | none=>rfl
 | some a=>simp[Addr.add]
section
variable {P:Program} {sq:Bool} {ops:Array Oper} {K:PS->Prop} {rest:List Oper} {st:PS} {d:Option Nat} {op:Op} {ty:TypeId} {pos:String} {af:Array Edge} {gd:Option (Nat×Bool)} {q:Nat×Bool}
end
section
variable {P:Program} {ops:Array Oper} {K:PS->Prop} {rest:List Oper} {st:PS} {ty:TypeId} {pos:String} {af:Array Edge} {gd:Option (Nat×Bool)}
variable {Q:Exit->PS->Prop} {c:Code}
end
section
variable {P:Program} {sq:Bool} {ops:Array Oper} {K:PS->Prop} {rest:List Oper} {st:PS} {d:Option Nat} {ty:TypeId} {pos:String} {af:Array Edge} {gd:Option (Nat×Bool)}
theorem ls_nil (x:Operand) {i off:Nat} (hx:st.ev x=.bx i off) (hd:I1 ⟨d,.nilCheck x,ty,pos,af,gd⟩ st=true):M6 P ⟨d,.nilCheck x,ty,pos,af,gd⟩ st (.bx i off) .no:=fun st2 ha=>
 OpS.value (ha.dst hd) fun _ _ g a w h=>by
  have h1:=h.eval x
  rw[ha.ev x (by simp[Op.operands]),hx]at h1
  obtain⟨b,h2,h3⟩:=h1
  refine⟨.pointer (some ⟨b,off,none⟩),w,?_,Below.refl _ _,b,h2,C⟩
  simp[execOp,h3]
theorem yNil {x:Operand} {i off:Nat} (hx:st.ev x=.bx i off) (h:YR P sq ops K rest (st.put d (.bx i off))) (zz:zk ops st ⟨d,.nilCheck x,ty,pos,af,gd⟩ .no=true:=by kernel_rfl):
 YR P sq ops K (⟨d,.nilCheck x,ty,pos,af,gd⟩::rest) st:=M3 (ls_nil x hx (zd zz)) (zo zz) (zw zz) h
end
section
variable {P:Program} {sq:Bool} {ops:Array Oper} {K:PS->Prop} {rest:List Oper} {st:PS} {d:Option Nat} {op:Op} {ty:TypeId} {pos:String} {af:Array Edge} {gd:Option (Nat×Bool)} {q:Nat×Bool}
theorem DRep.fresh {w':World} (h:Rep B w0 g st a w) (hb:Below w.heap.size w w') {E k n:Nat} {xs:List Value} (hown:w'.ownsRow w.heap.size E k v n xs) (hn:es.length=n) (h0:0<n) (hm:n<=9223372036854775807) (hk:∀ e∈es,e.length=k) (h1:∀ u∈xs,u.oneCell'=true)
 (hrep:∀ (i j:Nat) e x,es[i]? = some e->e[j]? = some x->∃ u,xs[i*k+j]? = some u∧DRep (Fx g) w u x):DRep (Fx g) w' v (.sl k es):=by
 subst hn
 have e0:=(Ext.grow h hb).fx
 obtain⟨A,c,h2,h3,h4⟩:=V4 hown
 rcases hown.2 with⟨e6,e7⟩|⟨gb,cap,cur,e6,e7,e8,-⟩
 . rw[e6]at h2
   have:=(Value.slice.inj h2).2.1
   omega
 . have e9:A=some ⟨gb,0,none⟩:=(Value.slice.inj (h2.symm.trans e6)).1
   rw[h2]
   refine DRep.of_row (xs:=xs) h3 hm hk (fun _=>⟨gb,0,e9,fun j u hj=>⟨?_,?_⟩⟩) h1 fun i j e x he hx=>?_
   . rw[E4];exact AF hown (by rw[e6];rfl) j u hj
   . refine⟨h.f0 _ _ (D9 h.base e7),fun i' hi'=>?_,fun t T n' c' hT hv=>?_⟩
     . have:=(h.blk i' _ hi').2;omega
     . obtain⟨⟨n'',ys,h8⟩,-⟩:=h.toks t T hT
       have:=(h8.lt gb (by rw[hv];rfl)).2
       omega
   . obtain⟨u,h8,h9⟩:=hrep i j e x he hx
     exact⟨u,h8,h9.mono e0⟩
end
end Go.Proofs.YtddfimjiihggmaaGreatDoor.Px
namespace Go.Proofs.YtddfimjiihggmaaGreatDoor
open Go.RowKit Px
variable {kd:IntKind}
section
variable {P:Program} {sq:Bool} {ops:Array Oper} {K:PS->Prop} {rest:List Oper} {st:PS} {d:Option Nat} {ty:TypeId} {pos:String} {af:Array Edge} {gd:Option (Nat×Bool)}
theorem Jb (T:TypeId) (x y:Operand) {E k:Nat} [hS:SliceOf P T E k] (hx:st.ev x=.d (.val (.slice none 0 0))) (hy:st.ev y=.d (.val (.int kd 0))) (hd:I1 ⟨d,.slice T x none (some y) none,ty,pos,af,gd⟩ st=true):
 M6 P ⟨d,.slice T x none (some y) none,ty,pos,af,gd⟩ st (.d (.val (.slice none 0 0))) .no:=fun st2 ha=>
 OpS.value (ha.dst hd) fun _ _ g a w h=>by
  have h1:=h.eval x
  rw[ha.ev x (by simp[Op.operands]),hx]at h1
  have h2:=h.eval y
  rw[ha.ev y (by simp[Op.operands]),hy]at h2
  refine⟨.slice none 0 0,w,?_,Below.refl _ _,DRep.val _ C⟩
  simp[execOp,Instr.sliceAt,Instr.slice,Instr.sliceBounds,Instr.sliceBound,DRep.val_eq h1,DRep.val_eq h2,asIntOf,hS.und,hS.size]
theorem MO (T:TypeId) (x:Operand) {E k:Nat} [hS:SliceOf P T E k] (hx:st.ev x=.d (.val (.slice none 0 0))) (hd:I1 ⟨d,.call { callee:=.builtin .len,args:=#[x],argTypes:=#[T] },ty,pos,af,gd⟩ st=true):
 M6 P ⟨d,.call { callee:=.builtin .len,args:=#[x],argTypes:=#[T] },ty,pos,af,gd⟩ st (.d (.val (.int .i64 0))) .no:=fun st2 ha=>
 OpS.value (ha.dst hd) fun _ _ g a w h=>by
  have h1:=h.eval x
  rw[ha.ev x (by simp[Op.operands,Call.operands]),hx]at h1
  refine⟨.int .i64 0,w,?_,Below.refl _ _,DRep.val _ C⟩
  simp[execOp,resolve,invoke,builtin,Builtin.len_,DRep.val_eq h1,hS.und,goInt]
theorem ySz {T E k:Nat} {x y:Operand} [SliceOf P T E k] (hx:st.ev x=.d (.val (.slice none 0 0))) (hy:st.ev y=.d (.val (.int kd 0))) (h:YR P sq ops K rest (st.put d (.d (.val (.slice none 0 0))))) (zz:zk ops st ⟨d,.slice T x none (some y) none,ty,pos,af,gd⟩ .no=true:=by kernel_rfl):
 YR P sq ops K (⟨d,.slice T x none (some y) none,ty,pos,af,gd⟩::rest) st:=M3 (Jb T x y hx hy (zd zz)) (zo zz) (zw zz) h
theorem yNl {T E k:Nat} {x:Operand} [SliceOf P T E k] (hx:st.ev x=.d (.val (.slice none 0 0))) (h:YR P sq ops K rest (st.put d (.d (.val (.int .i64 0))))) (zz:zk ops st ⟨d,.call { callee:=.builtin .len,args:=#[x],argTypes:=#[T] },ty,pos,af,gd⟩ .no=true:=by kernel_rfl):
 YR P sq ops K (⟨d,.call { callee:=.builtin .len,args:=#[x],argTypes:=#[T] },ty,pos,af,gd⟩::rest) st:=M3 (MO T x hx (zd zz)) (zo zz) (zw zz) h
end
section
variable {P:Program} {ops:Array Oper} {K:PS->Prop} {rest:List Oper} {st:PS} {ty:TypeId} {pos:String} {af:Array Edge} {gd:Option (Nat×Bool)}
variable {B:Nat} {w0:Cx} {Q:Exit->PS->Prop} {c:Code}
end
end Go.Proofs.YtddfimjiihggmaaGreatDoor
namespace Go.Proofs.YtddfimjiihggmaaGreatDoor.Px
open Go.RowKit Go.ChangeShapes
variable {t:TypeId}
inductive CK where
 | i (k:IntKind)
 | s
 | b
def CK.is:CK->Value->Bool
 | .i k,.int k' _=>decide (k'=k)
 | .s,.string _=>true
 | .b,.bool _=>true
 | _,_=>false
def CK.ty (P:Program) (c:CK) (t:TypeId):Bool:=match c,P.underlying t with
 | .i k,some (.int k')=>decide (k=k')
 | .s,some .string=>true
 | .b,some .bool=>true
 | _,_=>false
def veq:Value->Value->Bool
 | .int _ a,.int _ b=>a==b
 | .string a,.string b=>a.toList==b.toList
 | .bool a,.bool b=>a==b
 | _,_=>false
def Lo:List Value->List Value->Bool
 | [],[]=>true
 | x::xs,y::ys=>veq x y&&Lo xs ys
 | _,_=>false
def LB:List CK->List Value->Bool
 | [],[]=>true
 | c::cs,x::xs=>c.is x&&LB cs xs
 | _,_=>false
section
variable {P:Program} (w:World)
theorem CK.plain {c:CK} (h:c.ty P t=true):P.plainKey t=true:=by
 unfold CK.ty at h
 unfold Program.plainKey
 cases e:P.underlying t with
 | none=>rw[e]at h;cases c<;>simp at h
 | some d=>rw[e]at h;cases c<;>cases d<;>simp at h ⊢
theorem run_veq {c:CK} (h:c.ty P t=true) {x y:Value} (hx:c.is x=true) (hy:c.is y=true) (d:Nat):(Op.equalIn (d+1) t x y).run P w=.ok (veq x y) w:=by
 unfold CK.ty at h
 cases e:P.underlying t with
 | none=>rw[e]at h;cases c<;>simp at h
 | some u=>
  rw[e]at h
  cases c with
  | i k=>
   cases u<;>simp at h
   subst h
   cases x<;>simp[CK.is]at hx
   cases y<;>simp[CK.is]at hy
   subst hx hy
   exact run_equalIn_int w d t _ _ _ _ e
  | s=>
   cases u<;>simp at h
   cases x<;>simp[CK.is]at hx
   cases y<;>simp[CK.is]at hy
   exact run_equalIn_string w d t _ _ e
  | b=>
   cases u<;>simp at h
   cases x<;>simp[CK.is]at hx
   cases y<;>simp[CK.is]at hy
   exact run_equalIn_bool' w d t _ _ e
def GP (P:Program):Nat->List CK->List Field->Bool
 | _,[],[]=>true
 | off,c::cs,f::fs=>c.ty P f.type&&Nat.beq f.offset off && !(f.name == "_")&&GP P (off+1) cs fs
 | _,_,_=>false
theorem DQ (d:Nat) (xs ys:Array Value):∀ (cs:List CK) (fs:List Field) (off:Nat),GP P off cs fs=true->∀ la lb:List Value,LB cs la=true->LB cs lb=true->(∀ (j:Nat) v,la[j]? = some v->xs[off+j]? = some v)->(∀ (j:Nat) v,lb[j]? = some v->ys[off+j]? = some v) →
 (Op.eqFields (d+1) xs ys fs).run P w=.ok (Lo la lb) w
 | [],[],off,_,la,lb,ha,hb,_,_=>by
  cases la with
  | nil=>cases lb with
   | nil=>simp[Op.eqFields,Lo]
   | cons=>cases hb
  | cons=>cases ha
 | [],_::_,_,h,_,_,_,_,_,_=>by cases h
 | _::_,[],_,h,_,_,_,_,_,_=>by cases h
 | c::cs,f::fs,off,h,la,lb,ha,hb,hxs,hys=>by
  cases la with
  | nil=>cases ha
  | cons a la=>
   cases lb with
   | nil=>cases hb
   | cons b lb=>
    simp only[GP,LB,D1]at h ha hb
    obtain⟨⟨⟨h1,h2⟩,h3⟩,h4⟩:=h
    have h2:=F8 h2
    have hn:f.name ≠ "_":=by simpa using h3
    have p1:=run_part_plain w (CK.plain h1) (xs:=xs) (off:=f.offset) (v:=a) (by rw[h2];exact hxs 0 a C)
    have p2:=run_part_plain w (CK.plain h1) (xs:=ys) (off:=f.offset) (v:=b) (by rw[h2];exact hys 0 b C)
    have p3:=run_veq w h1 ha.1 hb.1 d
    have ih:=DQ d xs ys cs fs (off+1) h4 la lb ha.2 hb.2 (fun j v hj=>by rw[show off+1+j=off+(j+1)by omega];exact hxs (j+1) v hj) fun j v hj=>by rw[show off+1+j=off+(j+1)by omega];exact hys (j+1) v hj
    simp only[Op.eqFields,hn,ne_eq,not_false_eq_true,if_true,Sem.run_bind,p1,p2,p3,D4,Lo]
    cases veq a b
    . simp
    . simpa using ih
end
class EqOf (P:Program) (T:TypeId) (cs:outParam (List CK)):Prop where
 run:∀ (w:World) (la lb:List Value),LB cs la=true->LB cs lb=true->(Op.equalIn 10000 T (.agg la.toArray) (.agg lb.toArray)).run P w=.ok (Lo la lb) w
 guard:P.eqGuardType P.depth T=false
theorem LF {P:Program} {T:TypeId} {cs:List CK} (h:(match P.underlying T with|some (.struct fs)=>GP P 0 cs fs.toList|_=>false)=true) (hp:P.stoodInHeld T=false) (hg:P.eqGuardType P.depth T=false):EqOf P T cs:=by
 refine⟨fun w la lb ha hb=>?_,hg⟩
 cases hu:P.underlying T with
 | none=>rw[hu]at h;cases h
 | some u=>
  rw[hu]at h
  cases u with
  | struct fs=>
   have hf:P.fieldsOf T=fs:=by simp[Program.fieldsOf,hu]
   rw[show(10000:Nat)=9999+1 from rfl,run_equalIn_agg w 9999 T _ _ (by rw[hf];exact hu) hp,hf]
   exact DQ w 9998 _ _ cs fs.toList 0 h la lb ha hb (fun j v hj=>by simpa using hj) fun j v hj=>by simpa using hj
  | _=>cases h
section
variable {P:Program} {sq:Bool} {ops:Array Oper} {K:PS->Prop} {rest:List Oper} {st:PS} {d:Option Nat} {ty:TypeId} {pos:String} {af:Array Edge} {gd:Option (Nat×Bool)}
theorem yBx {t t':Nat} {x y:Operand} {cs ds:List DV} {vs us:List Value} {ks:List CK} [hE:EqOf P t ks] (hv:LB ks vs=true) (hu:LB ks us=true) (hx:st.ev x=.d (.agg cs)) (hcx:Da cs=some vs) (hy:st.ev y=.d (.agg ds)) (hcy:Da ds=some us)
 (h:YR P sq ops K rest (st.put d (.d (.val (.bool (!Lo vs us)))))) (zz:zk ops st ⟨d,.binOp .neq t x y t',ty,pos,af,gd⟩ .no=true:=by kernel_rfl):YR P sq ops K (⟨d,.binOp .neq t x y t',ty,pos,af,gd⟩::rest) st:=
 yBA (fun w=>by rw[Sem.run_bind,run_eqGuard_agg w _ _ _ _ _ _ hE.guard,D4,run_neq_struct,hE.run w vs us hv hu];rfl) rfl hx hcx hy hcy h zz
end
theorem NG (a b:List UInt8):veq (vS a) (vS b)=(a==b):=by
 show((ByteArray.mk a.toArray).toList==(ByteArray.mk b.toArray).toList)=(a==b)
 rw[T4,T4]
end Go.Proofs.YtddfimjiihggmaaGreatDoor.Px
namespace Go.Proofs.YtddfimjiihggmaaGreatDoor
open Go.Lib
variable {c:UInt8} {n:Int}
def T6 (c:UInt8):F6->Option (F6×F6)
 | []=>none
 | b::l=>if b=c then some ([],l)else (T6 c l).map fun p=>(b::p.1,p.2)
theorem AU {s:F6} {p:F6×F6} (h:T6 c s=some p):s=p.1++c::p.2:=by
 induction s generalizing p with
 | nil=>cases h
 | cons b l ih=>
  rw[T6]at h
  split at h
  . rename_i e;cases h;rw[e];rfl
  . rw[C7]at h
    obtain⟨q,h1,rfl⟩:=h
    rw[ih h1];rfl
theorem Dm (c:UInt8) (s:F6):indexByte s c=match T6 c s with|none=>-1|some p=>(p.1.length:Int):=by
 induction s with
 | nil=>rfl
 | cons b l ih=>
  rw[T6,indexByte]
  by_cases h:b=c
  . rw[B9 (by simpa using h),B9 h];rfl
  . rw[B5 (by simpa using h),B5 h,ih]
    cases T6 c l with
    | none=>rfl
    | some p=>
     show(if ((p.1.length:Int) == -1)=true then (-1:Int)else (p.1.length:Int)+1)=((b::p.1).length:Int)
     rw[B5 (by simp)]
     rfl
def R0 (c:UInt8) (s:F6):F6:=match T6 c s with|none=>s|some p=>p.1
def P7 (c:UInt8) (s:F6):F6:=match T6 c s with|none=>[]|some p=>p.2
def BL (c:UInt8) (s:F6):Bool:=(T6 c s).isSome
theorem V2 (c:UInt8) (s:F6):(R0 c s).length<=s.length∧(P7 c s).length<=s.length∧(BL c s=true->(P7 c s).length<s.length):=by
 unfold R0 P7 BL
 cases h:T6 c s with
 | none=>simp
 | some p=>
  have:=G4 List.length (AU h)
  simp at this
  simp
  omega
def R7 (c:UInt8):F6->List F6
 | []=>[[]]
 | b::l=>if b=c then []::R7 c l else match R7 c l with
  | []=>[[b]]
  | h::t=>(b::h)::t
theorem JD (c:UInt8) (s:F6):R7 c s≠[]:=by
 cases s with
 | nil=>simp[R7]
 | cons b l=>
  rw[R7]
  split
  . simp
  . split<;>simp
theorem Az (c:UInt8) (s:F6):R7 c s=match T6 c s with|none=>[s]|some p=>p.1::R7 c p.2:=by
 induction s with
 | nil=>rfl
 | cons b l ih=>
  rw[R7,T6]
  by_cases h:b=c
  . rw[B9 h,B9 h]
  . rw[B5 h,B5 h]
    cases e:T6 c l with
    | none=>rw[e]at ih;rw[ih];rfl
    | some p=>rw[e]at ih;rw[ih];rfl
theorem Si {a b:F6} (h:c ∉ a):T6 c (a++c::b)=some (a,b):=by
 induction a with
 | nil=>simp[T6]
 | cons x a ih=>
  simp only[List.mem_cons,not_or]at h
  rw[List.cons_append,T6,B5 (Ne.symm h.1),ih h.2]
  rfl
theorem Ev {a:F6}:T6 c a=none↔c ∉ a:=by
 induction a with
 | nil=>simp[T6]
 | cons x a ih=>
  rw[T6]
  by_cases h:x=c
  . rw[B9 h];simp[h]
  . rw[B5 h,Option.map_eq_none_iff,ih];simp[Ne.symm h]
theorem Mk {s:F6} {p:F6×F6} (h:T6 c s=some p):c ∉ p.1:=by
 induction s generalizing p with
 | nil=>cases h
 | cons b l ih=>
  rw[T6]at h
  split at h
  . cases h;simp
  . rename_i hb
    rw[C7]at h
    obtain⟨q,h1,rfl⟩:=h
    simp[ih h1,Ne.symm hb]
theorem spl_app {a b:F6} (h:c ∉ a):R7 c (a++c::b)=a::R7 c b:=by
 rw[Az,Si h]
theorem NN {a:F6} (h:c ∉ a):R7 c a=[a]:=by
 rw[Az,Ev.2 h]
theorem Ah (c:UInt8) (s:F6):(R7 c s).length<=s.length+1:=by
 induction s with
 | nil=>simp[R7]
 | cons b l ih=>
  rw[R7]
  split
  . simpa using ih
  . split
    . simp
    . rename_i e;rw[e]at ih;simp at ih ⊢;omega
theorem Co (c:UInt8) (s:F6):∀ t∈R7 c s,t.length<=s.length:=by
 induction s with
 | nil=>intro t ht;simp[R7]at ht;subst ht;simp
 | cons b l ih=>
  intro t ht
  rw[R7]at ht
  split at ht
  . rcases List.mem_cons.1 ht with rfl|ht
    . simp
    . have:=ih t ht;simp;omega
  . split at ht
    . rename_i e;exact G5 e (JD c l)
    . rename_i h t' e
      rcases List.mem_cons.1 ht with rfl|ht
      . have:=ih h (by rw[e];simp);simp;omega
      . have:=ih t (by rw[e];simp[ht]);simp;omega
theorem Gb (c:UInt8):∀ (k:Nat) (s:F6),s.count c=k->splitK [c] 0 k s=R7 c s
 | 0,s,h=>by
  have hn:c ∉ s:=by rwa [List.count_eq_zero]at h
  rw[splitK,NN hn]
 | k+1,s,h=>by
  rw[splitK,index_one,Dm,Az]
  cases e:T6 c s with
  | none=>
   have:=Ev.1 e
   rw[<-List.count_eq_zero]at this
   omega
  | some p=>
   have he:=AU e
   have hn:=Mk e
   have h2:p.2.count c=k:=by
    rw[he,List.count_append,List.count_cons_self,List.count_eq_zero.2 hn]at h
    omega
   simp only
   rw[B5 (by simp),H1]
   have h3:s.take (p.1.length+0)=p.1:=by conv=>lhs;rw[he];simp
   have h4:s.drop (p.1.length + [c].length)=p.2:=by conv=>lhs;rw[he];simp
   rw[h3,h4,Gb c k p.2 h2]
abbrev Pq:=Int×F6×List F6×F6
def kndL:List Pq:=[(1,[100,101,112,111,115,105,116],[[97,109,111,117,110,116]],[]),
 (2,[119,105,116,104,100,114,97,119],[[97,109,111,117,110,116]],[]),
 (3,[98,117,121],[[97,109,111,117,110,116],[102,101,101]],[42]),
 (4,[115,101,108,108],[[112,114,111,99,101,101,100,115],[99,111,115,116],[108,111,110,103,112,114,111,99,101,101,100,115],[108,111,110,103,99,111,115,116]],[42]),
 (5,[100,101,102,101,114],[[97,109,111,117,110,116]],[42]),
 (6,[105,110,99,111,109,101],[[97,109,111,117,110,116]],[42]),
 (7,[101,120,112,101,110,115,101],[[97,109,111,117,110,116]],[]),
 (8,[112,97,105,100],[[97,109,111,117,110,116]],[]),
 (9,[103,111,116],[[97,109,111,117,110,116]],[]),
 (10,[115,112,108,105,116],[[99,97,115,104],[99,111,115,116]],[42]),
 (11,[115,112,105,110,111,102,102],[[99,97,115,104],[99,111,115,116],[109,111,118,101,100]],[42,43]),
 (12,[101,120,99,104,97,110,103,101],[[99,97,115,104],[99,111,115,116],[98,97,115,105,115]],[42,43]),
 (13,[101,120,101,114,99,105,115,101],[[112,97,105,100],[109,111,118,101,100]],[42,43]),
 (14,[99,97,112,105,116,97,108],[[99,97,115,104],[99,111,115,116]],[42]),
 (15,[105,115,115,117,101],[[97,109,111,117,110,116]],[]),
 (16,[99,97,110,99,101,108],[[97,109,111,117,110,116]],[]),
 (17,[97,99,99,114,117,101],[[97,109,111,117,110,116]],[42]),
 (18,[97,109,111,114,116,105,122,101],[[97,109,111,117,110,116]],[42]),
 (19,[114,101,118,97,108,117,101],[[97,109,111,117,110,116]],[42])]
def Z0 (n:Int):Option Pq:=kndL.find? fun k=>k.1==n
def Df (w:F6):Option Pq:=kndL.find? fun k=>k.2.1==w
theorem Cr {w:F6} {k:Pq} (h:Df w=some k):k∈kndL∧k.2.1=w:=by
 refine⟨List.mem_of_find?_eq_some h,?_⟩
 have:=List.find?_some h
 simpa using this
theorem SF {k:Pq} (hk:k∈kndL):Df k.2.1=some k:=by
 have:(kndL.all fun k=>Df k.2.1==some k)=true:=by decide
 simpa using E5.1 this k hk
theorem Cb {k:Pq} (hk:k∈kndL):Z0 k.1=some k:=by
 have:(kndL.all fun k=>Z0 k.1==some k)=true:=by decide
 simpa using E5.1 this k hk
theorem BZ {k:Pq} (h:Z0 n=some k):k∈kndL∧k.1=n:=by
 refine⟨List.mem_of_find?_eq_some h,?_⟩
 have:=List.find?_some h
 simpa using this
theorem Ic {k:Pq} (hk:k∈kndL):32 ∉ k.2.1∧10 ∉ k.2.1∧k.2.1≠[]:=by
 have:∀ k∈kndL,32 ∉ k.2.1∧10 ∉ k.2.1∧k.2.1≠[]:=by decide
 exact this k hk
def Hu:F6:=[111,110]
def Q7:F6:=[100,101,98,105,116]
def N4:F6:=[99,114,101,100,105,116]
section
variable {X:Type}
abbrev RLn (X:Type):=F6×Bool×X
abbrev Dp (X:Type):=Int×List (RLn X)
variable (tp:F6->Bool) (pe:F6->Option X)
def Jt (l:RLn X):List (Dp X)->List (Dp X)
 | []=>[]
 | [r]=>[(r.1,r.2++[l])]
 | r::s::t=>r::Jt l (s::t)
theorem Ab (l:RLn X) (o:List (Dp X)) (r:Dp X):Jt l (o++[r])=o++[(r.1,r.2++[l])]:=by
 induction o with
 | nil=>rfl
 | cons a o ih=>
  cases o with
  | nil=>rfl
  | cons b o=>simp only[List.cons_append]at ih ⊢;rw[Jt,ih]
def Y5 (out:List (Dp X)) (s:F6):Option (List (Dp X)):=
 if R0 32 s=Hu then (Df (P7 32 s)).map fun k=>out++[(k.1,[])]
 else if R0 32 s=Q7∨R0 32 s=N4 then
  if BL 32 (P7 32 s)&&tp (R0 32 (P7 32 s)) && !out.isEmpty then (pe (P7 32 (P7 32 s))).map fun e=>Jt (R0 32 (P7 32 s),decide (R0 32 s=N4),e) out else none
 else none
def RE (s:F6):Option (RLn X):=
 match R7 32 s with
 | w::t::_::_=>if (w=Q7∨w=N4)∧tp t=true then (pe (s.drop (w.length+t.length+2))).map fun e=>(t,decide (w=N4),e)else none
 | _=>none
def HN (out:List (Dp X)) (s:F6):Option (List (Dp X)):=
 match R7 32 s with
 | [w,k]=>match Df k with
  | some n=>if w=Hu then some (out++[(n.1,[])])else none
  | none=>none
 | _=>match RE tp pe s with
  | some l=>if out.isEmpty then none else some (Jt l out)
  | none=>none
theorem line_eq (out:List (Dp X)) (s:F6):HN tp pe out s=Y5 tp pe out s:=by
 unfold HN Y5
 have h1:=Az 32 s
 cases e:T6 32 s with
 | none=>
  rw[e]at h1
  have e1:R0 32 s=s:=by rw[R0,e]
  have e2:P7 32 s=[]:=by rw[P7,e]
  have e3:BL 32 ([]:F6)=false:=rfl
  rw[e1,e2,h1,e3]
  have hk:Df []=none:=by decide
  simp only[RE,h1,hk,Option.map_none,Bool.false_and,Bool.false_eq_true,if_false]
  split<;>(try split)<;>rfl
 | some p=>
  obtain⟨w,r⟩:=p
  rw[e]at h1
  have e1:R0 32 s=w:=by rw[R0,e]
  have e2:P7 32 s=r:=by rw[P7,e]
  have hs:=AU e
  rw[e1,e2]
  simp only at h1 hs
  have h2:=Az 32 r
  cases e':T6 32 r with
  | none=>
   rw[e']at h2
   have e3:BL 32 r=false:=by rw[BL,e'];rfl
   rw[h1,h2,e3]
   simp only[Bool.false_and,Bool.false_eq_true,if_false]
   cases Df r with
   | none=>
    by_cases hw:w=Hu
    . rw[B9 hw];rfl
    . rw[B5 hw];simp
   | some k=>
    by_cases hw:w=Hu
    . rw[B9 hw];simp[hw]
    . rw[B5 hw];simp[hw]
  | some q=>
   obtain⟨t,x⟩:=q
   rw[e']at h2
   have hr:=AU e'
   have e3:BL 32 r=true:=by rw[BL,e'];rfl
   have e4:R0 32 r=t:=by rw[R0,e']
   have e5:P7 32 r=x:=by rw[P7,e']
   have hon:Df r=none:=by
    cases hk:Df r with
    | none=>rfl
    | some k=>
     obtain⟨q1,q2⟩:=Cr hk
     have:=(Ic q1).1
     rw[q2,hr]at this
     simp at this
   have hd:s.drop (w.length+t.length+2)=x:=by
    rw[hs,hr]
    dsimp only
    rw[show w++32::(t++32::x)=(w++32::t++[32])++x by simp]
    exact List.drop_left' (by simp;omega)
   simp only at h2
   rw[h1,h2,e3,e4,e5,hon]
   obtain⟨y,ys,hy⟩:∃ y ys,R7 32 x=y::ys:=by
    cases h:R7 32 x with
    | nil=>exact G5 h (JD _ _)
    | cons y ys=>exact⟨y,ys,C⟩
   have hrd:RE tp pe s=if (w=Q7∨w=N4)∧tp t=true then (pe x).map fun e=>(t,decide (w=N4),e)else none:=by
    unfold RE
    rw[h1,h2,hy]
    dsimp only
    rw[hd]
   rw[hy]
   simp only[hrd,Option.map_none,Bool.true_and]
   by_cases hw:w=Hu
   . have n1:¬ (w=Q7∨w=N4):=by rw[hw];decide
     simp[hw]
     rw[B5 (by rw[<-hw];exact fun h=>n1 h.1)]
   . rw[B5 hw]
     by_cases hc:w=Q7∨w=N4
     . rw[B9 hc]
       cases ht:tp t with
       | false=>simp
       | true=>
        rw[B9 ⟨hc,rfl⟩]
        cases pe x with
        | none=>cases out<;>simp
        | some e=>cases out<;>simp
     . rw[B5 hc,B5 fun h=>hc h.1]
def CO (f:List (Dp X)->F6->Option (List (Dp X))):Nat->List (Dp X)->List F6->List (Dp X)×Option Nat
 | _,out,[]=>(out,none)
 | i,out,[s]=>if s=[]then (out,none)else ([],some (i+1))
 | i,out,s::s'::l=>match f out s with
  | none=>([],some (i+1))
  | some o=>CO f (i+1) o (s'::l)
def X7 (s:F6):List (Dp X)×Int×Int:=
 if 65536<s.length then ([],0,4)
 else match CO (Y5 tp pe) 0 [] (R7 10 s) with
  | (_,some i)=>([],i,3)
  | (out,none)=>if 64<out.length∨(out.any fun r=>decide (64<r.2.length))=true then ([],0,4)else (out,0,0)
theorem Ox (l:RLn X) (o:List (Dp X)) (r:Dp X):((Jt l (o++[r])).any fun r=>decide (64<r.2.length))=(((o++[r]).any fun r=>decide (64<r.2.length))||decide (64<r.2.length+1)):=by
 rw[Ab,List.any_append,List.any_append]
 simp only[List.any_cons,List.any_nil,Bool.or_false,C9,List.length_cons,List.length_nil]
 cases o.any fun r=>decide (64<r.2.length) with
 | true=>simp
 | false=>
  by_cases h:64<r.2.length
  . have h2:64<r.2.length+(0+1):=by omega
    simp[h,h2]
  . simp[h]
theorem Rg (o:List (Dp X)) (n:Int):((o++[(n,([]:List (RLn X)))]).any fun r=>decide (64<r.2.length))=o.any fun r=>decide (64<r.2.length):=by
 simp
theorem BQ (f:List (Dp X)->F6->Option (List (Dp X))) (i:Nat) (o:List (Dp X)) (s s':F6) (l:List F6):CO f i o (s::s'::l)=match f o s with|none=>([],some (i+1))|some o=>CO f (i+1) o (s'::l):=rfl
end
section
variable {X:Type} (tp:F6->Bool) (pe:F6->Option X) (pr:X->F6) (nm:X->X)
def sdW (c:Bool):F6:=if c then N4 else Q7
def lnT (l:RLn X):F6:=sdW l.2.1++32::(l.1++32::pr l.2.2)
def HQ (n:Int):F6:=(Z0 n).elim [] fun k=>k.2.1
def onT (n:Int):F6:=Hu++32::HQ n
def V5 (l:List (RLn X)):F6:=(l.map fun x=>lnT pr x++[10]).flatten
def Lr (r:Dp X):F6:=onT r.1++[10]++V5 pr r.2
def P8 (l:List (Dp X)):F6:=(l.map (Lr pr)).flatten
variable {tp pe pr nm}
theorem PN {P:X->Prop} (hpe:∀ s e,pe s=some e->P e) {out o:List (Dp X)} {s:F6} (hl:Y5 tp pe out s=some o) (h:∀ r∈out,(∃ k,Z0 r.1=some k) ∧ ∀ l∈r.2,tp l.1=true∧P l.2.2):∀ r∈o,(∃ k,Z0 r.1=some k) ∧ ∀ l∈r.2,tp l.1=true∧P l.2.2:=by
 rw[Y5]at hl
 split at hl
 . rw[C7]at hl
   obtain⟨k,h1,rfl⟩:=hl
   intro r hr
   rcases List.mem_append.1 hr with hr|hr
   . exact h r hr
   . have:r=(k.1,[]):=by simpa using hr
     subst this
     exact⟨⟨k,Cb (Cr h1).1⟩,fun l hl=>by simp at hl⟩
 . split at hl
   . split at hl
     . rename_i hc
       rw[C7]at hl
       obtain⟨e,h1,rfl⟩:=hl
       simp only[D1]at hc
       rcases List.eq_nil_or_concat out with rfl|⟨o,r0,rfl⟩
       . simp at hc
       . rw[List.concat_eq_append]at h ⊢
         rw[Ab]
         intro r hr
         rcases List.mem_append.1 hr with hr|hr
         . exact h r (by simp[hr])
         . obtain⟨h2,h3⟩:=h r0 (by simp)
           have:r=(r0.1,r0.2++[(R0 32 (P7 32 s),decide (R0 32 s=N4),e)]):=by simpa using hr
           subst this
           refine⟨h2,fun l hl=>?_⟩
           rcases List.mem_append.1 hl with hl|hl
           . exact h3 l hl
           . have:l=(R0 32 (P7 32 s),decide (R0 32 s=N4),e):=by simpa using hl
             subst this
             exact⟨hc.1.2,hpe _ _ h1⟩
     . cases hl
   . cases hl
theorem KV {P:X->Prop} (hpe:∀ s e,pe s=some e->P e):∀ (l:List F6) (i:Nat) (out o:List (Dp X)),CO (Y5 tp pe) i out l=(o,none)->(∀ r∈out,(∃ k,Z0 r.1=some k) ∧ ∀ l∈r.2,tp l.1=true∧P l.2.2)->∀ r∈o,(∃ k,Z0 r.1=some k) ∧ ∀ l∈r.2,tp l.1=true∧P l.2.2
 | [],i,out,o,hr,h=>by cases hr;exact h
 | [s],i,out,o,hr,h=>by
  rw[CO]at hr
  split at hr
  . cases hr;exact h
  . cases hr
 | s::s'::l,i,out,o,hr,h=>by
  rw[BQ]at hr
  cases e:Y5 tp pe out s with
  | none=>rw[e]at hr;cases hr
  | some o2=>
   rw[e]at hr
   exact KV hpe (s'::l) (i+1) o2 o hr (PN hpe e h)
theorem RM {P:X->Prop} (hpe:∀ s e,pe s=some e->P e) {s:F6} {o:List (Dp X)} (h:X7 tp pe s=(o,n,0)):n=0∧o.length<=64 ∧ ∀ r∈o,(∃ k,Z0 r.1=some k)∧r.2.length<=64 ∧ ∀ l∈r.2,tp l.1=true∧P l.2.2:=by
 rw[X7]at h
 split at h
 . cases h
 . cases e:CO (Y5 tp pe) 0 [] (R7 10 s) with
   | mk o' i=>
    rw[e]at h
    cases i with
    | some i=>cases h
    | none=>
     simp only at h
     split at h
     . cases h
     . rename_i hc
       cases h
       have hg:=KV hpe _ _ _ _ e (fun r hr=>by simp at hr)
       refine⟨rfl,?_,fun r hr=>⟨(hg r hr).1,?_,(hg r hr).2⟩⟩
       . rcases D5 64 o.length with h|h
         . exact G5 (.inl h) hc
         . exact h
       . rcases D5 64 r.2.length with h|h
         . exact G5 (.inr (List.any_eq_true.2 ⟨r,hr,B0 h⟩)) hc
         . exact h
end
end Go.Proofs.YtddfimjiihggmaaGreatDoor
namespace Go.Proofs.YtddfimjiihggmaaGreatDoor.Px
open Go.RowKit
variable {l:List (List UInt8×DV)} {listed:List Bool} {i fuel T:Nat} {w:World} {o:Oper} {a:Act}
theorem wp_q {P:Program} {K K':Act->World->Prop} {Q Q':Exit->Act->World->Prop} (h:∀ a w,K a w->K' a w) (hq:∀ e a w,e ≠ .normal->Q e a w->Q' e a w) (hh:o.wp P a w K Q):o.wp P a w K' Q':=by
 have hl:LetsOut Q->LetsOut Q':=fun⟨a,w,h⟩=>⟨a,w,hq _ _ _ (by simp) h⟩
 unfold Oper.wp at *
 generalize (execOp a.eval o).run P w=r at *
 cases r with
 | ok n w'=>
  cases n<;>simp only[Oper.upon]at hh ⊢ <;>
   first
    | exact h _ _ hh
    | exact Calls.mono hh (fun e w'' he=>by cases e<;>first|exact h _ _ he|exact hl he|exact hq _ _ _ (by simp) he)
    | exact Rows.mono hh (fun _ _ he=>h _ _ he)
 | halt x w'=>cases x<;>simp only[Oper.upon]at hh ⊢ <;> first|exact hq _ _ _ (by simp) hh|exact hh
def allR:List Nat->(Nat->Prop)->Prop
 | [],_=>True
 | i::l,p=>p i∧allR l p
theorem LV {l:List Nat} {p:Nat->Prop} (h:allR l p) (hi:i∈l):p i:=by
 induction l with
 | nil=>cases hi
 | cons j l ih=>
  rcases List.mem_cons.1 hi with rfl|hi
  . exact h.1
  . exact ih h.2 hi
def gt (dflt:Bool):List Bool->Nat->Bool
 | [],_=>dflt
 | b::_,0=>b
 | _::l,n+1=>gt dflt l n
theorem Nv (dflt:Bool) (l:List Bool) (n:Nat):l.toArray.getD n dflt=gt dflt l n:=by
 induction l generalizing n with
 | nil=>simp[gt,Array.getD]
 | cons b l ih=>
  cases n with
  | zero=>simp[gt,Array.getD]
  | succ n=>simpa[gt,Array.getD]using ih n
def Oj (listed:List Bool):Nat->List Oper->List Nat
 | _,[]=>[]
 | k,o::l=>bif !(gt true listed k)&&o.after.toList.all (fun e=>!Region.binds .any e||gt false listed e.on)then k::Oj listed (k+1) l else Oj listed (k+1) l
theorem mem_rdy {l:List Oper} {k j:Nat}:j∈Oj listed k l↔k<=j∧gt true listed j=false ∧ ∃ o,l[j-k]? = some o ∧ ∀ e∈o.after,Region.binds .any e=true->gt false listed e.on=true:=by
 induction l generalizing k with
 | nil=>simp[Oj]
 | cons o l ih=>
  have hc:(!(gt true listed k)&&o.after.toList.all (fun e=>!Region.binds .any e||gt false listed e.on))=true↔gt true listed k=false ∧ ∀ e∈o.after,Region.binds .any e=true->gt false listed e.on=true:=by
   rw[D1,Bool.not_eq_true',E5]
   refine and_congr Iff.rfl ⟨fun h e he hb=>?_,fun h e he=>?_⟩
   . have:=h e (Array.mem_toList_iff.2 he)
     rw[hb]at this
     simpa using this
   . have:=h e (Array.mem_toList_iff.1 he)
     cases hb:Region.binds .any e with
     | false=>rfl
     | true=>rw[this hb];rfl
  unfold Oj
  have tail:(j∈Oj listed (k+1) l)↔k+1<=j∧gt true listed j=false ∧ ∃ o',(o::l)[j-k]? = some o' ∧ ∀ e∈o'.after,Region.binds .any e=true->gt false listed e.on=true:=by
   rw[ih]
   refine and_congr_right fun h=>?_
   rw[show j-k=(j-(k+1))+1 by omega,List.getElem?_cons_succ]
  cases hb:(!(gt true listed k)&&o.after.toList.all (fun e=>!Region.binds .any e||gt false listed e.on)) with
  | true=>
   rw[cond_true,List.mem_cons,tail]
   obtain⟨h1,h2⟩:=hc.1 hb
   constructor
   . rintro(rfl|⟨h3,h4⟩)
     . exact⟨E0 _,h1,o,by simp,h2⟩
     . exact⟨by omega,h4⟩
   . rintro⟨h3,h4⟩
     by_cases e:j=k
     . exact .inl e
     . exact .inr ⟨by omega,h4⟩
  | false=>
   rw[cond_false,tail]
   constructor
   . rintro⟨h3,h4⟩;exact⟨by omega,h4⟩
   . rintro⟨h3,h4,o',h5,h6⟩
     by_cases e:j=k
     . subst e
       simp only[Nat.sub_self,List.getElem?_cons_zero,Option.some.injEq]at h5
       subst h5
       rw[hc.2 ⟨h4,h6⟩]at hb
       cases hb
     . exact⟨by omega,h4,o',h5,h6⟩
theorem X2 {l:List Oper} {j:Nat}:j∈Region.ready .any l.toArray listed.toArray↔j∈Oj listed 0 l:=by
 rw[mem_ready,mem_rdy,Nv]
 simp only[E7,true_and,Nat.sub_zero,List.getElem?_toArray,Nv]
section
variable {P:Program} {B:Nat} {w0:Cx} {l:List Oper} {J st:PS}
def PA (P:Program) (B:Nat) (w0:Cx) (l:List Oper) (J:PS) (fuel:Nat) (listed:List Bool) (st:PS):Prop:=
 ∀ (Q:Exit->PS->Prop),(∀ s,Le s J->Q .normal s)->(∀ c s,¬ Q (.panic c) s)->∀ g a w,Rep B w0 g st a w->wpAny P .any l.toArray (CP B w0 Q) fuel listed.toArray a w
theorem AN (hr0:Oj listed 0 l=[]) (hl:Le st J):PA P B w0 l J fuel listed st:=fun Q hQ hp0 g a w h=>by
 have hp:CP B w0 Q .normal a w:=⟨g,st,h,hQ st hl⟩
 have hr:Region.ready .any l.toArray listed.toArray=[]:=by
  rw[List.eq_nil_iff_forall_not_mem]
  intro j hj
  rw[X2,hr0]at hj
  cases hj
 cases fuel with
 | zero=>exact⟨hr,hp⟩
 | succ n=>exact⟨fun _=>hp,fun i hi=>by rw[hr]at hi;cases hi⟩
theorem I7 (rs:List Nat) (hr:Oj listed 0 l=rs) (hne:rs.isEmpty=false) (h:allR rs fun i=>∃ o,l[i]? = some o∧YR P true l.toArray (PA P B w0 l J fuel (listed.set i true)) [o] st):PA P B w0 l J (fuel+1) listed st:=fun Q hQ hp0 g a w hrep=>by
 refine⟨fun he=>?_,fun i hi=>?_⟩
 . exfalso
   cases rs with
   | nil=>cases hne
   | cons j rs=>
    have hj:j∈Region.ready .any l.toArray listed.toArray:=X2.2 (by rw[hr];simp)
    rw[he]at hj
    cases hj
 . rw[X2,hr]at hi
   obtain⟨o,ho,hy⟩:=LV h hi
   have hs:=hy.sound (B:=B) (w0:=w0) (Q:=U4 (fun s=>PA P B w0 l J fuel (listed.set i true) s) Q) (fun s hk=>hk) hrep
   have hset:(listed.toArray.setIfInBounds i true)=(listed.set i true).toArray:=by simp
   have hk:∀ a w,CP B w0 (U4 (fun s=>PA P B w0 l J fuel (listed.set i true) s) Q) .normal a w->wpAny P .any l.toArray (CP B w0 Q) fuel (listed.toArray.setIfInBounds i true) a w:=by
    rintro a w ⟨g,s,h1,h2⟩
    rw[hset]
    exact h2 Q hQ hp0 g a w h1
   have hq:∀ e a w,e ≠ .normal->CP B w0 (U4 (fun s=>PA P B w0 l J fuel (listed.set i true) s) Q) e a w->CP B w0 Q e a w:=by
    rintro e a w he ⟨g,s,h1,h2⟩
    refine⟨g,s,h1,?_⟩
    cases e<;>first|exact G5 rfl he|exact h2
   unfold wpOp
   rw[show l.toArray[i]? = some o by simpa using ho]
   simp only
   unfold wpList at hs
   split
   . rename_i hw
     rw[B9 hw]at hs
     rcases hs with hs|⟨hs,a',w',hl⟩
     . exact .inl (wp_q hk hq hs)
     . exact .inr ⟨hs,a',w',hq _ _ _ (by simp) hl⟩
   . rename_i hw
     rw[B5 hw]at hs
     exact hk _ _ hs
def Pure (P:Program) (o:Oper) (st:PS) (x:SV):Prop:=
 I1 o st=true∧o.guard=none ∧ ∀ B w0 g a w,Rep B w0 g st a w->∃ v,(∀ w',(execOp a.eval o).run P w'=.ok (.value v) w')∧SRep g w v x
theorem O7 {d:Option Nat} {ty:TypeId} {pos:String} {af:Array Edge} {y:Operand} (hd:I1 ⟨d,.move y,ty,pos,af,none⟩ st=true:=by kernel_rfl):Pure P ⟨d,.move y,ty,pos,af,none⟩ st (st.ev y):=
 ⟨hd,rfl,fun _ _ _ a _ h=>⟨a.eval y,fun w'=>by simp[execOp],h.eval y⟩⟩
def noSel (l:List Oper):Bool:=l.all fun o=>match o.op with|.select .. => false|_=>true
def Sv (l:List Oper) (listed:List Bool) (i:Nat) (oi:Oper):Bool:=Aq (fun j oj=>Nat.beq j i||gt true listed j||oj.after.toList.any (fun e=>Region.binds .any e&&Nat.beq e.on i)||oi.apart l.toArray oj) 0 l
theorem S5 (i:Nat) {x:SV} (hi:l[i]? = some o) (hr:(Oj listed 0 l).any (Nat.beq i)=true) (hs:noSel l=true) (hap:Sv l listed i o=true) (hp:Pure P o st x) (h:PA P B w0 l J fuel (listed.set i true) (st.put o.dst x)):PA P B w0 l J (fuel+1) listed st:=fun Q hQ hp0 g a w hrep=>by
 obtain⟨h1,h2,h3⟩:=hp
 obtain⟨v,h4,h5⟩:=h3 B w0 g a w hrep
 have hset:(listed.toArray.setIfInBounds i true)=(listed.set i true).toArray:=by simp
 refine wpAny_first (v:=v) (by simpa using hi) (fun j o' cs b hj e=>?_) (fun c a w ⟨_,s,_,h6⟩=>G5 h6 (hp0 c s)) fuel listed.toArray a w (fun j oj hj hji hun hno=>?_) ?_ (.inl ⟨by unfold Region.wanted;rw[h2],h4⟩) ?_
 . have hj':o'∈l:=by
    have:l[j]? = some o':=by simpa using hj
    exact B8 this
   have:=E5.1 hs o' hj'
   rw[e]at this
   cases this
 . have hj':l[j]? = some oj:=by simpa using hj
   have h6:=Q9 hap j oj hj'
   rw[E4,Nv]at *
   simp only[Bool.or_eq_true]at h6
   rcases h6 with((h6|h6)|h6)|h6
   . exact G5 (F8 h6) hji
   . rw[hun]at h6;cases h6
   . rw[List.any_eq_true]at h6
     obtain⟨e,he,hb⟩:=h6
     rw[D1]at hb
     exact G5 (F8 hb.2) (hno e (Array.mem_toList_iff.1 he) hb.1)
   . exact h6
 . rw[X2]
   obtain⟨j,hj,e⟩:=List.any_eq_true.1 hr
   rw[F8 e]
   exact hj
 . rw[hset]
   exact h Q hQ hp0 g _ w (hrep.put h5 _ (H6 h1))
end
section
variable {P:Program} {sq:Bool} {ops:Array Oper} {K:PS->Prop} {rest:List Oper} {st:PS} {d:Option Nat} {op:Op} {ty:TypeId} {pos:String} {af:Array Edge} {gd:Option (Nat×Bool)} {q:Nat×Bool}
end
def Q0 (l:List (List UInt8×DV)):List (Value×DV):=l.map fun p=>(vS p.1,p.2)
def ED (z:DV) (k:List UInt8):List (List UInt8×DV)->DV
 | []=>z
 | (k',v)::l=>if k'=k then v else ED z k l
def Ao (k:List UInt8) (v:DV):List (List UInt8×DV)->List (List UInt8×DV)
 | []=>[(k,v)]
 | (k',v')::l=>if k'=k then (k,v)::l else (k',v')::Ao k v l
theorem Cz (k:List UInt8):∀ (l:List (List UInt8×DV)) (es:List MapEntry) (n:Nat),es.length=l.length->(∀ (i:Nat) e p,es[i]? = some e->l[i]? = some p->e.key=vS p.1) →
 (∃ j e d,Instr.findNow .string (vS k) es n=some (some (n+j,e.val))∧es[j]? = some e∧l[j]? = some (k,d)∧(∀ z,ED z k l=d) ∧ ∀ v,Ao k v l=l.set j (k,v)) ∨
 (Instr.findNow .string (vS k) es n=some none∧(∀ z,ED z k l=z)∧(∀ v,Ao k v l=l++[(k,v)]) ∧ ∀ p∈l,p.1≠k)
 | [],[],n,_,_=>.inr ⟨rfl,fun _=>rfl,fun _=>rfl,fun p hp=>by simp at hp⟩
 | [],e::es,n,hl,_=>by simp at hl
 | p::l,[],n,hl,_=>by simp at hl
 | (k',d)::l,e::es,n,hl,hk=>by
  have h0:e.key=vS k':=hk 0 e (k',d) rfl rfl
  have hs:Instr.sameNow .string (vS k) e.key=some ((⟨k.toArray⟩:ByteArray)==⟨k'.toArray⟩):=by rw[h0];rfl
  by_cases hkk:k'=k
  . subst hkk
    refine .inl ⟨0,e,d,?_,C,C,fun z=>by rw[ED,B9 rfl],fun v=>by rw[Ao,B9 rfl];rfl⟩
    rw[Instr.findNow,hs,(MapKept.bytes_beq _ _).2 rfl]
    rfl
  . have hb:((⟨k.toArray⟩:ByteArray)==⟨k'.toArray⟩)=false:=by
     rw[<-Bool.not_eq_true,MapKept.bytes_beq]
     intro e
     apply hkk
     have:=G4 (fun x:ByteArray=>x.data.toList) e
     simpa using this.symm
    have hf:Instr.findNow .string (vS k) (e::es) n=Instr.findNow .string (vS k) es (n+1):=by rw[Instr.findNow,hs,hb]
    rcases Cz k l es (n+1) (by simpa using hl) (fun i e' p' he hp=>hk (i+1) e' p' (by simpa using he) (by simpa using hp))with⟨j,e',d',h1,h2,h3,h4,h5⟩|⟨h1,h2,h3,h4⟩
    . refine .inl ⟨j+1,e',d',?_,h2,h3,fun z=>by rw[ED,B5 hkk,h4],fun v=>by rw[Ao,B5 hkk,h5];rfl⟩
      rw[hf,h1,show n+1+j=n+(j+1)by omega]
    . exact .inr ⟨by rw[hf,h1],fun z=>by rw[ED,B5 hkk,h2],fun v=>by rw[Ao,B5 hkk,h3];rfl,fun p hp=>by
       rcases List.mem_cons.1 hp with rfl|hp
       . exact hkk
       . exact h4 p hp⟩
class MapOf (P:Program) (T:Nat) (z:outParam DV):Prop where
 und:∃ kt et,P.underlying T=some (.map kt et)∧P.underlying kt=some .string ∧ ∀ w,∃ v,(zeroValue et).run P w=.ok v w ∧ ∀ F w',DRep F w' v z
section
variable {P:Program} {sq:Bool} {ops:Array Oper} {K:PS->Prop} {rest:List Oper} {st:PS} {d:Option Nat} {ty:TypeId} {pos:String} {af:Array Edge} {gd:Option (Nat×Bool)}
theorem ls_mkm (T:TypeId) {e:Nat} (hi:st.bget (500000+e)=none) (hd:I1 ⟨some e,.makeMap T none,ty,pos,af,gd⟩ st=true):
 M6 P ⟨some e,.makeMap T none,ty,pos,af,gd⟩ st (.mb (500000+e)) (.box (500000+e) [.mc (Q0 [])]):=fun st2 ha=>by
 intro B w0 g a w K Q hr hK
 have hin:e<st2.n:=H6 (ha.dst hd) e rfl
 have hlim:st2.n<=10000:=hr.lim
 have hi2:st2.bget (500000+e)=none:=ha.fresh rfl e rfl (500000+e) (Oq (by omega)) hi
 have hrep:=hr.newm e 0 hi2 hin #[] (Q0 []) ⟨rfl,MapKept.stamped_empty 0,fun i e p he=>by simp at he⟩
 have hrun:(execOp a.eval ⟨some e,.makeMap T none,ty,pos,af,gd⟩).run P w=.ok (.value (.map (some w.heap.size))) (w.alloc (.map #[] 0)):=by
  simp[execOp,run_makeMap]
 unfold Oper.wp
 rw[hrun]
 exact hK _ _ _ (hrep.put (x:=.mb (500000+e)) ⟨w.heap.size,by simp[Gh.addb],rfl⟩ _ (H6 (st:=st2.bput (500000+e) _) (ha.dst hd)))
theorem yKm {e:Nat} (hi:st.bget (500000+e)=none)
 (h:YR P sq ops K rest ((st.bput (500000+e) [.mc (Q0 [])]).put (some e) (.mb (500000+e)))) (zz:zk ops st ⟨some e,.makeMap T none,ty,pos,af,gd⟩ (.box (500000+e) [.mc (Q0 [])])=true:=by kernel_rfl):
 YR P sq ops K (⟨some e,.makeMap T none,ty,pos,af,gd⟩::rest) st:=Dr (ls_mkm T hi (zd zz)) (zo zz) (zw zz) h
theorem MN {B:Nat} {w0:Cx} {g:Gh} (hr:Rep B w0 g st a w) (hge:500000<=i) (hi:st.bget i=some [.mc (Q0 l)]):
 ∃ b es c,g.bl i=some b∧w.heap[b]? = some (.map es c)∧es.toList.length=l.length∧MapKept.Stamped es c∧(∀ (i:Nat) e p,es.toList[i]? = some e->l[i]? = some p->e.key=vS p.1) ∧ ∀ (i:Nat) e p,es.toList[i]? = some e->l[i]? = some p->DRep (Fx g) w e.val p.2:=by
 obtain⟨b,es,c,h1,h2,h3,h5,h4⟩:=hr.maps i _ hi hge
 have hp:∀ (i:Nat) p,l[i]? = some p->(Q0 l)[i]? = some (vS p.1,p.2):=fun i p hp=>by rw[Q0,C6,hp];rfl
 exact⟨b,es,c,h1,h2,by simpa[Q0]using h3,h5,fun i e p he hl=>(h4 i e _ (by simpa using he) (hp i p hl)).1,fun i e p he hl=>(h4 i e _ (by simpa using he) (hp i p hl)).2⟩
theorem ls_mlk (T:TypeId) (x y:Operand) {k:List UInt8} {z:DV} [hM:MapOf P T z] (hge:500000<=i) (hx:st.ev x=.mb i) (hi:st.bget i=some [.mc (Q0 l)]) (hy:st.ev y=.d (dS k)) (hd:I1 ⟨d,.lookup T x y false,ty,pos,af,gd⟩ st=true):
 M6 P ⟨d,.lookup T x y false,ty,pos,af,gd⟩ st (.d (ED z k l)) .no:=fun st2 ha=>
 OpS.value (ha.dst hd) fun _ _ g a w h=>by
  have h1:=h.eval x
  rw[ha.ev x (by simp[Op.operands]),hx]at h1
  have h2:=h.eval y
  rw[ha.ev y (by simp[Op.operands]),hy]at h2
  have hi2:st2.bget i=some [.mc (Q0 l)]:=(ha.ids rfl x (by simp[Op.operands]) i (by rw[hx];simp[SV.ids])).trans hi
  obtain⟨b,q1,q2⟩:=h1
  obtain⟨b',es,c,r1,r2,r3,-,r4,r5⟩:=MN h hge hi2
  rw[q1]at r1
  cases r1
  obtain⟨kt,et,m1,m2,m3⟩:=hM.und
  obtain⟨v,m4,m5⟩:=m3 w
  have hc:∀ e,(Instr.checkKey e 10000 kt (vS k)).run P w=.ok () w:=fun e=>MapKept.run_checkKey (k:=vS k) m2 (by simp[MapKept.IsKey]) e 9999
  rcases Cz k l es.toList 0 r3 r4 with⟨j,e,d',f1,f2,f3,f4,-⟩|⟨f1,f2,-,-⟩
  . refine⟨e.val,w,?_,Below.refl _ _,?_⟩
    . simp[execOp,Instr.lookup,run_underlying m1,q2,DRep.val_eq h2,MapKept.run_getObj_map r2,hc,MapKept.run_findKey m2 f1,Result.andThen]
    . rw[f4];exact r5 j e _ f2 f3
  . refine⟨v,w,?_,Below.refl _ _,?_⟩
    . simp[execOp,Instr.lookup,run_underlying m1,q2,DRep.val_eq h2,MapKept.run_getObj_map r2,hc,MapKept.run_findKey m2 f1,m4,Result.andThen]
    . rw[f2];exact m5 _ _
theorem yKl {x y:Operand} {k:List UInt8} {z v:DV} [hM:MapOf P T z] (hx:st.ev x=.mb i) (hi:st.bget i=some [.mc (Q0 l)]) (hy:st.ev y=.d (dS k)) (hv:ED z k l=v)
 (h:YR P sq ops K rest (st.put d (.d v))) (hge:Nat.ble 500000 i=true:=by rfl) (zz:zk ops st ⟨d,.lookup T x y false,ty,pos,af,gd⟩ .no=true:=by kernel_rfl):
 YR P sq ops K (⟨d,.lookup T x y false,ty,pos,af,gd⟩::rest) st:=M3 (hv ▸ ls_mlk T x y (C0 hge) hx hi hy (zd zz)) (zo zz) (zw zz) h
theorem JL (k:List UInt8) (w:World):(Instr.keyThatStays (vS k) (vS k)).run P w=.ok (vS k) w:=by
 have:Instr.sameBits 10000 (vS k) (vS k)=true:=by
  show((⟨k.toArray⟩:ByteArray)==⟨k.toArray⟩)=true
  exact(MapKept.bytes_beq _ _).2 C
 simp[Instr.keyThatStays,this]
theorem Rh (T:TypeId) (x y u:Operand) {k:List UInt8} {z v:DV} [hM:MapOf P T z] (hge:500000<=i) (hx:st.ev x=.mb i) (hi:st.bget i=some [.mc (Q0 l)]) (hy:st.ev y=.d (dS k)) (hu:st.ev u=.d v) (hd:I1 ⟨d,.mapUpdate T x y u,ty,pos,af,gd⟩ st=true):
 M6 P ⟨d,.mapUpdate T x y u,ty,pos,af,gd⟩ st .any (.box i [.mc (Q0 (Ao k v l))]):=fun st2 ha=>by
 intro B w0 g a w K Q h hK
 have h1:=h.eval x
 rw[ha.ev x (by simp[Op.operands]),hx]at h1
 have h2:=h.eval y
 rw[ha.ev y (by simp[Op.operands]),hy]at h2
 have h3:=h.eval u
 rw[ha.ev u (by simp[Op.operands]),hu]at h3
 have hi2:st2.bget i=some [.mc (Q0 l)]:=(ha.ids rfl x (by simp[Op.operands]) i (by rw[hx];simp[SV.ids])).trans hi
 obtain⟨b,q1,q2⟩:=h1
 obtain⟨b',es,c,r1,r2,r3,rs,r4,r5⟩:=MN h hge hi2
 rw[q1]at r1
 cases r1
 obtain⟨kt,et,m1,m2,-⟩:=hM.und
 have hc:∀ e,(Instr.checkKey e 10000 kt (vS k)).run P w=.ok () w:=fun e=>MapKept.run_checkKey (k:=vS k) m2 (by simp[MapKept.IsKey]) e 9999
 have hblt:b<w.heap.size:=(D2.1 r2).1
 suffices hrun:∃ es' c',(execOp a.eval ⟨d,.mapUpdate T x y u,ty,pos,af,gd⟩).run P w=.ok .skip { w with heap:=w.heap.setIfInBounds b (.map es' c') }∧es'.toList.length=(Ao k v l).length∧MapKept.Stamped es' c' ∧ ∀ (q:Nat) e p,es'.toList[q]? = some e->(Ao k v l)[q]? = some p->e.key=vS p.1∧DRep (Fx g) w e.val p.2 by
  obtain⟨es',c',e1,e2,e4,e3⟩:=hrun
  have hs:=MapKept.heap_set (o':=.map es' c') r2
  have hrep:=h.seto i b [.mc (Q0 (Ao k v l))] (w':={ w with heap:=w.heap.setIfInBounds b (.map es' c') }) q1 ⟨rfl,rfl,rfl,by simp,fun q hq=>by omega⟩ (fun q _ hne=>hs.2 q hne) (by unfold World.shape?;simp only[hs.1,r2]) (fun _ hlt=>by omega) (fun e _ ms hms=>by
   obtain rfl:Q0 (Ao k v l)=ms:=by simpa using hms
   refine⟨es',c',hs.1,by simpa[Q0]using e2,e4,fun q en p he hp=>?_⟩
   rw[Q0,C6,C7]at hp
   obtain⟨p',hp1,rfl⟩:=hp
   have:=e3 q en p' (by simpa using he) hp1
   exact⟨this.1,this.2.mono e.fx⟩)
  unfold Oper.wp
  rw[e1]
  exact hK g _ _ (hrep.put (x:=.any) trivial _ (H6 (st:=st2.bput i _) (ha.dst hd)))
 rcases Cz k l es.toList 0 r3 r4 with⟨j,e,d',f1,f2,f3,-,f5⟩|⟨f1,-,f3,f6⟩
 . have hek:e.key=vS k:=r4 j e _ f2 f3
   have hj:es[j]? = some e:=by simpa using f2
   refine⟨es.modify j fun e=>{ e with key:=vS k,val:=a.eval u },c,?_,?_,?_,?_⟩
   . simp[execOp,Instr.mapUpdate,run_underlying m1,q2,DRep.val_eq h2,MapKept.run_getObj_map r2,hc,MapKept.run_findKey m2 f1,hj,hek,JL,MapKept.run_setObj_map _ r2,Result.andThen]
   . rw[f5];simpa using r3
   . exact MapKept.stamped_modify rs j _ (fun _ _=>C) fun e' _ he'=>by
      rw[hj]at he'
      cases he'
      exact hek.symm
   . intro q en p he hp
     rw[f5]at hp
     rw[Array.toList_modify,List.getElem?_modify]at he
     by_cases hq:j=q
     . subst hq
       rw[f2]at he
       rw[List.getElem?_set_self (by rw[<-r3];exact(A6.1 f2).1)]at hp
       cases hp
       simp at he
       subst he
       exact⟨rfl,h3⟩
     . rw[List.getElem?_set_ne hq]at hp
       simp[hq]at he
       exact⟨r4 q en p (by simpa using he) hp,r5 q en p (by simpa using he) hp⟩
 . refine⟨es.push { key:=vS k,val:=a.eval u,born:=c },c+1,?_,?_,?_,?_⟩
   . simp[execOp,Instr.mapUpdate,run_underlying m1,q2,DRep.val_eq h2,MapKept.run_getObj_map r2,hc,MapKept.run_findKey m2 f1,MapKept.run_setObj_map _ r2,Result.andThen]
   . rw[f3];simpa using r3
   . exact MapKept.stamped_push rs fun x hx e=>by
      obtain⟨q,hq⟩:=List.mem_iff_getElem?.1 hx
      obtain⟨p,hp⟩:∃ p,l[q]? = some p:=⟨_,A4 (by rw[<-r3];exact(A6.1 hq).1)⟩
      have h5:=r4 q x p hq hp
      rw[e]at h5
      refine f6 p (B8 hp) ?_
      have:=G4 (fun v:Value=>match v with|.string s=>s.data.toList|_=>[]) h5
      simpa using this.symm
   . intro q en p he hp
     rw[f3]at hp
     rw[Array.toList_push]at he
     rcases D5 q l.length with hq|hq
     . rw[F3 hq]at hp
       rw[F3 (by omega)]at he
       exact⟨r4 q en p he hp,r5 q en p he hp⟩
     . rw[E9 hq]at hp
       rw[E9 (by omega),r3]at he
       obtain⟨hq0,-⟩:=A6.1 hp
       have hq1:q-l.length=0:=by simpa using hq0
       rw[hq1]at he hp
       cases he
       cases hp
       exact⟨rfl,h3⟩
theorem yKu {x y u:Operand} {l':List (List UInt8×DV)} {k:List UInt8} {z v:DV} [hM:MapOf P T z] (hx:st.ev x=.mb i) (hi:st.bget i=some [.mc (Q0 l)]) (hy:st.ev y=.d (dS k)) (hu:st.ev u=.d v) (hl:Ao k v l=l')
 (h:YR P sq ops K rest ((st.bput i [.mc (Q0 l')]).put d .any)) (hge:Nat.ble 500000 i=true:=by rfl) (zz:zk ops st ⟨d,.mapUpdate T x y u,ty,pos,af,gd⟩ (.box i [.mc (Q0 l')])=true:=by kernel_rfl):
 YR P sq ops K (⟨d,.mapUpdate T x y u,ty,pos,af,gd⟩::rest) st:=Dr (hl ▸ Rh T x y u (C0 hge) hx hi hy hu (zd zz)) (zo zz) (zw zz) h
end
open Go.RowKit Go.Maps Go.Sort Go.WideMaps
variable {l:List (List UInt8×DV)} {ts:Array TypeId} {x:Operand}
def KeysC (P:Program) (fK it T:Nat):Prop:=∀ mb W,Calls P fK #[.map mb] W fun e w'=>e=.returned (.func (.func it) #[] #[.pointer (some ⟨W.heap.size,0,none⟩)])∧w'=W.alloc (.cells #[.map mb] T)
def OO (P:Program) (fS it k:Nat):Prop:=∀ (a b nn:Nat) (D0:DataW Unit) (R:Value->Option (DataW Unit×List MemPlace)) (W:World),a<W.heap.size->W.cell? ⟨a,0,none⟩=some (.map (some b))->W.ownsMap P k R b nn D0 →
 Maps.size D0<=maxLen->Maps.size D0*16<=140737488355328->Calls P fS #[.func (.func it) #[] #[.pointer (some ⟨a,0,none⟩)]] W fun e w'=>∃ (v:Value) (ss:List (List UInt8)),e=.returned v∧ss.Perm (strKeys D0) ∧
  w'.ownsRow W.heap.size k 1 v ss.length ((ss.mergeSort (fun x y=>decide (x<=y))).map encStr)∧(v=.slice none 0 0↔ss=[])∧Below W.heap.size W w'
def CH (l:List (List UInt8×DV)):List (List UInt8):=(l.map (·.1)).mergeSort leB
def Sw (_:Value):Option (DataW Unit×List MemPlace):=some (.nil,[])
theorem MD {P:Program} {k:Nat} {w:World} {b c:Nat} {es:Array MapEntry} (hk:P.underlying k=some .string) (h2:w.heap[b]? = some (.map es c)) (h3:es.toList.length=l.length) (hs:MapKept.Stamped es c)
 (h4:∀ (i:Nat) e p,es.toList[i]? = some e->l[i]? = some p->e.key=vS p.1) (hl:l.length<=1000000) (hkl:∀ p∈l,p.1.length<=1000000):
 ∃ D0:DataW Unit,w.ownsMap P k Sw b l.length D0∧Maps.size D0=l.length∧(strKeys D0).Perm (l.map (·.1)):=by
 have hrd:∀ (i:Nat) e p,es.toList[i]? = some e->l[i]? = some p->WideElems.rd P k Sw e=some (.string p.1,.nil):=fun i e p he hp=>by
  have h5:=h4 i e p he hp
  have h6:keyOf P k e.key=some (.string p.1):=by
   rw[h5]
   have:=keyOf_string_mk hk (s:=⟨p.1.toArray⟩) (by
    have:=hkl p (B8 hp)
    show p.1.toArray.size<=maxLen
    simp only[List.size_toArray,maxLen];omega)
   simpa[vS]using this
  simp[WideElems.rd,h6,Sw]
 have hmap:es.toList.map (WideElems.rg P k Sw)=l.map fun p=>(Lit.string p.1,DataW.nil):=by
  refine List.ext_getElem? fun i=>?_
  rw[C6,C6]
  cases he:es.toList[i]? with
  | none=>
   have:l[i]? = none:=by rw[List.getElem?_eq_none_iff]at he ⊢;omega
   rw[this];rfl
  | some e=>
   cases hp:l[i]? with
   | none=>rw[List.getElem?_eq_none_iff]at hp;have:=(A6.1 he).1;omega
   | some p=>simp[WideElems.rg_of (hrd i e p he hp)]
 refine⟨_,⟨es,c,h2,⟨by simp only[maxLen];simp at h3;omega,hs,fun x hx=>?_⟩,by simp at h3;omega,rfl⟩,?_,?_⟩
 . obtain⟨i,hi,rfl⟩:=List.mem_iff_getElem.1 hx
   exact⟨_,hrd i _ _ (A4 hi) (A4 (by omega))⟩
 . rw[hmap]
   show((l.map fun p=>(Lit.string p.1,(DataW.nil:DataW Unit))).foldr DataW.insert []).length=_
   rw[(WideShapes.sorted_perm _).length_eq,A8]
 . rw[hmap]
   show(((l.map fun p=>(Lit.string p.1,(DataW.nil:DataW Unit))).foldr DataW.insert []).map fun p=>strOf p.1).Perm _
   refine((WideShapes.sorted_perm _).map _).trans ?_
   rw[List.map_map]
   exact .refl _
section
variable {P:Program} {ops:Array Oper} {K:PS->Prop} {rest:List Oper} {st:PS} {d:Option Nat} {ty:TypeId} {pos:String} {af:Array Edge} {gd:Option (Nat×Bool)}
theorem yKk {fK it T e i:Nat} [HasBody P fK] (hK:KeysC P fK it T) (hx:st.ev x=.mb i) (hi:st.bget e=none)
 (h:YR P true ops K rest ((st.bput e [.mb i]).put (some e) (.fn it [e]))) (hin:Nat.blt e st.n=true:=by rfl)
 (hw:st.want ops ⟨some e,.call { callee:=.value (.func fK),args:=#[x],argTypes:=ts },ty,pos,af,gd⟩=some true:=by rfl):
 YR P true ops K (⟨some e,.call { callee:=.value (.func fK),args:=#[x],argTypes:=ts },ty,pos,af,gd⟩::rest) st:=by
 refine .any C fun B w0 Q hQ g a w hr=>?_
 have hlt:e<st.n:=C0 hin
 have h1:=hr.eval x
 rw[hx]at h1
 obtain⟨b,q1,q2⟩:=h1
 unfold wpList
 rw[B9 (M4 hr hw)]
 refine .inl ?_
 unfold Oper.wp
 have hrun:=CU (P:=P) (f:=fK) (d:=some e) (l:=[x]) (ts:=ts) (ty:=ty) (pos:=pos) (af:=af) (gd:=gd) (a:=a) (w:=w)
 rw[hrun]
 show Calls P fK _ w _
 have hc:=hK (some b) w
 simp only[List.map_cons,List.map_nil,q2]
 refine hc.mono ?_
 rintro e' w' ⟨rfl,rfl⟩
 have hrep:=hr.newb e T hi hlt #[.map (some b)] [.mb i] (by simp) (fun j c hj=>by
  cases j with
  | zero=>cases hj;exact⟨_,C,b,q1,C⟩
  | succ j=>simp at hj) (fun u hu=>by simp at hu;subst hu;rfl)
 refine h.sound hQ (hrep.put (x:=.fn it [e]) ⟨[w.heap.size],rfl,rfl,fun j b' c hb hc'=>?_⟩ _ fun j hj=>by cases hj;exact hlt)
 cases j with
 | zero=>cases hb;cases hc';simp[Gh.addb]
 | succ j=>simp at hb
theorem yKs {fS it k j i:Nat} {ks:List (List UInt8)} [HasBody P fS] (hS:OO P fS it k) (hk:P.underlying k=some .string) (hx:st.ev x=.fn it [j]) (hj:st.bget j=some [.mb i]) (hi:st.bget i=some [.mc (Q0 l)])
 (hl:l.length<=1000000) (hkl:∀ p∈l,p.1.length<=1000000) (hks:CH l=ks)
 (h:YR P true ops K rest (st.put d (.d (.sl 1 (ks.map fun s=>[dS s]))))) (hjl:Nat.blt j 500000=true:=by rfl) (hge:Nat.ble 500000 i=true:=by rfl) (hd:I1 ⟨d,.call { callee:=.value (.func fS),args:=#[x],argTypes:=ts },ty,pos,af,gd⟩ st=true:=by kernel_rfl)
 (hw:st.want ops ⟨d,.call { callee:=.value (.func fS),args:=#[x],argTypes:=ts },ty,pos,af,gd⟩=some true:=by rfl):
 YR P true ops K (⟨d,.call { callee:=.value (.func fS),args:=#[x],argTypes:=ts },ty,pos,af,gd⟩::rest) st:=by
 subst hks
 refine .any C fun B w0 Q hQ g a w hr=>?_
 have h1:=hr.eval x
 rw[hx]at h1
 obtain⟨bs,q1,q2,q3⟩:=h1
 obtain⟨a0,rfl⟩:∃ a0,bs=[a0]:=by
  match bs,q2 with
  | [a0],_=>exact⟨a0,C⟩
 have q4:=q3 0 a0 j rfl rfl
 obtain⟨b',xs,T,r1,r2,r3,r4,-⟩:=hr.boxes j _ hj (C0 hjl)
 rw[q4]at r1
 cases r1
 obtain⟨u,r5,b,r6,rfl⟩:=r4 0 _ rfl
 obtain⟨b2,es,c,s1,s2,s3,s4,s5,-⟩:=MN hr (C0 hge) hi
 rw[r6]at s1
 cases s1
 obtain⟨D0,d1,d2,d3⟩:=MD hk s2 s3 s4 s5 hl hkl
 have hcell:w.cell? ⟨a0,0,none⟩=some (.map (some b)):=AC.2 (by rw[BP r2,r5];rfl)
 unfold wpList
 rw[B9 (M4 hr hw)]
 refine .inl ?_
 unfold Oper.wp
 have hrun:=CU (P:=P) (f:=fS) (d:=d) (l:=[x]) (ts:=ts) (ty:=ty) (pos:=pos) (af:=af) (gd:=gd) (a:=a) (w:=w)
 rw[hrun]
 show Calls P fS _ w _
 have hc:=hS a0 b l.length D0 Sw w (hr.blk j a0 q4).2 hcell d1 (by rw[d2];simp only[maxLen];omega) (by rw[d2];omega)
 simp only[List.map_cons,List.map_nil,q1]
 refine hc.mono ?_
 rintro e' w' ⟨v,ss,rfl,hp,hrow,-,hb⟩
 have hsort:ss.mergeSort (fun x y=>decide (x<=y))=CH l:=mergeSort_of_perm (hp.trans d3)
 rw[hsort]at hrow
 have hlen:ss.length=(CH l).length:=by rw[<-hsort,List.length_mergeSort]
 have hlen2:(CH l).length=l.length:=by rw[CH,List.length_mergeSort,A8]
 refine h.sound hQ ((hr.grow hb).put (x:=.d (.sl 1 ((CH l).map fun s=>[dS s]))) ?_ _ (H6 (st:=st) hd))
 show DRep (Fx g) w' v _
 rcases hrow.2 with⟨rfl,h0⟩|⟨gb,cap,cur,rfl,hbase,hg,hc1,hc2,-,ht⟩
 . have:CH l=[]:=List.eq_nil_of_length_eq_zero (by omega)
   rw[this]
   exact .nil
 . refine .sl (fun i _=>encStr ((CH l).getD i [])) (by simp[hlen]) hc1 (by omega) (fun e he=>?_) (fun h0=>⟨gb,0,rfl,fun i j hi' hj'=>⟨?_,?_⟩⟩) (fun i j _ _=>rfl) (fun i j e x he hx'=>?_)
   . obtain⟨s,-,rfl⟩:=H2.1 he;rfl
   . have hi2:i<(CH l).length:=by omega
     obtain rfl:j=0:=by omega
     refine AC.2 ?_
     rw[BP hg]
     have h5:cur.toList[i]? = ((CH l).map encStr)[i]?:=by
      rw[<-ht,E8 (by omega)]
     rw[show 0+i*1+0=i by omega,<-Array.getElem?_toList,h5,C6,A4 hi2]
     simp[List.getD,A4 hi2]
   . refine⟨hr.f0 _ _ (D9 hr.base hbase),fun i' hi3=>?_,fun t T' n c' hT hv=>?_⟩
     . have:=(hr.blk i' gb hi3).2;omega
     . obtain⟨⟨n',xs',h6⟩,-⟩:=hr.toks t T' hT
       have:=(h6.lt gb (by rw[hv];rfl)).2
       omega
   . rw[C6,C7]at he
     obtain⟨s,hs1,rfl⟩:=he
     cases j with
     | zero=>
      cases hx'
      simp only[List.getD,hs1,Option.getD_some]
      exact DRep.val _ C
     | succ j=>simp at hx'
end
end Go.Proofs.YtddfimjiihggmaaGreatDoor.Px
namespace Go.Proofs.YtddfimjiihggmaaGreatDoor
open Go.RowKit
variable {l:List Nat} {n x:Nat}
theorem BK (h:n≠0):Lib.decDigits n=BE n:=by
 induction n using Nat.strongRecOn with
 | _ n ih=>
  rw[Lib.decDigits,AR h]
  by_cases h2:n<10
  . rw[dif_pos h2,show n / 10=0 by omega,O1,show n % 10=n by omega]
    rfl
  . rw[dif_neg h2,ih (n / 10) (by omega) (by omega)]
    rfl
theorem CL (n k:Nat) (h:n<10 ^ k) (hk:0<k):(Lib.decDigits n).length<=k:=by
 induction k generalizing n with
 | zero=>omega
 | succ k ih=>
  rw[Lib.decDigits]
  by_cases h2:n<10
  . rw[dif_pos h2];simp
  . rw[dif_neg h2]
    have h3:0<k:=by
     by_cases e:k=0
     . subst e;simp at h;omega
     . omega
    have:=ih (n / 10) (by rw[Nat.pow_succ]at h;omega) h3
    simp;omega
theorem Pg (h:n<=9223372036854775808):(BE n).length<=20:=by
 by_cases e:n=0
 . subst e;rw[O1];simp
 . rw[<-BK e]
   exact CL n 20 (by omega) (by omega)
def sg (b:Bool) (m:Nat):Int:=if b then -(m:Int)else m
theorem sg_quo (b:Bool) (m:Nat):Int.tdiv (sg b m) 10=sg b (m / 10):=by
 unfold sg
 cases b
 . simp
 . simp[Int.neg_tdiv]
theorem sg_rem (b:Bool) (m:Nat):Int.tmod (sg b m) 10=sg b (m % 10):=by
 unfold sg
 cases b
 . simp[Int.tmod_eq_emod_of_nonneg]
 . simp[Int.neg_tmod,Int.tmod_eq_emod_of_nonneg]
theorem sg_zero (b:Bool) (m:Nat):sg b m=0↔m=0:=by
 unfold sg
 cases b<;>simp
theorem sg_of (n:Int):n=sg (decide (n<0)) n.natAbs:=by
 unfold sg
 by_cases h:n<0
 . simp[h];omega
 . simp[h];omega
def N5 (n:Nat):List Nat:=if h:n=0 then []else (n % 1000000000)::N5 (n / 1000000000)
termination_by n
decreasing_by exact Nat.div_lt_self (by omega) (by omega)
def K6:List Nat->Nat
 | []=>0
 | x::l=>x+1000000000*K6 l
def gok (l:List Nat):Prop:=∀ x∈l,x<1000000000
theorem U3:N5 0=[]:=by rw[N5];simp
theorem Cv (h:n≠0):N5 n=(n % 1000000000)::N5 (n / 1000000000):=by rw[N5];simp[h]
theorem N1 (n:Nat):K6 (N5 n)=n:=by
 induction n using Nat.strongRecOn with
 | _ n ih=>
  by_cases h:n=0
  . subst h;rw[U3];rfl
  . rw[Cv h,K6,ih (n / 1000000000) (Nat.div_lt_self (by omega) (by omega))]
    omega
theorem N7 (n:Nat):gok (N5 n):=by
 induction n using Nat.strongRecOn with
 | _ n ih=>
  by_cases h:n=0
  . subst h;rw[U3];intro x hx;simp at hx
  . rw[Cv h]
    intro x hx
    rcases List.mem_cons.1 hx with e|e
    . omega
    . exact ih (n / 1000000000) (Nat.div_lt_self (by omega) (by omega)) x e
theorem Nw:N5 n=[]↔n=0:=by
 constructor
 . intro h;have:=N1 n;rw[h]at this;exact this.symm
 . rintro rfl;exact U3
theorem Bc:gok (x::l)↔x<1000000000∧gok l:=by simp[gok]
theorem Ha {r:List Nat}:gok (l++r)↔gok l∧gok r:=by
 simp only[gok,List.mem_append]
 exact⟨fun h=>⟨fun x hx=>h x (.inl hx),fun x hx=>h x (.inr hx)⟩,fun h x hx=>hx.elim (h.1 x) (h.2 x)⟩
theorem Cd (l r:List Nat):K6 (l++r)=K6 l+1000000000 ^ l.length*K6 r:=by
 induction l with
 | nil=>simp[K6]
 | cons x l ih=>
  rw[List.cons_append,K6,ih,K6,List.length_cons,Nat.pow_succ,Nat.mul_add,<-Nat.mul_assoc,Nat.mul_comm (1000000000 ^ l.length) 1000000000]
  omega
theorem Ji (h:gok l):K6 l<1000000000 ^ l.length:=by
 induction l with
 | nil=>simp[K6]
 | cons x l ih=>
  obtain⟨h1,h2⟩:=Bc.1 h
  have:=ih h2
  rw[K6,List.length_cons,Nat.pow_succ]
  omega
theorem Kx (h:gok l) (hl:l.getLast? ≠ some 0):N5 (K6 l)=l:=by
 induction l with
 | nil=>exact U3
 | cons x l ih=>
  obtain⟨h1,h2⟩:=Bc.1 h
  by_cases he:l=[]
  . subst he
    have hx:x≠0:=by simpa using hl
    have e1:K6 [x]=x:=by simp[K6]
    rw[e1,Cv hx,Nat.mod_eq_of_lt h1,Nat.div_eq_of_lt h1,U3]
  . have hl':l.getLast? ≠ some 0:=by
     match l,he with
     | y::l,_=>simpa using hl
    have ih':=ih h2 hl'
    have hne:K6 l≠0:=fun e=>by rw[e,U3]at ih';exact he ih'.symm
    rw[K6,Cv (by omega)]
    have e1:(x+1000000000*K6 l) % 1000000000=x:=by omega
    have e2:(x+1000000000*K6 l) / 1000000000=K6 l:=by omega
    rw[e1,e2,ih']
def S7:List Nat->List Nat
 | []=>[]
 | x::l=>if S7 l=[]∧x=0 then []else x::S7 l
theorem DD (l:List Nat):K6 (S7 l)=K6 l:=by
 induction l with
 | nil=>rfl
 | cons x l ih=>
  rw[S7]
  split
  . rename_i h
    rw[h.1]at ih
    rw[K6,K6,<-ih,h.2]
    simp[K6]
  . rw[K6,K6,ih]
theorem Hj (h:gok l):gok (S7 l):=by
 induction l with
 | nil=>exact h
 | cons x l ih=>
  obtain⟨h1,h2⟩:=Bc.1 h
  rw[S7]
  split
  . intro x hx;simp at hx
  . exact Bc.2 ⟨h1,ih h2⟩
theorem Io (l:List Nat):(S7 l).getLast? ≠ some 0:=by
 induction l with
 | nil=>simp[S7]
 | cons x l ih=>
  rw[S7]
  split
  . simp
  . rename_i h
    by_cases he:S7 l=[]
    . rw[he]
      simp
      intro e
      exact h ⟨he,e⟩
    . match hd:S7 l,he,ih with
      | y::r,_,ih=>simpa using ih
theorem LM (h:gok l):S7 l=N5 (K6 l):=by
 have:=Kx (Hj h) (Io l)
 rw[DD]at this
 exact this.symm
theorem Im (l:List Nat) (x:Nat):S7 (l++[x])=if x=0 then S7 l else l++[x]:=by
 induction l with
 | nil=>simp[S7]
 | cons y l ih=>
  rw[List.cons_append,S7,ih]
  by_cases h:x=0
  . simp only[h,if_true]
    rw[S7]
  . simp only[h,if_false]
    rw[B5 (by simp)]
def DL (t:F6):List Nat:=if h:t=[]then []else natOf (t.drop (t.length-9))::DL (t.take (t.length-9))
termination_by t.length
decreasing_by
 rw[F4]
 have:0<t.length:=List.length_pos_iff.2 h
 omega
theorem Dv:DL []=[]:=by rw[DL];simp
theorem Du {t:F6} (h:t≠[]):DL t=natOf (t.drop (t.length-9))::DL (t.take (t.length-9)):=by rw[DL];simp[h]
theorem An {t:F6} (h:t.all U7=true):natOf t<10 ^ t.length:=by
 induction t using Gc with
 | h0=>simp[natOf]
 | h1 l b ih=>
  rw[List.all_append,D1]at h
  have hb:=Se (b:=b) (by simpa using h.2)
  have:=ih h.1
  rw[S6,C9,List.length_singleton,Nat.pow_succ]
  omega
theorem IY {t:F6} (h:t.all U7=true) (h0:t.head? ≠ some 48) (hn:t≠[]):natOf t≠0:=fun e=>by
 have:=DC h h0
 rw[e,O1]at this
 exact hn this.symm
theorem rdG_grp {t:F6} (h:t.all U7=true) (h0:t.head? ≠ some 48):DL t=N5 (natOf t):=by
 obtain⟨n,hn⟩:=H8 (t.length)
 induction n using Nat.strongRecOn generalizing t with
 | _ n ih=>
  by_cases he:t=[]
  . subst he;rw[Dv];exact U3.symm
  . have hpos:0<t.length:=List.length_pos_iff.2 he
    have hne:=IY h h0 he
    have hall:(t.take (t.length-9)).all U7=true∧(t.drop (t.length-9)).all U7=true:=by
     rw[<-D1,<-List.all_append,List.take_append_drop];exact h
    have hhead:(t.take (t.length-9)).head? ≠ some 48:=by
     match t,h0 with
     | x::l,h0=>
      cases hk:(x::l).length-9 with
      | zero=>simp
      | succ k=>simpa using h0
    have hsplit:=EC (t.take (t.length-9)) (t.drop (t.length-9))
    rw[List.take_append_drop]at hsplit
    have hdl:(t.drop (t.length-9)).length=min 9 t.length:=by rw[M7];omega
    have hlt:=An hall.2
    rw[hdl]at hsplit hlt
    rw[Du he,ih (t.take (t.length-9)).length (by rw[F4];omega) hall.1 hhead rfl,Cv hne]
    by_cases h9:9<=t.length
    . rw[Nat.min_eq_left h9]at hsplit hlt
      have e1:natOf t % 1000000000=natOf (t.drop (t.length-9)):=by omega
      have e2:natOf t / 1000000000=natOf (t.take (t.length-9)):=by omega
      rw[e1,e2]
    . rw[Nat.min_eq_right (by omega)]at hsplit hlt
      have e0:t.length-9=0:=by omega
      have hle:10 ^ t.length<=10 ^ 9:=Nat.pow_le_pow_right (by omega) (by omega)
      simp only[e0,List.take_zero,List.drop_zero]at hsplit hlt ⊢
      have e3:natOf ([]:F6)=0:=rfl
      have e1:natOf t % 1000000000=natOf t:=Nat.mod_eq_of_lt (by omega)
      have e2:natOf t / 1000000000=0:=Nat.div_eq_of_lt (by omega)
      rw[e1,e2,e3]
def BU:Nat->Nat->F6
 | 0,_=>[]
 | k+1,b=>BU k (b / 10)++[dig (b % 10)]
theorem BC (k b:Nat):(BU k b).length=k:=by
 induction k generalizing b with
 | zero=>rfl
 | succ k ih=>rw[BU,C9,ih];rfl
theorem RX (k b:Nat):(BU k b).all U7=true:=by
 induction k generalizing b with
 | zero=>rfl
 | succ k ih=>rw[BU,List.all_append,ih];simp[Np (Nat.mod_lt b (by omega:0<10))]
theorem MK {k b:Nat} (h:b<10 ^ k):natOf (BU k b)=b:=by
 induction k generalizing b with
 | zero=>simp at h;subst h;rfl
 | succ k ih=>
  rw[Nat.pow_succ]at h
  rw[BU,S6,ih (by omega),Sf (Nat.mod_lt _ (by omega))]
  omega
theorem Pf {a:Nat} (ha:a≠0) (k b:Nat) (hb:b<10 ^ k):BE (a*10 ^ k+b)=BE a++BU k b:=by
 induction k generalizing b with
 | zero=>simp at hb;subst hb;simp[BU]
 | succ k ih=>
  rw[Nat.pow_succ]at hb
  have hp:0<10 ^ k:=Nat.pow_pos (by omega)
  have hap:0<a*10 ^ k:=Nat.mul_pos (by omega) hp
  have e0:a*10 ^ (k+1)=10*(a*10 ^ k):=by rw[Nat.pow_succ,<-Nat.mul_assoc];omega
  have e1:(10*(a*10 ^ k)+b) / 10=a*10 ^ k+b / 10:=by omega
  have e2:(10*(a*10 ^ k)+b) % 10=b % 10:=by omega
  rw[e0,AR (by omega),e1,e2,ih (b / 10) (by omega),BU,G8]
def fmt (n:Nat):F6:=if n=0 then [48]else BE n
theorem Jj {k:Nat} (h:n<10 ^ k) (hk:0<k):List.replicate (k-(fmt n).length) 48++fmt n=BU k n:=by
 have key:∀ (k n:Nat),n<10 ^ k->(BE n).length<=k∧List.replicate (k-(BE n).length) 48++BE n=BU k n:=by
  intro k
  induction k with
  | zero=>intro n h;simp at h;subst h;simp[O1,BU]
  | succ k ih=>
   intro n h
   rw[Nat.pow_succ]at h
   obtain⟨h1,h2⟩:=ih (n / 10) (by omega)
   by_cases hn:n=0
   . subst hn
     rw[O1]at h2 ⊢
     simp only[List.length_nil,Nat.sub_zero,List.append_nil]at h2 ⊢
     refine⟨by omega,?_⟩
     rw[BU,<-h2,show(0:Nat) % 10=0 from rfl,List.replicate_succ']
     rfl
   . rw[AR hn,BU,C9,List.length_singleton]
     refine⟨by omega,?_⟩
     rw[<-h2,show k+1-((BE (n / 10)).length+1)=k-(BE (n / 10)).length by omega,G8]
 by_cases hn:n=0
 . subst hn
   have:=(key k 0 h).2
   rw[O1]at this
   simp only[List.length_nil,Nat.sub_zero,List.append_nil]at this
   rw[fmt,B9 rfl,<-this]
   obtain⟨j,rfl⟩:∃ j,k=j+1:=⟨k-1,by omega⟩
   rw[List.replicate_succ']
   simp
 . rw[fmt,B5 hn];exact(key k n h).2
theorem Jk {k:Nat} (h:n<10 ^ k) (hk:0<k):(fmt n).length<=k:=by
 have:=G4 List.length (Jj h hk)
 rw[C9,List.length_replicate,BC]at this
 omega
def pads:List Nat->F6
 | []=>[]
 | x::l=>pads l++BU 9 x
theorem RW (l:List Nat):(pads l).all U7=true:=by
 induction l with
 | nil=>rfl
 | cons x l ih=>rw[pads,List.all_append,ih,RX];rfl
theorem BB (l:List Nat):(pads l).length=9*l.length:=by
 induction l with
 | nil=>rfl
 | cons x l ih=>rw[pads,C9,ih,BC,List.length_cons];omega
theorem MJ (h:gok l):natOf (pads l)=K6 l:=by
 induction l with
 | nil=>rfl
 | cons x l ih=>
  obtain⟨h1,h2⟩:=Bc.1 h
  rw[pads,EC,ih h2,BC,MK h1,K6]
  omega
theorem Mi (h:gok l) (hx:x≠0):BE (K6 (l++[x]))=BE x++pads l:=by
 induction l with
 | nil=>simp[K6,pads]
 | cons y l ih=>
  obtain⟨h1,h2⟩:=Bc.1 h
  have hne:K6 (l++[x])≠0:=by
   rw[Cd]
   have:0<1000000000 ^ l.length:=Nat.pow_pos (by omega)
   simp only[K6,Nat.mul_zero,Nat.add_zero]
   have:0<1000000000 ^ l.length*x:=Nat.mul_pos this (by omega)
   omega
  rw[List.cons_append,K6,Nat.add_comm,Nat.mul_comm,show(1000000000:Nat)=10 ^ 9 from rfl,Pf hne 9 y h1,ih h2,pads,G8]
open Go.RowKit Px
def O8 (k:F6):List (F6×F6)->F6
 | []=>[]
 | (k',v)::l=>if k'=k then v else O8 k l
def Ai (k v:F6):List (F6×F6)->List (F6×F6)
 | []=>[(k,v)]
 | (k',v')::l=>if k'=k then (k,v)::l else (k',v')::Ai k v l
def Y9 (l:List (F6×F6)):List (F6×DV):=l.map fun p=>(p.1,dS p.2)
theorem Ja (k:F6) (l:List (F6×F6)):ED (dS []) k (Y9 l)=dS (O8 k l):=by
 induction l with
 | nil=>rfl
 | cons p l ih=>
  show(if p.1=k then dS p.2 else ED (dS []) k (Y9 l))=dS (if p.1=k then p.2 else O8 k l)
  split
  . rfl
  . exact ih
theorem MM (k v:F6) (l:List (F6×F6)):Ao k (dS v) (Y9 l)=Y9 (Ai k v l):=by
 induction l with
 | nil=>rfl
 | cons p l ih=>
  show(if p.1=k then (k,dS v)::Y9 l else (p.1,dS p.2)::Ao k (dS v) (Y9 l))=Y9 (if p.1=k then (k,v)::l else (p.1,p.2)::Ai k v l)
  split
  . rfl
  . rw[ih];rfl
theorem Kz (k v j:F6) (l:List (F6×F6)):O8 j (Ai k v l)=if j=k then v else O8 j l:=by
 induction l with
 | nil=>
  show(if k=j then v else [])=if j=k then v else []
  by_cases h:j=k
  . rw[B9 h,B9 h.symm]
  . rw[B5 h,B5 (fun e=>h e.symm)]
 | cons p l ih=>
  show O8 j (if p.1=k then (k,v)::l else (p.1,p.2)::Ai k v l)=if j=k then v else (if p.1=j then p.2 else O8 j l)
  by_cases hp:p.1=k
  . rw[B9 hp]
    show(if k=j then v else O8 j l)=_
    by_cases h:j=k
    . rw[B9 h,B9 h.symm]
    . rw[B5 h,B5 (fun e=>h e.symm),B5 (fun e=>h (e.symm.trans hp))]
  . rw[B5 hp]
    show(if p.1=j then p.2 else O8 j (Ai k v l))=_
    by_cases hj:p.1=j
    . rw[B9 hj,B9 hj,B5 (fun e=>hp (hj.trans e))]
    . rw[B5 hj,B5 hj,ih]
abbrev Cl (a b:F6):F6:=J3 (val a+val b)
theorem dec_le {n k:Nat} (h:n<10 ^ k):(BE n).length<=k:=by
 by_cases h0:n=0
 . rw[h0,O1];simp
 . rw[<-BK h0]
   refine CL n k h ?_
   rcases H7 k with rfl|hk
   . simp at h;omega
   . exact hk
theorem EU {z:Int} {k:Nat} (h:z.natAbs<10 ^ k):(J3 z).length<=k+1:=by
 have:=dec_le h
 unfold J3
 split<;>simp<;>omega
theorem GV {a:F6} {k:Nat} (h:a.length<=k):(val a).natAbs<10 ^ k:=by
 rw[<-BW]
 have h1:=An (U8 a)
 have hb:(BM a).length<=a.length:=by unfold BM;split<;>simp
 have h2:(L9 a).1.length<=a.length:=by
  unfold L9
  split
  . exact D9 (List.dropWhile_suffix _).length_le hb
  . simp
 exact I9 h1 (Nat.pow_le_pow_right (by decide) (D9 h2 h))
theorem LY {a b:F6} {k:Nat} (ha:a.length<=k) (hb:b.length<=k):(Cl a b).length<=k+2:=by
 have h1:=GV ha
 have h2:=GV hb
 refine EU (k:=k+1) ?_
 rw[Nat.pow_succ]
 omega
theorem Hz {k v:F6} {l:List (F6×F6)} {n:Nat} (hv:v.length<=n) (hl:∀ j,(O8 j l).length<=n) (j:F6):(O8 j (Ai k v l)).length<=n:=by
 rw[Kz]
 split
 . exact hv
 . exact hl j
open Go.RowKit Px Go.Sort Go.Lib
theorem ltS_dec (a b:F6):ltS a b=decide (a<b):=bytesLess_eq a b
theorem GH (a b:F6):decide (a<=b) = !ltS b a:=by
 rw[ltS_dec,Bool.eq_iff_iff]
 simp
abbrev HA (ss:List F6):List F6:=ss.mergeSort fun x y=>decide (x<=y)
theorem Kj (ss:List F6):(HA ss).Pairwise fun x y=>ltS y x=false:=by
 have h:=List.pairwise_mergeSort (le:=fun x y:F6=>decide (x<=y)) (fun a b c h1 h2=>by
  rw[GH,Bool.not_eq_true']at h1 h2 ⊢
  rcases X3 a b with e|e|e
  . rcases X3 b c with e2|e2|e2
    . exact Z4 (BX e e2)
    . subst e2;exact Z4 e
    . rw[h2]at e2;cases e2
  . subst e;exact h2
  . rw[h1]at e;cases e) (fun a b=>by
  rw[GH,GH]
  rcases X3 a b with e|e|e
  . rw[Z4 e];rfl
  . subst e;rw[U2];rfl
  . rw[Z4 e];simp) ss
 refine h.imp fun h=>?_
 rw[GH]at h
 simpa using h
abbrev Cf:=F6×F6
def Bf (A:F6->Int):List Cf->Int
 | []=>0
 | c::e=>val c.2*A c.1+Bf A e
theorem Hg (A:F6->Int) (a b:List Cf):Bf A (a++b)=Bf A a+Bf A b:=by
 induction a with
 | nil=>simp[Bf]
 | cons c a ih=>simp only[List.cons_append,Bf,ih];omega
theorem Sc {A:F6->Int} {a b:List Cf} (h:a.Perm b):Bf A a=Bf A b:=by
 induction h with
 | nil=>rfl
 | cons x _ ih=>simp only[Bf,ih]
 | swap x y l=>simp only[Bf];omega
 | trans _ _ h1 h2=>exact h1.trans h2
def one (k j:F6):Int:=if j=k then 1 else 0
abbrev cf (k:F6) (e:List Cf):Int:=Bf (one k) e
def O3 (e:List Cf):Nat->List (F6×F6)
 | 0=>[]
 | i+1=>match e[i]? with
  | none=>O3 e i
  | some c=>Ai c.1 (Cl (O8 c.1 (O3 e i)) c.2) (O3 e i)
theorem Fw:val []=0:=by rw[<-S9,R5]
theorem Sb (A:F6->Int) (k v:F6) (M:List (F6×F6)):Bf A (Ai k v M)=Bf A M-val (O8 k M)*A k+val v*A k:=by
 induction M with
 | nil=>simp[Ai,Bf,O8,Fw]
 | cons p M ih=>
  show Bf A (if p.1=k then (k,v)::M else (p.1,p.2)::Ai k v M)=Bf A (p::M)-val (if p.1=k then p.2 else O8 k M)*A k+val v*A k
  by_cases h:p.1=k
  . rw[B9 h,B9 h]
    simp only[Bf]
    rw[h]
    omega
  . rw[B5 h,B5 h]
    simp only[Bf,ih]
    omega
theorem Hf (A:F6->Int) (e:List Cf) (i:Nat):Bf A (O3 e i)=Bf A (e.take i):=by
 induction i with
 | zero=>rfl
 | succ i ih=>
  rw[O3]
  cases h:e[i]? with
  | none=>
   rw[List.getElem?_eq_none_iff]at h
   simp only[ih,E3 h,E3 (Nat.le_succ_of_le h)]
  | some c=>
   simp only
   rw[Sb,R5,ih,H4,h,Option.toList,Hg,Int.add_mul]
   simp only[Bf]
   omega
theorem Ep (k v:F6) (M:List (F6×F6)):(Ai k v M).map (·.1)=if k∈M.map (·.1)then M.map (·.1)else M.map (·.1)++[k]:=by
 induction M with
 | nil=>simp[Ai]
 | cons p M ih=>
  show(if p.1=k then (k,v)::M else (p.1,p.2)::Ai k v M).map (·.1)=_
  by_cases h:p.1=k
  . rw[B9 h,B9 (by simp[h])]
    simp[h]
  . rw[B5 h,List.map_cons,ih]
    by_cases h2:k∈M.map (·.1)
    . rw[B9 h2,B9 (by simp only[List.map_cons,List.mem_cons];exact .inr h2)]
      rfl
    . rw[B5 h2,B5 (by simp only[List.map_cons,List.mem_cons,not_or];exact⟨fun e=>h e.symm,h2⟩)]
      rfl
theorem CA (e:List Cf) (i:Nat):((O3 e i).map (·.1)).Nodup:=by
 induction i with
 | zero=>exact List.nodup_nil
 | succ i ih=>
  rw[O3]
  cases h:e[i]? with
  | none=>exact ih
  | some c=>
   simp only
   rw[Ep]
   split
   . exact ih
   . rename_i h2
     rw[List.nodup_append]
     exact⟨ih,by simp,fun a ha b hb=>by
      rw[List.mem_singleton.1 hb]
      rintro rfl
      exact h2 ha⟩
theorem Kt (e:List Cf) (i:Nat):(O3 e i).length<=i:=by
 induction i with
 | zero=>exact E0 _
 | succ i ih=>
  rw[O3]
  cases h:e[i]? with
  | none=>exact Nat.le_succ_of_le ih
  | some c=>
   simp only
   have:=G4 List.length (Ep c.1 (Cl (O8 c.1 (O3 e i)) c.2) (O3 e i))
   rw[A8]at this
   split at this
   . rw[A8]at this;omega
   . rw[C9,A8]at this;simp at this;omega
theorem SI (e:List Cf) (i:Nat) (k:F6) (hk:k∈(O3 e i).map (·.1)):∃ c∈e,c.1=k:=by
 induction i with
 | zero=>cases hk
 | succ i ih=>
  rw[O3]at hk
  cases h:e[i]? with
  | none=>rw[h]at hk;exact ih hk
  | some c=>
   rw[h]at hk
   simp only at hk
   rw[Ep]at hk
   split at hk
   . exact ih hk
   . rcases List.mem_append.1 hk with hk|hk
     . exact ih hk
     . exact⟨c,B8 h,(List.mem_singleton.1 hk).symm⟩
theorem ET {k:F6} {M:List (F6×F6)} (h:k ∉ M.map (·.1)):cf k M=0:=by
 induction M with
 | nil=>rfl
 | cons p M ih=>
  simp only[List.map_cons,List.mem_cons,not_or]at h
  show val p.2*(if p.1=k then 1 else 0)+cf k M=0
  rw[B5 (fun e=>h.1 e.symm),ih h.2]
  omega
theorem So {k:F6} {M:List (F6×F6)} (h:(M.map (·.1)).Nodup):cf k M=val (O8 k M):=by
 induction M with
 | nil=>rw[O8,Fw];rfl
 | cons p M ih=>
  rw[List.map_cons,List.nodup_cons]at h
  show val p.2*(if p.1=k then 1 else 0)+cf k M=val (if p.1=k then p.2 else O8 k M)
  by_cases e:p.1=k
  . rw[B9 e,B9 e,ET (e ▸ h.1)]
    omega
  . rw[B5 e,B5 e,ih h.2]
    omega
theorem GN {M:List (F6×F6)} (h:(M.map (·.1)).Nodup) {p:F6×F6} (hp:p∈M):O8 p.1 M=p.2:=by
 induction M with
 | nil=>cases hp
 | cons q M ih=>
  rw[List.map_cons,List.nodup_cons]at h
  show(if q.1=p.1 then q.2 else O8 p.1 M)=p.2
  rcases List.mem_cons.1 hp with rfl|hp
  . rw[B9 rfl]
  . have hin:p.1∈M.map (·.1):=List.mem_map_of_mem hp
    rw[B5 fun e=>h.1 (by rw[e];exact hin),ih h.2 hp]
theorem PZ {k:F6} {M:List (F6×F6)} (h:k ∉ M.map (·.1)):O8 k M=[]:=by
 induction M with
 | nil=>rfl
 | cons p M ih=>
  simp only[List.map_cons,List.mem_cons,not_or]at h
  show(if p.1=k then p.2 else O8 k M)=[]
  rw[B5 (fun e=>h.1 e.symm),ih h.2]
theorem Ql (e:List Cf) (i:Nat) (k:F6):∃ z,O8 k (O3 e i)=J3 z:=by
 induction i with
 | zero=>exact⟨0,by rw[S9];rfl⟩
 | succ i ih=>
  rw[O3]
  cases h:e[i]? with
  | none=>exact ih
  | some c=>
   simp only
   rw[Kz]
   split
   . exact⟨_,C⟩
   . exact ih
theorem BN (e:List Cf) (k:F6):O8 k (O3 e e.length)=J3 (cf k e):=by
 obtain⟨z,hz⟩:=Ql e e.length k
 have h1:=So (k:=k) (CA e e.length)
 rw[hz,R5]at h1
 rw[hz,<-h1,cf,Hf,I2]
def keep (M:List (F6×F6)) (k:F6):Option Cf:=if O8 k M=[]then none else some (k,O8 k M)
def nf (e:List Cf):List Cf:=(HA ((O3 e e.length).map (·.1))).filterMap (keep (O3 e e.length))
theorem Sd (A:F6->Int) (M:List (F6×F6)) (ks:List F6):Bf A (ks.filterMap (keep M))=Bf A (ks.map fun k=>(k,O8 k M)):=by
 induction ks with
 | nil=>rfl
 | cons k ks ih=>
  rw[List.filterMap_cons,List.map_cons]
  by_cases h:O8 k M=[]
  . rw[keep,B9 h]
    simp only[Bf,h,Fw,ih]
    omega
  . rw[keep,B5 h]
    simp only[Bf,ih]
theorem evA_nf (A:F6->Int) (e:List Cf):Bf A (nf e)=Bf A e:=by
 have h1:Bf A ((O3 e e.length).map fun p=>(p.1,O8 p.1 (O3 e e.length)))=Bf A (O3 e e.length):=by
  refine G4 _ ?_
  conv=>rhs;rw[<-List.map_id (O3 e e.length)]
  exact List.map_congr_left fun p hp=>by rw[GN (CA e _) hp];rfl
 have h2:Bf A ((HA ((O3 e e.length).map (·.1))).map fun k=>(k,O8 k (O3 e e.length)))=Bf A (((O3 e e.length).map (·.1)).map fun k=>(k,O8 k (O3 e e.length))):=Sc ((List.mergeSort_perm _ _).map _)
 rw[nf,Sd,h2,List.map_map]
 refine Eq.trans h1 ?_
 rw[Hf,I2]
theorem CZ (e:List Cf) (p:Cf):p∈nf e↔cf p.1 e≠0∧p.2=J3 (cf p.1 e):=by
 rw[nf,List.mem_filterMap]
 constructor
 . rintro⟨k,-,h⟩
   unfold keep at h
   split at h
   . cases h
   . rename_i hk
     cases h
     rw[BN]at hk ⊢
     exact⟨fun e=>hk (Ey.2 e),C⟩
 . rintro⟨h1,h2⟩
   refine⟨p.1,?_,?_⟩
   . rw[List.mem_mergeSort]
     refine Decidable.byContradiction fun h=>h1 ?_
     have:=ET h
     rwa [cf,Hf,I2]at this
   . rw[keep,BN,B5 fun e=>h1 (Ey.1 e),<-h2]
abbrev LS (l:List Cf):Prop:=l.Pairwise fun a b=>ltS a.1 b.1=true
theorem MG (e:List Cf):LS (nf e):=by
 unfold LS
 rw[nf,List.pairwise_filterMap]
 have h1:=Kj ((O3 e e.length).map (·.1))
 have h2:(HA ((O3 e e.length).map (·.1))).Nodup:=(List.mergeSort_perm _ _).nodup_iff.2 (CA e _)
 refine(h1.and h2).imp fun {a b} h p hp q hq=>?_
 have e1:p.1=a:=by
  unfold keep at hp
  split at hp
  . cases hp
  . cases hp;rfl
 have e2:q.1=b:=by
  unfold keep at hq
  split at hq
  . cases hq
  . cases hq;rfl
 rw[e1,e2]
 rcases X3 a b with h3|h3|h3
 . exact h3
 . exact G5 h3 h.2
 . rw[h.1]at h3;cases h3
theorem OL {a b:List Cf} (ha:LS a) (hb:LS b) (h:∀ p,p∈a↔p∈b):a=b:=by
 have n1:a.Nodup:=ha.imp fun {x y} h e=>by rw[e,U2]at h;cases h
 have n2:b.Nodup:=hb.imp fun {x y} h e=>by rw[e,U2]at h;cases h
 exact List.Perm.eq_of_pairwise (le:=fun a b:Cf=>ltS a.1 b.1=true) (fun x y _ _ h1 h2=>by rw[Z4 h1]at h2;cases h2) ha hb ((List.perm_ext_iff_of_nodup n1 n2).2 h)
theorem nf_ext {a b:List Cf} (h:∀ k,cf k a=cf k b):nf a=nf b:=OL (MG a) (MG b) fun p=>by rw[CZ,CZ,h]
theorem Ek (e:List Cf):(nf e).length<=e.length:=by
 refine D9 (List.length_filterMap_le _ _) ?_
 rw[List.length_mergeSort,A8]
 exact Kt e _
theorem Sn {k:F6} {e:List Cf} (h:cf k e≠0):∃ c∈e,c.1=k:=by
 refine Decidable.byContradiction fun h1=>h ?_
 refine ET fun h2=>h1 ?_
 obtain⟨c,hc,e⟩:=H2.1 h2
 exact⟨c,hc,e⟩
theorem GC {e:List Cf} {p:Cf} (h:p∈nf e):∃ c∈e,c.1=p.1:=Sn ((CZ e p).1 h).1
theorem Re {e:List Cf} {p:Cf} (h:p∈nf e):Cu p.2=true:=by rw[((CZ e p).1 h).2];exact Ct _
theorem nf_nf (e:List Cf):nf (nf e)=nf e:=nf_ext fun _=>evA_nf _ e
abbrev Ln:=RLn (List Cf)
def ngC (c:Cf):Cf:=(c.1,J3 (- val c.2))
def lnC (l:Ln):List Cf:=if l.2.1 then l.2.2.map ngC else l.2.2
def W8 (ls:List Ln):List Cf:=ls.flatMap lnC
abbrev rS (A:F6->Int) (ls:List Ln):Int:=Bf A (W8 ls)
def rNm (ls:List Ln):List F6:=ls.flatMap fun l=>l.2.2.map (·.1)
theorem PK (l:Ln):(lnC l).map (·.1)=l.2.2.map (·.1):=by
 unfold lnC
 split
 . rw[List.map_map];rfl
 . rfl
theorem rNm_eq (ls:List Ln):(W8 ls).map (·.1)=rNm ls:=by
 unfold W8 rNm
 induction ls with
 | nil=>rfl
 | cons l ls ih=>simp only[List.flatMap_cons,List.map_append,ih,PK]
theorem RF {k:F6} {ls:List Ln} (h:k ∉ rNm ls):rS (one k) ls=0:=by
 rcases Decidable.em (rS (one k) ls=0)with h1|h1
 . exact h1
 . obtain⟨c,h2,h3⟩:=Sn (e:=W8 ls) h1
   exact G5 (by rw[<-rNm_eq];exact H2.2 ⟨c,h2,h3⟩) h
def Fs (ls:List Ln):Bool:=(rNm ls).all fun k=>decide (rS (one k) ls=0)
theorem Sr {ls:List Ln}:Fs ls=true ↔ ∀ k,rS (one k) ls=0:=by
 rw[Fs,E5]
 refine⟨fun h k=>?_,fun h k _=>B0 (h k)⟩
 rcases Decidable.em (k∈rNm ls)with h1|h1
 . exact of_decide_eq_true (h k h1)
 . exact RF h1
theorem Sq (ls:List Ln):((O3 (W8 ls) (W8 ls).length).all fun p=>p.2==[])=Fs ls:=by
 rw[Bool.eq_iff_iff,Sr,E5]
 have hnd:=CA (W8 ls) (W8 ls).length
 have hz:∀ z:Int,J3 z=[]↔z=0:=fun z=>⟨fun h=>by have:=G4 val h;rwa [R5,Fw]at this,fun h=>by rw[h];exact S9⟩
 constructor
 . intro h k
   rcases Decidable.em (k∈(O3 (W8 ls) (W8 ls).length).map (·.1))with h1|h1
   . obtain⟨p,hp,rfl⟩:=H2.1 h1
     have h2:=h p hp
     have h3:=GN hnd hp
     rw[BN]at h3
     exact(hz _).1 (h3.trans (by simpa using h2))
   . have h3:=PZ h1
     rw[BN]at h3
     exact(hz _).1 h3
 . intro h p hp
   have h3:=GN hnd hp
   rw[BN]at h3
   rw[<-h3,(hz _).2 (h p.1)]
   rfl
def Hc (p:F6->Bool) (s:F6):Bool:=decide ((R7 46 s).length<=6)&&(R7 46 s).all p
def JG (s:F6):Bool:=s==[42]||s==[43]
def M0 (nb:F6->Bool) (s:F6):Bool:=Hc (fun x=>JG x||nb x) s
abbrev Ac:=F6×Int
def Ht (code parent:F6):Bool:=parent.isPrefixOf code&&(match code.drop parent.length with | []=>true|b::_=>b==46)
def stA (code:F6) (b:Ac×Bool) (a:Ac):Ac×Bool:=if Ht code a.1&&(!b.2||decide (b.1.1.length<a.1.length))then (a,true)else b
def Pb (code:F6) (l:List Ac):Ac×Bool:=l.foldl (stA code) (([],0),false)
section
variable (tp:F6->Bool) (ce:List Cf->Int) (nm:List Cf->List Cf)
abbrev Ru:=Dp (List Cf)
def Hy:List Ln->Int
 | []=>0
 | l::ls=>if tp l.1 then (if ce l.2.2=0 then Hy ls else ce l.2.2)else 3
def rE (r:Ru):Int:=match Z0 r.1 with
 | none=>7
 | some _=>if 64<r.2.length then 4 else Hy tp ce r.2
theorem PI {ls:List Ln}:Hy tp ce ls=0 ↔ ∀ l∈ls,tp l.1=true∧ce l.2.2=0:=by
 induction ls with
 | nil=>simp[Hy]
 | cons l ls ih=>
  rw[Hy]
  cases h:tp l.1 with
  | false=>simp[h]
  | true=>
   rw[B9 rfl]
   by_cases h2:ce l.2.2=0
   . rw[B9 h2,ih];simp[h,h2]
   . rw[B5 h2];simp[h2]
theorem GB {r:Ru}:rE tp ce r=0↔(∃ k,Z0 r.1=some k)∧r.2.length<=64 ∧ ∀ l∈r.2,tp l.1=true∧ce l.2.2=0:=by
 unfold rE
 cases h:Z0 r.1 with
 | none=>simp
 | some k=>
  simp only
  by_cases h2:64<r.2.length
  . rw[B9 h2]
    refine⟨fun h=>by simp at h,fun h=>?_⟩
    omega
  . rw[B5 h2,PI]
    exact⟨fun h=>⟨⟨k,C⟩,by omega,h⟩,fun h=>h.2.2⟩
def luE (k:Pq) (ch:List Ac) (x:Ln):Int:=
 if ((R7 46 x.1).any fun s=>(s==[42] && !k.2.2.2.contains 42)||(s==[43] && !k.2.2.2.contains 43))=true then 9
 else if ((nm x.2.2).any fun c=>!k.2.2.1.contains c.1)=true then 6
 else if (Pb x.1 ch).2 then 0 else 6
def HH (k:Pq) (ch:List Ac):List Ln->Int
 | []=>0
 | x::l=>if luE nm k ch x=0 then HH k ch l else luE nm k ch x
def OZ (ch:List Ac):Nat->List Ru->List Ru->Int×Int
 | _,_,[]=>(0,0)
 | i,pre,r::l=>
  if rE tp ce r≠0 then (i,rE tp ce r)
  else if (pre.any fun x=>x.1==r.1)=true then (i,5)
  else match Z0 r.1 with
   | none=>(0,0)
   | some k=>if HH nm k ch r.2≠0 then (i,HH nm k ch r.2)else if Fs r.2 then OZ ch (i+1) (pre++[r]) l else (i,14)
def Pa (l:List Ru) (n:Int):Option Ru:=l.find? fun r=>r.1==n
end
section
variable (tp:F6->Bool) (ce:List Cf->Int) (nm:List Cf->List Cf) (pe:F6->Option (List Cf)) (pr:List Cf->F6)
def JN:List Ru->Int
 | []=>0
 | r::l=>if rE tp ce r=0 then JN l else rE tp ce r
theorem Qu {l:List Ru}:JN tp ce l=0 ↔ ∀ r∈l,rE tp ce r=0:=by
 induction l with
 | nil=>simp[JN]
 | cons r l ih=>
  rw[JN]
  by_cases h:rE tp ce r=0
  . rw[B9 h,ih];simp[h]
  . rw[B5 h];simp[h]
def Hw (l:List Ru):Int:=if 64<l.length then 4 else if JN tp ce l≠0 then JN tp ce l else if 65536<(P8 pr l).length then 4 else 0
def prnT (l:List Ru):F6:=if Hw tp ce pr l=0 then P8 pr l else []
variable {tp ce nm pe pr}
end
theorem Ks:kndL.map (·.1)=(List.range 19).map fun n:Nat=>((n+1:Nat):Int):=by decide
theorem kndF_is (n:Int):(Z0 n).isSome=(decide (1<=n)&&decide (n<=19)):=by
 rw[Bool.eq_iff_iff,D1,decide_eq_true_iff,decide_eq_true_iff]
 constructor
 . intro h
   obtain⟨k,hk⟩:=Option.isSome_iff_exists.1 h
   obtain⟨h1,rfl⟩:=BZ hk
   have:k.1∈kndL.map (·.1):=H2.2 ⟨k,h1,rfl⟩
   rw[Ks,H2]at this
   obtain⟨m,h2,h3⟩:=this
   have:=List.mem_range.1 h2
   omega
 . rintro⟨h1,h2⟩
   have:n∈kndL.map (·.1):=by
    rw[Ks,H2]
    exact⟨(n-1).toNat,List.mem_range.2 (by omega),by omega⟩
   obtain⟨k,h3,rfl⟩:=H2.1 this
   rw[Cb h3];rfl
theorem Kc (p s:F6):p.isPrefixOf s=(decide (p.length<=s.length)&&(s.take p.length==p)):=by
 rw[Bool.eq_iff_iff,List.isPrefixOf_iff_prefix,List.prefix_iff_eq_take]
 constructor
 . intro h
   have h1:p.length<=s.length:=by have:=G4 List.length h;rw[F4]at this;omega
   rw[D1]
   exact⟨B0 h1,beq_iff_eq.2 h.symm⟩
 . intro h
   rw[D1]at h
   exact(beq_iff_eq.1 h.2).symm
theorem wHasPre (s p:F6):PCalls Tryz.prog 211 [dS s,dS p] (.d (dB (p.isPrefixOf s))):=by
 rw[Kc]
 by_cases h:p.length<=s.length
 . have t1:decide ((s.length:Int) ≥ (p.length:Int))=true:=B0 (by omega)
   have h1:s.take ((p.length:Int)).toNat=s.take p.length:=by rw[H1]
   have h2:(p.length:Int)<=s.length:=by omega
   rw[B0 h,Bool.true_and]
   obtain⟨t,ht⟩:=H8 (s.take p.length)
   rw[<-ht]at h1 ⊢
   clear ht
   refine L5 Tryz.func211 C Tryz.ntmps211 Tryz.results211 fun B w0=>?_
   refine D7 (H3 C (yQ (D7 (B6 C (N3 C (B6 C (N3 C (yB C C C C (B6 C ?_)))))))));rw[t1];refine B6 C (B6 C (N3 C (W6 (by omega) h2 h1 C C (B6 C (N6 C C (L0 C C (H3 C (yQ (C4 ?_)))))))))
   exact M5 C C
 . have t1:decide ((s.length:Int) ≥ (p.length:Int))=false:=A7 (by omega)
   rw[A7 h,Bool.false_and]
   refine L5 Tryz.func211 C Tryz.ntmps211 Tryz.results211 fun B w0=>?_
   refine D7 (H3 C (yQ (D7 (B6 C (N3 C (B6 C (N3 C (yB C C C C (B6 C ?_)))))))));rw[t1];refine yO C (yO C (yO C (yO C (yO C (yO C (K9 C C (H3 C (yQ (C4 ?_)))))))))
   exact M5 C C
theorem pre_len {p s:F6} (h:p.isPrefixOf s=true):p.length<=s.length:=by
 rw[Kc,D1]at h
 exact of_decide_eq_true h.1
theorem QV (s p:F6):PCalls Tryz.prog 164 [dS s,dS p] (.tup [dS (if p.isPrefixOf s then s.drop p.length else s),dB (p.isPrefixOf s)]):=by
 have c1:=wHasPre s p
 cases h:p.isPrefixOf s with
 | true=>
  rw[h]at c1
  have h2:(p.length:Int)<=s.length:=by have:=pre_len h;omega
  have h1:s.drop ((p.length:Int)).toNat=s.drop p.length:=by rw[H1]
  rw[B9 rfl]
  obtain⟨t,ht⟩:=H8 (s.drop p.length)
  rw[<-ht]at h1 ⊢
  clear ht
  refine L5 Tryz.func164 C Tryz.ntmps164 Tryz.results164 fun B w0=>?_
  refine D7 (H3 C (H3 C (yQ (B2 (D7 (B6 C (B6 C (yC (c1) C C (yU C C C ?_)))))))));refine yQ (D8 C (B1 (D7 (B6 C (B6 C (N3 C (V3 (by omega) h2 h1 C C (H3 C (H3 C ?_)))))))));refine yQ (C4 ?_)
  exact Y7 C C C
 | false=>
  rw[h]at c1
  rw[B5 (by simp)]
  refine L5 Tryz.func164 C Tryz.ntmps164 Tryz.results164 fun B w0=>?_
  refine D7 (H3 C (H3 C (yQ (B2 (D7 (B6 C (B6 C (yC (c1) C C (yU C C C ?_)))))))));refine yQ (G2 C (D7 (B6 C (H3 C (H3 C (yQ (C4 (A5 ?_))))))))
  exact Y7 C C C
theorem wCutPre (s p:F6):PCalls Tryz.prog 121 [dS s,dS p] (.tup [dS (if p.isPrefixOf s then s.drop p.length else s),dB (p.isPrefixOf s)]):=by
 have c1:=QV s p
 obtain⟨t,ht⟩:=H8 ((if p.isPrefixOf s then s.drop p.length else s))
 obtain⟨b,hb⟩:=H8 (p.isPrefixOf s)
 rw[<-ht,<-hb]at c1 ⊢
 clear ht hb
 refine L5 Tryz.func121 C Tryz.ntmps121 Tryz.results121 fun B w0=>?_
 refine D7 (H3 C (H3 C (yQ (D7 (B6 C (B6 C (yC (c1) C C (yX C C (yX C C ?_)))))))));refine H3 C (H3 C (yQ (C4 ?_)))
 exact Y7 C C C
theorem u8_int (x:UInt8) (n:Nat) (hn:n<256):((x.toNat:Int)==(n:Int))=(x==UInt8.ofNat n):=by
 rw[Bool.eq_iff_iff,beq_iff_eq,beq_iff_eq]
 constructor
 . intro h
   have h1:x.toNat=n:=by omega
   rw[<-h1];simp
 . rintro rfl
   simp;omega
theorem Pz (code parent:F6):PCalls Tryz.prog 71 [dS code,dS parent] (.d (dB (Ht code parent))):=by
 have c1:=wCutPre code parent
 unfold Ht
 cases h:parent.isPrefixOf code with
 | false=>
  rw[h,B5 (by simp)]at c1
  rw[Bool.false_and]
  refine L5 Tryz.func71 C Tryz.ntmps71 Tryz.results71 fun B w0=>?_
  refine D7 (H3 C (yQ (D7 (B6 C (B6 C (yC (c1) C C (N9 C (yX C C (yX C C ?_)))))))));refine H3 C (H3 C (yQ (D7 (B6 C (B6 C (yO C (yO C (yO C (yO C ?_)))))))));refine yO C (yO C (yO C (K9 C C (H3 C (yQ (C4 ?_))))))
  exact M5 C C
 | true=>
  rw[h,B9 rfl]at c1
  rw[Bool.true_and]
  cases hd:code.drop parent.length with
  | nil=>
   rw[hd]at c1
   refine L5 Tryz.func71 C Tryz.ntmps71 Tryz.results71 fun B w0=>?_
   refine D7 (H3 C (yQ (D7 (B6 C (B6 C (yC (c1) C C (N9 C (yX C C (yX C C ?_)))))))));refine H3 C (H3 C (yQ (D7 (B6 C (B6 C (B6 C (N6 C C (B6 C (yO C ?_)))))))));refine yO C (yO C (L0 C C (L0 C C (H3 C (yQ (C4 ?_))))))
   exact M5 C C
  | cons b l=>
   rw[hd]at c1
   have t1:((b.toNat:Int)==46)=(b==46):=u8_int b 46 (by omega)
   have hx:(b::l:F6)[(0:Int).toNat]? = some b:=rfl
   have t0:((b::l:F6)==[])=false:=rfl
   obtain⟨r,hr⟩:=H8 ((b==46))
   rw[<-hr]at t1
   obtain⟨z,hz⟩:=H8 ((b::l:F6))
   rw[<-hz]at c1 hx t0
   show PCalls Tryz.prog 71 [dS code,dS parent] (.d (dB (b==46)))
   rw[<-hr]
   clear hd hz hr
   refine L5 Tryz.func71 C Tryz.ntmps71 Tryz.results71 fun B w0=>?_
   refine D7 (H3 C (yQ (D7 (B6 C (B6 C (yC (c1) C C (N9 C (yX C C (yX C C ?_)))))))));refine H3 C (H3 C (yQ (D7 (B6 C (B6 C (B6 C (N6 C C (B6 C ?_))))))));rw[t0]
   refine B6 C (U9 hx (by omega) C C (yB C C C C (K9 C C (L0 C C (H3 C (yQ (C4 ?_)))))));rw[t1]
   exact M5 C C
theorem MA {P:Program} {f:FuncId} {k:Nat} {es:List (List DV)} {rest:List DV} {r:SV} (h:es.length<=9223372036854775807->PCalls P f (.sl k es::rest) r):PCalls P f (.sl k es::rest) r:=fun F w vals hl hr hg=>by
 refine h ?_ F w vals hl hr hg
 cases vals with
 | nil=>simp at hl
 | cons v vals=>
  have h1:=hr 0 v _ rfl rfl
  obtain⟨A,c,news,-,-,hm,-⟩:=DRep.row h1
  exact hm
abbrev DM (a:Ac):List DV:=[dS a.1,dI a.2]
theorem wFindA (l:List Ac) (code:F6):PCalls Tryz.prog 47 [.sl 2 (l.map DM),dS code] (.tup [.agg (DM (Pb code l).1),dB (Pb code l).2]):=by
 unfold Pb
 obtain⟨r,hr⟩:=H8 (l.foldl (stA code) (([],0),false))
 rw[<-hr]
 refine MA fun hl=>?_
 rw[A8]at hl
 refine L5 Tryz.func47 C Tryz.ntmps47 Tryz.results47 fun B w0=>?_
 refine D7 (yZ (cs:=[_,_]) C C (H3 C (yQ (D7 (yZ (cs:=[_,_]) C C (yQ (D7 (H3 C (yQ ?_)))))))));refine B2 (D7 (B6 C (yN C (B6 C (yQ (B7 ?_))))));refine H9 (fun p:Nat×(Ac×Bool)=>⟨37,[(1,.d (dS code)),(4,.bx 4 0),(6,.bx 6 0),(7,.d (dB p.2.2)),(10,.d (.sl 2 (l.map DM))),(11,.d (dI l.length)),(12,.d (dI p.1))],[(4,[.d (dS []),.d (dI 0)]),(6,[.d (dS p.2.1.1),.d (dI p.2.1.2)])],[]⟩) (fun p=>p.1<=l.length∧p.2=(l.take p.1).foldl (stA code) (([],0),false)) (fun p=>l.length-p.1) (0,(([],0),false)) ⟨E7 _,C⟩
  ⟨rfl,⟨.refl _,.refl _,.refl _,.refl _,.refl _,FN (by simp),.refl _,D3⟩,⟨⟨_,rfl,H5 _⟩,⟨_,rfl,H5 _⟩,D3⟩,D3,rfl⟩ ?_
 rintro⟨k,⟨⟨c0,n0⟩,f⟩⟩ ⟨hk,hI⟩
 simp only at hk hI ⊢
 rcases D5 k l.length with h|h
 rotate_left
 . have u1:decide ((k:Int)<(l.length:Int))=false:=A7 (by omega)
   rw[E3 h,<-hr]at hI
   subst hI
   clear hr
   refine D7 (yB C C C C (yQ (B2 ?_)));rw[u1];refine D8 C (F9 (D7 (Ae (ys:=[_,_]) C C C C (B6 C (yS (cs':=[_,_]) C C C C C (H3 C (yQ (C4 ?_))))))))
   exact J5 _ (.agg D6 C C C C (.tmp C .nil)) C
 have u1:decide ((k:Int)<(l.length:Int))=true:=B0 (by omega)
 obtain⟨⟨a0,a1⟩,ha⟩:∃ a,l[k]? = some a:=⟨_,A4 h⟩
 have ex:=ix DM l k k (a0,a1) rfl ha
 have hw:=I8 ((k:Int)+1) (by omega)
 have c1:=Pz code a0
 have hnx:(l.take (k+1)).foldl (stA code) (([],0),false)=stA code ((c0,n0),f) (a0,a1):=by
  rw[H4,ha,List.foldl_append,<-hI];rfl
 have arith:l.length-(k+1)<l.length-k:=by omega
 clear hr hI
 rw[stA]at hnx
 cases hu:Ht code a0 with
 | false=>
  rw[hu]at c1 hnx
  rw[Bool.false_and,B5 (by simp)]at hnx
  refine D7 (yB C C C C (yQ (B2 ?_)));rw[u1];refine G2 C (B1 (B2 (B7 (D7 (yW ex (by omega) C C (T3 (ys:=[_,_]) C C C (yZ (cs:=[_,_]) C C (yS (cs':=[_,_]) C C C C C (yQ ?_)))))))));refine D7 (B6 C (X9 C (AL C C C (yC (c1) C C (B6 C (yO C (yO C (yO C (yO C ?_)))))))));refine yO C (yO C (yO C (yO C (yO C (yO C (yO C (K9 C C (yQ (D8 C ?_)))))))));refine B1 (B4 (yB C C C C (B6 C (yQ (B3 ?_)))))
  exact⟨(k+1,((c0,n0),f)),⟨h,hnx.symm⟩,arith,C,⟨.refl _,.refl _,.refl _,.refl _,.refl _,.refl _,P2 hw,D3⟩,⟨⟨_,C,H5 _⟩,⟨_,C,H5 _⟩,D3⟩,D3,C⟩
 | true=>
  rw[hu]at c1 hnx
  cases f with
  | false=>
   have hnx2:(l.take (k+1)).foldl (stA code) (([],0),false)=((a0,a1),true):=by rw[hnx];rfl
   refine D7 (yB C C C C (yQ (B2 ?_)));rw[u1];refine G2 C (B1 (B2 (B7 (D7 (yW ex (by omega) C C (T3 (ys:=[_,_]) C C C (yZ (cs:=[_,_]) C C (yS (cs':=[_,_]) C C C C C (yQ ?_)))))))));refine D7 (B6 C (X9 C (AL C C C (yC (c1) C C (B6 C (B6 C (yU C C C (B6 C (yO C ?_)))))))));refine yO C (yO C (yO C (yO C (yO C (yO C (L0 C C (L0 C C (yQ (G2 C ?_)))))))));refine B4 (Ae (ys:=[_,_]) C C C C (yS (cs':=[_,_]) C C C C C (H3 C (yQ (B4 (yB C C C C (B6 C (yQ (B3 ?_)))))))))
   exact⟨(k+1,((a0,a1),true)),⟨h,hnx2.symm⟩,arith,C,⟨.refl _,.refl _,.refl _,.refl _,.refl _,.refl _,P2 hw,D3⟩,⟨⟨_,C,H5 _⟩,⟨_,C,H5 _⟩,D3⟩,D3,C⟩
  | true=>
   by_cases hc:c0.length<a0.length
   . have t1:decide ((a0.length:Int) > (c0.length:Int))=true:=B0 (by omega)
     have hnx2:(l.take (k+1)).foldl (stA code) (([],0),false)=((a0,a1),true):=by rw[hnx,B0 hc];rfl
     refine D7 (yB C C C C (yQ (B2 ?_)));rw[u1];refine G2 C (B1 (B2 (B7 (D7 (yW ex (by omega) C C (T3 (ys:=[_,_]) C C C (yZ (cs:=[_,_]) C C (yS (cs':=[_,_]) C C C C C (yQ ?_)))))))));refine D7 (B6 C (X9 C (AL C C C (yC (c1) C C (B6 C (B6 C (yU C C C (B6 C (X9 C ?_)))))))));refine AL C C C (N3 C (X9 C (AL C C C (N3 C (yB C C C C (K9 C C (L0 C C (yQ (B3 ?_)))))))));rw[t1];refine G2 C (B4 (Ae (ys:=[_,_]) C C C C (yS (cs':=[_,_]) C C C C C (H3 C (yQ (B4 (yB C C C C (B6 C (yQ ?_)))))))));refine B3 ?_
     exact⟨(k+1,((a0,a1),true)),⟨h,hnx2.symm⟩,arith,C,⟨.refl _,.refl _,.refl _,.refl _,.refl _,.refl _,P2 hw,D3⟩,⟨⟨_,C,H5 _⟩,⟨_,C,H5 _⟩,D3⟩,D3,C⟩
   . have t1:decide ((a0.length:Int) > (c0.length:Int))=false:=A7 (by omega)
     have hnx2:(l.take (k+1)).foldl (stA code) (([],0),false)=((c0,n0),true):=by rw[hnx,A7 hc];rfl
     refine D7 (yB C C C C (yQ (B2 ?_)));rw[u1];refine G2 C (B1 (B2 (B7 (D7 (yW ex (by omega) C C (T3 (ys:=[_,_]) C C C (yZ (cs:=[_,_]) C C (yS (cs':=[_,_]) C C C C C (yQ ?_)))))))));refine D7 (B6 C (X9 C (AL C C C (yC (c1) C C (B6 C (B6 C (yU C C C (B6 C (X9 C ?_)))))))));refine AL C C C (N3 C (X9 C (AL C C C (N3 C (yB C C C C (K9 C C (L0 C C (yQ (B3 ?_)))))))));rw[t1];refine D8 C (B1 (B4 (yB C C C C (B6 C (yQ (B3 ?_))))))
     exact⟨(k+1,((c0,n0),true)),⟨h,hnx2.symm⟩,arith,C,⟨.refl _,.refl _,.refl _,.refl _,.refl _,.refl _,P2 hw,D3⟩,⟨⟨_,C,H5 _⟩,⟨_,C,H5 _⟩,D3⟩,D3,C⟩
end Go.Proofs.YtddfimjiihggmaaGreatDoor