/- Beside exact hidden memory: iterators over maps that are data; maps with integers as keys; functions compared with nil; regions that draw their order. -/
import Derived.Test.YtddfimjiihggmaaGreatDoorB5
import Derived.Lib.SliceRun
import Derived.Shelf.SlIter.Nil
import Derived.Shelf.SortM.Plain
import Derived.Shelf.SortM.SortNone
import Derived.Shelf.Strings.SlTrimAscii
import Derived.Shelf.Strconv.ParseUint10At
import Derived.Shelf.Strconv.Itoa3
import Derived.Shelf.Strings.Repeat
import Derived.Shelf.Strings.Split
import Derived.Shelf.Strings.OnBuilder
import Derived.Ground.SlgnProg
import Derived.Lib.AtoiErrMem
set_option maxHeartbeats 16000000
set_option maxRecDepth 20000
namespace Go.Proofs.YtddfimjiihggmaaGreatDoor.Px
open Go.RowKit
variable {l:List (Int×DV)} {it':Option (Nat×List (Value×DV)×List (Value×DV))} {x y:Operand} {rs:List (Int×List (List DV))} {v:Value} {F:Nat->Nat->Prop} {vs xs0:List Value} {listed:List Bool} {T fuel f b n r:Nat} {fs':List (Value×DV)} {caps e:List DV} {st st':PS} {vr:Bool} {w:World} {i:EI} {z:DV}
class MapTy (P:Program) (T:Nat):Prop where
 und:∃ kt et,P.underlying T=some (.map kt et)
theorem Vis.permG {es:Array MapEntry} {l dn:List (Value×DV)} {seen:Array Nat} (h:Vis es l seen dn) (hl:es.size=l.length):∃ rl,(dn++rl).Perm l:=by
 obtain⟨D,R,h1,-,h3⟩:=h
 refine⟨R.map (·.2),?_⟩
 have h4:=h1.map (·.2)
 rw[List.map_snd_zip (by simp[hl]),List.map_append,<-h3]at h4
 exact h4
section
variable {P:Program} {ops:Array Oper} {rl:Option Nat} {d0:Nat} {p:EP} {K:PS->EI->Prop} {Q:Exit->PS->EI->Prop} {d:Option Nat} {ty:TypeId} {pos:String} {af:Array Edge} {gd:Option (Nat×Bool)}
theorem RQ {l:List (Value×DV)} [hM:MapTy P T] (hx:st.ev x=.d (.mp l))
 (h:∀ r,K (st.put d (.d (.val (.pointer (some ⟨r,0,none⟩))))) ⟨i.bs,i.fs,some (r,l,[])⟩) (hd:I1 ⟨d,.range T x,ty,pos,af,gd⟩ st=true:=by kernel_rfl) (hw:st.want ops ⟨d,.range T x,ty,pos,af,gd⟩=some true:=by rfl):
 PL P ops rl d0 (HE p) K [⟨d,.range T x,ty,pos,af,gd⟩] st i:=Gv hw fun g a w hs hX=>by
 have h1:=hs.2.eval x
 rw[hx]at h1
 obtain⟨bm,es,c,q1,q2,q3,q4,q5,q6⟩:=DRep.mapd h1
 obtain⟨kt,et,m1⟩:=hM.und
 have hlt:bm<w.heap.size:=(D2.1 q2).1
 have hb1:Below w.heap.size w (w.alloc (.mapIter (some bm) c #[] c)):=(Below.refl _ w).alloc (E0 _) _
 obtain⟨s1,kp,hown,c1⟩:=HE.below hs hX hb1
 refine⟨_,_,.inl ?_,g,_,⟨i.bs,i.fs,some (w.heap.size,l,[])⟩,s1.put (x:=.d (.val _)) (DRep.val _ C) _ (H6 (st:=st) hd),c1 _ fun r l' dn e=>?_,kp,h _⟩
 . show(execOp a.eval ⟨d,.range T x,ty,pos,af,gd⟩).run P w=_
   simp only[execOp,q1,Sem.run_bind,run_range_map w T kt et bm es c m1 q2,D4,Sem.run_pure]
 . cases e
   have hsee:Z3 (w.alloc (.mapIter (some bm) c #[] c)) bm 0=some (.mp es c):=by
    rw[L3 (hb1.block bm hlt)]
    unfold Z3
    rw[q2]
   refine⟨bm,es,c,#[],c,World.alloc_heap_new w _,hsee,E0 _,DW.mono ⟨q5,q4,q6⟩ kp,Vis.start es _,fun ho=>?_,(kp bm 0 q3 (by unfold Z3;rw[q2];rfl)).1,hX.size,fun q hq=>by cases hq⟩
   obtain⟨nb,nt⟩:=hs.2.not_tok (E0 w.heap.size)
   rcases ho with h2|⟨j,h2⟩|⟨t,T',h2,h3⟩
   . have:(w.alloc (.mapIter (some bm) c #[] c)).heap.size=w.heap.size+1:=by simp
     omega
   . exact nb j h2
   . exact nt t T' h2 h3
theorem RR {l dn:List (Value×DV)} (hi:i.it=some (r,l,dn)) (hx:st.ev x=.d (.val (.pointer (some ⟨r,0,none⟩)))) (h0:dn.Perm l->K (st.put d (.tup [dB false])) i)
 (h1:∀ k v rl,(k,v)∈l->(dn++(k,v)::rl).Perm l->k.oneCell'=true->K (st.put d (.tup [dB true,.val k,v])) ⟨i.bs,i.fs,some (r,l,dn++[(k,v)])⟩) (hone:∀ q∈l,q.1.oneCell'=true) (hd:I1 ⟨d,.next x false,ty,pos,af,gd⟩ st=true:=by kernel_rfl) (hw:st.want ops ⟨d,.next x false,ty,pos,af,gd⟩=some true:=by rfl):
 PL P ops rl d0 (HE p) K [⟨d,.next x false,ty,pos,af,gd⟩] st i:=Gv hw fun g a w hs hX=>by
 have hv:=(hs.val hx).1
 obtain⟨bm,es,c,seen,cc,t1,t2,t3,t4,t5,t6,t7,t9,t8⟩:=hX.it r l dn hi
 have t2':=JJ t2
 rcases run_next_at (P:=P) w ty r bm c cc seen es c t1 t2' t4.2.1.1 t3 with⟨e0,hrun⟩|⟨e,he,w1,hw1,hrun⟩
 . refine⟨_,w,.inl (by
    show(execOp a.eval ⟨d,.next x false,ty,pos,af,gd⟩).run P w=_
    simp only[execOp,hv,Sem.run_bind,hrun,D4,Sem.run_pure]),g,_,i,hs.put (x:=.tup [dB false]) ⟨[.bool false],rfl,rfl,fun j u y hu hy=>?_⟩ _ (H6 (st:=st) hd),hX,Kp.same fun _ _ h=>h,h0 (t5.done t4.1 t4.2.1.2.1 e0)⟩
   match j with
   | 0=>cases hu;cases hy;exact DRep.val _ C
   | j+1=>simp at hu
 . obtain⟨⟨k,v⟩,hq1,hq2⟩:=t5.step t4.1 he
   have hmem:(k,v)∈l:=(List.of_mem_zip hq1).2
   have hk1:=hone _ hmem
   obtain⟨rl,hrl⟩:=hq2.permG t4.1
   rw[G8]at hrl
   obtain⟨j,hj⟩:=List.mem_iff_getElem?.1 hq1
   have hjj:=List.getElem?_zip_eq_some.1 hj
   have hek:=t4.2.2 j e _ (by simpa using hjj.1) hjj.2
   have hh:w1.heap=w.heap:=by rcases hw1 with rfl|rfl<;>rfl
   have hrlt:r<w1.heap.size:=by rw[hh];exact(D2.1 t1).1
   have hsz:(w1.putObj r (.mapIter (some bm) c (seen.push e.born) c)).heap.size=w.heap.size:=by rw[World.putObj_size,hh]
   obtain⟨s1,kp,hown,c1⟩:=HE.put1 (w':=w1.putObj r (.mapIter (some bm) c (seen.push e.born) c)) hs hX r t1 (fun _ _ _ e=>by cases e) (fun _ _ e=>by cases e) (by rcases hw1 with rfl|rfl<;>rfl) (by rcases hw1 with rfl|rfl<;>rfl) (by rcases hw1 with rfl|rfl<;>rfl) (by rw[hsz];exact E0 _) (fun b hb hbr=>(World.putObj_heap_other hbr).trans (by rw[hh])) t6 t9 (fun e=>by rw[t1]at e;cases e)
   refine⟨_,_,.inl (by
    show(execOp a.eval ⟨d,.next x false,ty,pos,af,gd⟩).run P w=_
    simp only[execOp,hv,Sem.run_bind,hrun,D4,Sem.run_pure]
    rfl),g,_,⟨i.bs,i.fs,some (r,l,dn++[(k,v)])⟩,s1.put (x:=.tup [dB true,.val k,v]) ⟨[.bool true,e.key,e.val],rfl,rfl,fun j u y hu hy=>?_⟩ _ (H6 (st:=st) hd),c1 _ fun r' l' dn' e'=>?_,kp,h1 k v rl hmem hrl hk1⟩
   . match j with
     | 0=>cases hu;cases hy;exact DRep.val _ C
     | 1=>cases hu;cases hy;rw[hek.1];exact DRep.val _ hk1
     | 2=>cases hu;cases hy;exact hek.2.mono kp
     | j+3=>simp at hu
   . cases e'
     obtain⟨k1,k2⟩:=kp bm 0 t7 (by rw[t2];rfl)
     refine⟨bm,es,c,seen.push e.born,c,World.putObj_heap_same hrlt,k2.trans t2,E0 _,t4.mono kp,hq2,fun ho=>t6 (hown r ho),k1,t9,fun q hq=>?_⟩
     rw[List.getLast?_concat]at hq
     cases hq
     exact⟨seen,e,C,C,(Dc.1 he).1,hek.1,hek.2.mono kp⟩
theorem JU {l dn:List (Value×DV)} {k:Value} {v:DV} (hi:i.it=some (r,l,dn)) (hl:dn.getLast? = some (k,v)) (hx:st.ev x=.d (.val (.pointer (some ⟨r,0,none⟩)))) (hk1:k.oneCell'=true) (h:K (st.put d (.tup [.val k,v])) i)
 (hd:I1 ⟨d,.entry x,ty,pos,af,gd⟩ st=true:=by kernel_rfl) (hw:st.want ops ⟨d,.entry x,ty,pos,af,gd⟩=some true:=by rfl):
 PL P ops rl d0 (HE p) K [⟨d,.entry x,ty,pos,af,gd⟩] st i:=Gv hw fun g a w hs hX=>by
 have hv:=(hs.val hx).1
 obtain⟨bm,es,c,seen,cc,t1,t2,t3,t4,t5,t6,t7,t9,t8⟩:=hX.it r l dn hi
 obtain⟨s0,e,rfl,rfl,e3,e4,e5⟩:=t8 _ hl
 have hrun:=run_entry_at (P:=P) w r bm cc s0 es cc e t1 (JJ t2) e3 t4.2.1.2.1
 refine⟨_,w,.inl (by
  show(execOp a.eval ⟨d,.entry x,ty,pos,af,gd⟩).run P w=_
  simp only[execOp,hv,Sem.run_bind,hrun,D4,Sem.run_pure]),g,_,i,hs.put (x:=.tup [.val k,v]) ⟨[e.key,e.val],rfl,rfl,fun j u y hu hy=>?_⟩ _ (H6 (st:=st) hd),hX,Kp.same fun _ _ h=>h,h⟩
 match j with
 | 0=>cases hu;cases hy;rw[e4];exact DRep.val _ hk1
 | 1=>cases hu;cases hy;exact e5
 | j+2=>simp at hu
end
/-! functions compared with nil -/
section
variable {P:Program} {sq:Bool} {ops:Array Oper} {K:PS->Prop} {rest:List Oper} {d:Option Nat} {ty:TypeId} {pos:String} {af:Array Edge} {gd:Option (Nat×Bool)}
theorem ls_eqf (t t':TypeId) (x:Operand) {ps rs:Array TypeId} (hp:P.underlying t=some (.func ps rs vr)) (hx:st.ev x=.d (dH f caps)) (hd:I1 ⟨d,.binOp .eql t x (.const .nilFunc) t',ty,pos,af,gd⟩ st=true):M6 P ⟨d,.binOp .eql t x (.const .nilFunc) t',ty,pos,af,gd⟩ st (.d (.val (.bool false))) .no:=fun st2 ha=>
 OpS.value (ha.dst hd) fun _ _ g a w h=>by
  have h1:=h.eval x
  rw[ha.ev x (by simp[Op.operands]),hx]at h1
  obtain⟨vs,hv,-⟩:=DRep.unH h1
  refine⟨.bool false,w,?_,Below.refl _ _,DRep.val _ C⟩
  have h5:a.eval (.const .nilFunc)=.nilFunc:=rfl
  have h6:∀ n:Nat,(Op.equalIn (n+1) t (.func (.func f) #[] vs.toArray) .nilFunc).run P w=.ok false w:=fun n=>by
   simp[Op.equalIn,run_underlying hp]
  simp only[execOp,hv,h5]
  simp[eqGuard,binOp,Op.equal,Op.maxDepth,h6 9999,Result.andThen]
theorem yEf {t t':Nat} {ps rs:Array TypeId} (hp:P.underlying t=some (.func ps rs vr)) (hx:st.ev x=.d (dH f caps)) (h:YR P sq ops K rest (st.put d (.d (.val (.bool false))))) (zz:zk ops st ⟨d,.binOp .eql t x (.const .nilFunc) t',ty,pos,af,gd⟩ .no=true:=by kernel_rfl):
 YR P sq ops K (⟨d,.binOp .eql t x (.const .nilFunc) t',ty,pos,af,gd⟩::rest) st:=M3 (ls_eqf t t' x hp hx (zd zz)) (zo zz) (zw zz) h
theorem ls_eqzf (t t':TypeId) (x:Operand) {ps rs:Array TypeId} (hp:P.underlying t=some (.func ps rs vr)) (hx:st.ev x=.d (.val .nilFunc)) (hd:I1 ⟨d,.binOp .eql t x (.const .nilFunc) t',ty,pos,af,gd⟩ st=true):M6 P ⟨d,.binOp .eql t x (.const .nilFunc) t',ty,pos,af,gd⟩ st (.d (.val (.bool true))) .no:=fun st2 ha=>
 OpS.value (ha.dst hd) fun _ _ g a w h=>by
  have h1:=h.eval x
  rw[ha.ev x (by simp[Op.operands]),hx]at h1
  have hv:a.eval x=.nilFunc:=DRep.val_eq h1
  refine⟨.bool true,w,?_,Below.refl _ _,DRep.val _ C⟩
  have h5:a.eval (.const .nilFunc)=.nilFunc:=rfl
  have h6:∀ n:Nat,(Op.equalIn (n+1) t .nilFunc .nilFunc).run P w=.ok true w:=fun n=>by
   simp[Op.equalIn,run_underlying hp]
  simp only[execOp,hv,h5]
  simp[eqGuard,binOp,Op.equal,Op.maxDepth,h6 9999,Result.andThen]
theorem yEzf {t t':Nat} {ps rs:Array TypeId} (hp:P.underlying t=some (.func ps rs vr)) (hx:st.ev x=.d (.val .nilFunc)) (h:YR P sq ops K rest (st.put d (.d (.val (.bool true))))) (zz:zk ops st ⟨d,.binOp .eql t x (.const .nilFunc) t',ty,pos,af,gd⟩ .no=true:=by kernel_rfl):
 YR P sq ops K (⟨d,.binOp .eql t x (.const .nilFunc) t',ty,pos,af,gd⟩::rest) st:=M3 (ls_eqzf t t' x hp hx (zd zz)) (zo zz) (zw zz) h
end
abbrev vI (n:Int):Value:=.int .i64 n
def V1 (l:List (Int×DV)):List (Value×DV):=l.map fun p=>(vI p.1,p.2)
def Dg (z:DV) (k:Int):List (Int×DV)->DV
 | []=>z
 | (k',v)::l=>if k'=k then v else Dg z k l
def Fq (k:Int) (v:DV):List (Int×DV)->List (Int×DV)
 | []=>[(k,v)]
 | (k',v')::l=>if k'=k then (k,v)::l else (k',v')::Fq k v l
def Jh (k:Int) (l:List (Int×DV)):Bool:=l.any fun p=>p.1==k
theorem CD (k:Int):∀ (l:List (Int×DV)) (es:List MapEntry) (n:Nat),es.length=l.length->(∀ (i:Nat) e p,es[i]? = some e->l[i]? = some p->e.key=vI p.1) →
 (∃ j e d,Instr.findNow (.int .i64) (vI k) es n=some (some (n+j,e.val))∧es[j]? = some e∧l[j]? = some (k,d)∧(∀ z,Dg z k l=d) ∧ ∀ v,Fq k v l=l.set j (k,v)) ∨
 (Instr.findNow (.int .i64) (vI k) es n=some none∧(∀ z,Dg z k l=z)∧(∀ v,Fq k v l=l++[(k,v)]) ∧ ∀ p∈l,p.1≠k)
 | [],[],n,_,_=>.inr ⟨rfl,fun _=>rfl,fun _=>rfl,fun p hp=>by simp at hp⟩
 | [],e::es,n,hl,_=>by simp at hl
 | p::l,[],n,hl,_=>by simp at hl
 | (k',d)::l,e::es,n,hl,hk=>by
  have h0:e.key=vI k':=hk 0 e (k',d) rfl rfl
  have hs:Instr.sameNow (.int .i64) (vI k) e.key=some (k==k'):=by rw[h0];simp[Instr.sameNow]
  by_cases hkk:k'=k
  . subst hkk
    refine .inl ⟨0,e,d,?_,C,C,fun z=>by rw[Dg,B9 rfl],fun v=>by rw[Fq,B9 rfl];rfl⟩
    rw[Instr.findNow,hs,beq_self_eq_true]
    rfl
  . have hb:(k==k')=false:=by simpa using fun e=>hkk e.symm
    have hf:Instr.findNow (.int .i64) (vI k) (e::es) n=Instr.findNow (.int .i64) (vI k) es (n+1):=by rw[Instr.findNow,hs,hb]
    rcases CD k l es (n+1) (by simpa using hl) (fun i e' p' he hp=>hk (i+1) e' p' (by simpa using he) (by simpa using hp))with⟨j,e',d',h1,h2,h3,h4,h5⟩|⟨h1,h2,h3,h4⟩
    . refine .inl ⟨j+1,e',d',?_,h2,h3,fun z=>by rw[Dg,B5 hkk,h4],fun v=>by rw[Fq,B5 hkk,h5];rfl⟩
      rw[hf,h1,show n+1+j=n+(j+1)by omega]
    . exact .inr ⟨by rw[hf,h1],fun z=>by rw[Dg,B5 hkk,h2],fun v=>by rw[Fq,B5 hkk,h3];rfl,fun p hp=>by
       rcases List.mem_cons.1 hp with rfl|hp
       . exact hkk
       . exact h4 p hp⟩
class MapOfI (P:Program) (T:Nat) (z:outParam DV):Prop where
 und:∃ kt et,P.underlying T=some (.map kt et)∧P.underlying kt=some (.int .i64) ∧ ∀ w,∃ v,(zeroValue et).run P w=.ok v w ∧ ∀ F w',DRep F w' v z
section
variable {P:Program} {sq:Bool} {ops:Array Oper} {K:PS->Prop} {rest:List Oper} {d:Option Nat} {ty:TypeId} {pos:String} {af:Array Edge} {gd:Option (Nat×Bool)}
theorem map_atI {B:Nat} {w0:Cx} {g:Gh} {a:Act} (hr:Rep B w0 g st a w) {i:Nat} (hge:500000<=i) (hi:st.bget i=some [.mc (V1 l)]):
 ∃ b es c,g.bl i=some b∧w.heap[b]? = some (.map es c)∧es.toList.length=l.length∧MapKept.Stamped es c∧(∀ (i:Nat) e p,es.toList[i]? = some e->l[i]? = some p->e.key=vI p.1) ∧ ∀ (i:Nat) e p,es.toList[i]? = some e->l[i]? = some p->DRep (Fx g) w e.val p.2:=by
 obtain⟨b,es,c,h1,h2,h3,h5,h4⟩:=hr.maps i _ hi hge
 have hp:∀ (i:Nat) p,l[i]? = some p->(V1 l)[i]? = some (vI p.1,p.2):=fun i p hp=>by rw[V1,C6,hp];rfl
 exact⟨b,es,c,h1,h2,by simpa[V1]using h3,h5,fun i e p he hl=>(h4 i e _ (by simpa using he) (hp i p hl)).1,fun i e p he hl=>(h4 i e _ (by simpa using he) (hp i p hl)).2⟩
theorem ls_mupI (T:TypeId) (x y u:Operand) {i:Nat} {k:Int} {v:DV} [hM:MapOfI P T z] (hge:500000<=i) (hx:st.ev x=.mb i) (hi:st.bget i=some [.mc (V1 l)]) (hy:st.ev y=.d (.val (vI k))) (hu:st.ev u=.d v) (hd:I1 ⟨d,.mapUpdate T x y u,ty,pos,af,gd⟩ st=true):
 M6 P ⟨d,.mapUpdate T x y u,ty,pos,af,gd⟩ st .any (.box i [.mc (V1 (Fq k v l))]):=fun st2 ha=>by
 intro B w0 g a w K Q h hK
 have h1:=h.eval x
 rw[ha.ev x (by simp[Op.operands]),hx]at h1
 have h2:=h.eval y
 rw[ha.ev y (by simp[Op.operands]),hy]at h2
 have h3:=h.eval u
 rw[ha.ev u (by simp[Op.operands]),hu]at h3
 have hi2:st2.bget i=some [.mc (V1 l)]:=(ha.ids rfl x (by simp[Op.operands]) i (by rw[hx];simp[SV.ids])).trans hi
 obtain⟨b,q1,q2⟩:=h1
 obtain⟨b',es,c,r1,r2,r3,rs,r4,r5⟩:=map_atI h hge hi2
 rw[q1]at r1
 cases r1
 obtain⟨kt,et,m1,m2,-⟩:=hM.und
 have hc:∀ e,(Instr.checkKey e 10000 kt (vI k)).run P w=.ok () w:=fun e=>MapKept.run_checkKey (k:=vI k) m2 (by simp[MapKept.IsKey]) e 9999
 have hblt:b<w.heap.size:=(D2.1 r2).1
 suffices hrun:∃ es' c',(execOp a.eval ⟨d,.mapUpdate T x y u,ty,pos,af,gd⟩).run P w=.ok .skip { w with heap:=w.heap.setIfInBounds b (.map es' c') }∧es'.toList.length=(Fq k v l).length∧MapKept.Stamped es' c' ∧ ∀ (q:Nat) e p,es'.toList[q]? = some e->(Fq k v l)[q]? = some p->e.key=vI p.1∧DRep (Fx g) w e.val p.2 by
  obtain⟨es',c',e1,e2,e4,e3⟩:=hrun
  have hs:=MapKept.heap_set (o':=.map es' c') r2
  have hrep:=h.seto i b [.mc (V1 (Fq k v l))] (w':={ w with heap:=w.heap.setIfInBounds b (.map es' c') }) q1 ⟨rfl,rfl,rfl,by simp,fun q hq=>by omega⟩ (fun q _ hne=>hs.2 q hne) (by unfold World.shape?;simp only[hs.1,r2]) (fun _ hlt=>by omega) (fun e _ ms hms=>by
   obtain rfl:V1 (Fq k v l)=ms:=by simpa using hms
   refine⟨es',c',hs.1,by simpa[V1]using e2,e4,fun q en p he hp=>?_⟩
   rw[V1,C6,C7]at hp
   obtain⟨p',hp1,rfl⟩:=hp
   have:=e3 q en p' (by simpa using he) hp1
   exact⟨this.1,this.2.mono e.fx⟩)
  unfold Oper.wp
  rw[e1]
  exact hK g _ _ (hrep.put (x:=.any) trivial _ (H6 (st:=st2.bput i _) (ha.dst hd)))
 rcases CD k l es.toList 0 r3 r4 with⟨j,e,d',f1,f2,f3,-,f5⟩|⟨f1,-,f3,f6⟩
 . have hek:e.key=vI k:=r4 j e _ f2 f3
   have hj:es[j]? = some e:=by simpa using f2
   refine⟨es.modify j fun e=>{ e with key:=vI k,val:=a.eval u },c,?_,?_,?_,?_⟩
   . simp[execOp,Instr.mapUpdate,run_underlying m1,q2,DRep.val_eq h2,MapKept.run_getObj_map r2,hc,MapKept.run_findKey m2 f1,hj,hek,MapKept.run_keyThatStays (d:=.int .i64) (k:=vI k) (by simp[MapKept.IsKey]),MapKept.run_setObj_map _ r2,Result.andThen]
   . rw[f5];simpa using r3
   . exact MapKept.stamped_modify rs j _ (fun _ _=>C) fun e' _ he'=>by
      rw[hj]at he'
      cases he'
      exact hek.symm
   . intro q en p he hp
     rw[f5]at hp
     rw[Array.toList_modify,List.getElem?_modify]at he
     by_cases hq:j=q
     . subst hq
       rw[f2]at he
       rw[List.getElem?_set_self (by rw[<-r3];exact(A6.1 f2).1)]at hp
       cases hp
       simp at he
       subst he
       exact⟨rfl,h3⟩
     . rw[List.getElem?_set_ne hq]at hp
       simp[hq]at he
       exact⟨r4 q en p (by simpa using he) hp,r5 q en p (by simpa using he) hp⟩
 . refine⟨es.push { key:=vI k,val:=a.eval u,born:=c },c+1,?_,?_,?_,?_⟩
   . simp[execOp,Instr.mapUpdate,run_underlying m1,q2,DRep.val_eq h2,MapKept.run_getObj_map r2,hc,MapKept.run_findKey m2 f1,MapKept.run_setObj_map _ r2,Result.andThen]
   . rw[f3];simpa using r3
   . exact MapKept.stamped_push rs fun x hx e=>by
      obtain⟨q,hq⟩:=List.mem_iff_getElem?.1 hx
      obtain⟨p,hp⟩:∃ p,l[q]? = some p:=⟨_,A4 (by rw[<-r3];exact(A6.1 hq).1)⟩
      have h5:=r4 q x p hq hp
      rw[e]at h5
      refine f6 p (B8 hp) ?_
      cases h5
      rfl
   . intro q en p he hp
     rw[f3]at hp
     rw[Array.toList_push]at he
     rcases D5 q l.length with hq|hq
     . rw[F3 hq]at hp
       rw[F3 (by omega)]at he
       exact⟨r4 q en p he hp,r5 q en p he hp⟩
     . rw[E9 hq]at hp
       rw[E9 (by omega),r3]at he
       obtain⟨hq0,-⟩:=A6.1 hp
       have hq1:q-l.length=0:=by simpa using hq0
       rw[hq1]at he hp
       cases he
       cases hp
       exact⟨rfl,h3⟩
theorem ls_mldI (T:TypeId) (x y:Operand) {k:Int} [hM:MapOfI P T z] (hx:st.ev x=.d (.mp (V1 l))) (hy:st.ev y=.d (.val (vI k))) (hd:I1 ⟨d,.lookup T x y true,ty,pos,af,gd⟩ st=true):
 M6 P ⟨d,.lookup T x y true,ty,pos,af,gd⟩ st (.tup [Dg z k l,dB (Jh k l)]) .no:=fun st2 ha=>
 OpS.value (ha.dst hd) fun _ _ g a w h=>by
  have h1:=h.eval x
  rw[ha.ev x (by simp[Op.operands]),hx]at h1
  have h2:=h.eval y
  rw[ha.ev y (by simp[Op.operands]),hy]at h2
  obtain⟨b,es,c,q2,r2,-,-,hl,hkv⟩:=DRep.mapd h1
  have hp:∀ (i:Nat) p,l[i]? = some p->(V1 l)[i]? = some (vI p.1,p.2):=fun i p hp=>by rw[V1,C6,hp];rfl
  have r3:es.toList.length=l.length:=by simpa[V1]using hl
  have r4:∀ (i:Nat) e p,es.toList[i]? = some e->l[i]? = some p->e.key=vI p.1:=fun i e p he hl=>(hkv i e _ (by simpa using he) (hp i p hl)).1
  have r5:∀ (i:Nat) e p,es.toList[i]? = some e->l[i]? = some p->DRep (Fx g) w e.val p.2:=fun i e p he hl=>(hkv i e _ (by simpa using he) (hp i p hl)).2
  obtain⟨kt,et,m1,m2,m3⟩:=hM.und
  obtain⟨v,m4,m5⟩:=m3 w
  have hc:∀ e,(Instr.checkKey e 10000 kt (vI k)).run P w=.ok () w:=fun e=>MapKept.run_checkKey (k:=vI k) m2 (by simp[MapKept.IsKey]) e 9999
  have pair:∀ (v1:Value) (d1:DV) (t:Bool),DRep (Fx g) w v1 d1->SRep g w (.tuple #[v1,.bool t]) (.tup [d1,dB t]):=fun v1 d1 t h1=>⟨[v1,.bool t],rfl,rfl,fun i y x hy hx=>by
   match i with
   | 0=>cases hy;cases hx;exact h1
   | 1=>cases hy;cases hx;exact DRep.val _ C
   | i+2=>simp at hy⟩
  rcases CD k l es.toList 0 r3 r4 with⟨j,e,d',f1,f2,f3,f4,-⟩|⟨f1,f2,-,f4⟩
  . have hh:Jh k l=true:=List.any_eq_true.2 ⟨_,B8 f3,by simp⟩
    refine⟨.tuple #[e.val,.bool true],w,?_,Below.refl _ _,?_⟩
    . simp[execOp,Instr.lookup,run_underlying m1,q2,DRep.val_eq h2,MapKept.run_getObj_map r2,hc,MapKept.run_findKey m2 f1,Result.andThen]
    . rw[f4,hh];exact pair _ _ _ (r5 j e _ f2 f3)
  . have hh:Jh k l=false:=by
     rw[<-Bool.not_eq_true]
     intro e
     obtain⟨p,hp,hpk⟩:=List.any_eq_true.1 e
     exact f4 p hp (by simpa using hpk)
    refine⟨.tuple #[v,.bool false],w,?_,Below.refl _ _,?_⟩
    . simp[execOp,Instr.lookup,run_underlying m1,q2,DRep.val_eq h2,MapKept.run_getObj_map r2,hc,MapKept.run_findKey m2 f1,m4,Result.andThen]
    . rw[f2,hh];exact pair _ _ _ (m5 _ _)
theorem yKdI {k:Int} {v:DV} {t:Bool} [hM:MapOfI P T z] (hx:st.ev x=.d (.mp (V1 l))) (hy:st.ev y=.d (.val (vI k))) (hv:Dg z k l=v) (ht:Jh k l=t)
 (h:YR P sq ops K rest (st.put d (.tup [v,dB t]))) (zz:zk ops st ⟨d,.lookup T x y true,ty,pos,af,gd⟩ .no=true:=by kernel_rfl):
 YR P sq ops K (⟨d,.lookup T x y true,ty,pos,af,gd⟩::rest) st:=M3 (hv ▸ ht ▸ ls_mldI T x y hx hy (zd zz)) (zo zz) (zw zz) h
theorem ls_mleI (T:TypeId) (x y:Operand) {k:Int} [hM:MapOfI P T z] (hx:st.ev x=.d (.mp (V1 l))) (hy:st.ev y=.d (.val (vI k))) (hd:I1 ⟨d,.lookup T x y false,ty,pos,af,gd⟩ st=true):
 M6 P ⟨d,.lookup T x y false,ty,pos,af,gd⟩ st (.d (Dg z k l)) .no:=fun st2 ha=>
 OpS.value (ha.dst hd) fun _ _ g a w h=>by
  have h1:=h.eval x
  rw[ha.ev x (by simp[Op.operands]),hx]at h1
  have h2:=h.eval y
  rw[ha.ev y (by simp[Op.operands]),hy]at h2
  obtain⟨b,es,c,q2,r2,-,-,hl,hkv⟩:=DRep.mapd h1
  have hp:∀ (i:Nat) p,l[i]? = some p->(V1 l)[i]? = some (vI p.1,p.2):=fun i p hp=>by rw[V1,C6,hp];rfl
  have r3:es.toList.length=l.length:=by simpa[V1]using hl
  have r4:∀ (i:Nat) e p,es.toList[i]? = some e->l[i]? = some p->e.key=vI p.1:=fun i e p he hl=>(hkv i e _ (by simpa using he) (hp i p hl)).1
  have r5:∀ (i:Nat) e p,es.toList[i]? = some e->l[i]? = some p->DRep (Fx g) w e.val p.2:=fun i e p he hl=>(hkv i e _ (by simpa using he) (hp i p hl)).2
  obtain⟨kt,et,m1,m2,m3⟩:=hM.und
  obtain⟨v,m4,m5⟩:=m3 w
  have hc:∀ e,(Instr.checkKey e 10000 kt (vI k)).run P w=.ok () w:=fun e=>MapKept.run_checkKey (k:=vI k) m2 (by simp[MapKept.IsKey]) e 9999
  rcases CD k l es.toList 0 r3 r4 with⟨j,e,d',f1,f2,f3,f4,-⟩|⟨f1,f2,-,-⟩
  . refine⟨e.val,w,?_,Below.refl _ _,?_⟩
    . simp[execOp,Instr.lookup,run_underlying m1,q2,DRep.val_eq h2,MapKept.run_getObj_map r2,hc,MapKept.run_findKey m2 f1,Result.andThen]
    . rw[f4];exact r5 j e _ f2 f3
  . refine⟨v,w,?_,Below.refl _ _,?_⟩
    . simp[execOp,Instr.lookup,run_underlying m1,q2,DRep.val_eq h2,MapKept.run_getObj_map r2,hc,MapKept.run_findKey m2 f1,m4,Result.andThen]
    . rw[f2];exact m5 _ _
theorem yKeI {k:Int} {v:DV} [hM:MapOfI P T z] (hx:st.ev x=.d (.mp (V1 l))) (hy:st.ev y=.d (.val (vI k))) (hv:Dg z k l=v)
 (h:YR P sq ops K rest (st.put d (.d v))) (zz:zk ops st ⟨d,.lookup T x y false,ty,pos,af,gd⟩ .no=true:=by kernel_rfl):
 YR P sq ops K (⟨d,.lookup T x y false,ty,pos,af,gd⟩::rest) st:=M3 (hv ▸ ls_mleI T x y hx hy (zd zz)) (zo zz) (zw zz) h
end
def RowAt (bs:EB) (E k:Nat) (v:Value) (n:Nat) (cells:List Value):Prop:=
 cells.length=n*k∧((v=.slice none 0 0∧n=0) ∨ ∃ b c xs,v=.slice (some ⟨b,0,none⟩) n c∧0<n∧n<=c∧c<=maxLen∧G1 bs b=some (xs,E)∧xs.length=c*k∧xs.take (n*k)=cells)
theorem RowAt.nil (bs:EB) (E k:Nat):RowAt bs E k (.slice none 0 0) 0 []:=⟨by simp,.inl ⟨rfl,rfl⟩⟩
theorem RowAt.keep {bs bs':EB} {E k:Nat} {cells:List Value} (h:RowAt bs E k v n cells) (hb:∀ b,v.ownBlock=some b->G1 bs' b=G1 bs b):RowAt bs' E k v n cells:=by
 refine⟨h.1,?_⟩
 rcases h.2 with h|⟨b,c,xs,rfl,h2,h3,h4,h5,h6⟩
 . exact .inl h
 . exact .inr ⟨b,c,xs,C,h2,h3,h4,(hb b C).trans h5,h6⟩
theorem RowAt.blk {bs:EB} {E k:Nat} {cells:List Value} (h:RowAt bs E k v n cells) (hb:v.ownBlock=some b):∃ xs,G1 bs b=some (xs,E):=by
 rcases h.2 with⟨rfl,-⟩|⟨b',c,xs,rfl,h2,h3,h4,h5,h6⟩
 . cases hb
 . cases hb;exact⟨xs,h5⟩
theorem RowAt.one {bs:EB} {E k:Nat} {cells:List Value} (h:RowAt bs E k v n cells):v.oneCell'=true:=by
 rcases h.2 with⟨rfl,-⟩|⟨b',c,xs,rfl,-⟩<;>rfl
theorem RowAt.pos {bs:EB} {E k:Nat} {cells:List Value} (h:RowAt bs E k v n cells) (hn:0<n):∃ b c xs,v=.slice (some ⟨b,0,none⟩) n c∧n<=c∧c<=maxLen∧G1 bs b=some (xs,E)∧xs.length=c*k∧xs.take (n*k)=cells:=by
 rcases h.2 with⟨-,h⟩|⟨b,c,xs,h1,h2,h3⟩
 . omega
 . exact⟨b,c,xs,h1,h3⟩
theorem RowAt.zero {bs:EB} {E k:Nat} {cells:List Value} (h:RowAt bs E k v 0 cells):v=.slice none 0 0:=by
 rcases h.2 with⟨h,-⟩|⟨b,c,xs,h1,h2,h3⟩
 . exact h
 . omega
theorem RowAt.data {bs:EB} {E k:Nat} {cells:List Value} {es:List (List DV)} (h:RowAt bs E k v n cells) (hbs:∀ (b:Nat) (xs:List Value) (T:Nat),G1 bs b=some (xs,T)->w.heap[b]? = some (.cells xs.toArray T (0,0)) ∧ ∀ o,F b o)
 (hn:es.length=n) (hk:∀ e∈es,e.length=k) (hd:∀ (m:Nat) l (q:Nat) x,es[m]? = some l->l[q]? = some x->∃ u,cells[m*k+q]? = some u∧u.oneCell'=true∧DRep F w u x):DRep F w v (.sl k es):=by
 rcases h.2 with⟨rfl,h0⟩|⟨b,c,xs,rfl,h2,h3,h4,h5,h6,h7⟩
 . have:es=[]:=List.eq_nil_of_length_eq_zero (by omega)
   rw[this]
   exact .nil
 . obtain⟨g1,g2⟩:=hbs b xs E h5
   have hget:∀ m q,m<n->q<k->∃ l x u,es[m]? = some l∧l[q]? = some x∧cells[m*k+q]? = some u∧u.oneCell'=true∧DRep F w u x:=fun m q hm hq=>by
    obtain⟨l,hl⟩:∃ l,es[m]? = some l:=⟨_,A4 (by omega)⟩
    have hlk:=hk l (B8 hl)
    obtain⟨x,hx⟩:∃ x,l[q]? = some x:=⟨_,A4 (by omega)⟩
    obtain⟨u,h8,h9,h10⟩:=hd m l q x hl hx
    exact⟨l,x,u,hl,hx,h8,h9,h10⟩
   have hcx:∀ j u,cells[j]? = some u->xs[j]? = some u:=fun j u hj=>by
    rw[<-h7]at hj
    have hlt:=(A6.1 hj).1
    rw[F4]at hlt
    rwa [E8 (by omega)]at hj
   refine .sl (fun m q=>(cells[m*k+q]?).getD undef) hn.symm h3 (by unfold maxLen at h4;omega) hk (fun _=>⟨b,0,rfl,fun m q hm hq=>?_⟩) (fun m q hm hq=>?_) (fun m q e x he hx=>?_)
   . obtain⟨l,x,u,-,-,h8,-⟩:=hget m q hm hq
     refine⟨?_,g2 _⟩
     rw[h8,E4]
     simp[World.cell?,g1,hcx _ _ h8]
   . obtain⟨l,x,u,-,-,h8,h9,-⟩:=hget m q hm hq
     rw[h8];exact h9
   . obtain⟨u,h8,-,h10⟩:=hd m e q x he hx
     rw[h8];exact h10
section
variable {P:Program} {ops:Array Oper} {rl:Option Nat} {d0:Nat} {p:EP} {K:PS->EI->Prop} {d:Option Nat} {ty:TypeId} {pos:String} {af:Array Edge} {gd:Option (Nat×Bool)}
theorem CX {bytes k:Nat} {E:Nat} {cells:List Value} [hA:AppOf P T E k bytes] (hrow:RowAt i.bs E k v n cells) (hx:st.ev x=.d (.val v)) (hy:asSl (st.ev y)=some (k,[e])) (hbt:(n+1)*bytes<=140737488355328) (hl:n+1<=140737488355328)
 (h:∀ (v':Value) (b':Nat) (bs':EB) (news:List Value),v'.ownBlock=some b'->RowAt bs' E k v' (n+1) (cells++news)->(v.ownBlock=some b'∨G1 i.bs b'=none)->(∀ b,b≠b'->v.ownBlock≠some b->G1 bs' b=G1 i.bs b)->news.length=k->(∀ u∈news,u.oneCell'=true)->Lf news e->v'.oneCell'=true->K (st.put d (.d (.val v'))) ⟨bs',news.zip e++i.fs,i.it⟩)
 (hd:I1 ⟨d,.call { callee:=.builtin .append,args:=#[x,y],argTypes:=#[T,T] },ty,pos,af,gd⟩ st=true:=by kernel_rfl) (hw:st.want ops ⟨d,.call { callee:=.builtin .append,args:=#[x,y],argTypes:=#[T,T] },ty,pos,af,gd⟩=some true:=by rfl):
 PL P ops rl d0 (HE p) K [⟨d,.call { callee:=.builtin .append,args:=#[x,y],argTypes:=#[T,T] },ty,pos,af,gd⟩] st i:=by
 obtain⟨hcl,⟨rfl,rfl⟩|⟨b,c,xs,rfl,h2,h3,h4,h5,h6,h7⟩⟩:=hrow
 . have:cells=[]:=List.eq_nil_of_length_eq_zero (by simpa using hcl)
   subst this
   refine pl_ean hx hy (by simpa using hbt) (fun b' c' xs' news q1 q2 q3 q4 q5 q6 q7 q8=>h _ b' _ news rfl ⟨by simp[q2],.inr ⟨b',c',xs',rfl,by omega,q5,q6,by rw[G3,B9 rfl],q4,by simpa using q7⟩⟩ (.inr q1) (fun b hb _=>by rw[G3,B5 hb]) q2 q3 q8 rfl) hd hw
 . refine RS hx h5 h6 h3 h4 hy hbt hl (fun b' c' xs' news q1 q2 q3 q4 q5 q6 q7 q8=>h _ b' _ news C ⟨by rw[C9,hcl,q2,Nat.succ_mul],.inr ⟨b',c',xs',rfl,by omega,q5,q6,by rw[G3,B9 rfl],q4,by rw[q7,h7]⟩⟩ (by
    rcases q1 with rfl|q1
    . exact .inl C
    . exact .inr q1) (fun b2 hb hv=>by rw[G3,B5 hb,Ar,B5 fun e=>hv (by rw[e];rfl)]) q2 q3 q8 rfl) hd hw
end
def InR (i:EI) (bo:Nat) (v:Value) (El:Nat) (rs:List (Int×List (List DV))) (cells:List Value):Prop:=
 (∀ (j:Nat) r,rs[j]? = some r->cells[j*2]? = some (vI r.1) ∧ ∃ lv lc,cells[j*2+1]? = some lv∧RowAt i.bs El 3 lv r.2.length lc∧(∀ b,lv.ownBlock=some b->b≠bo∧v.ownBlock≠some b) ∧ ∀ (m:Nat) l,r.2[m]? = some l->l.length=3 ∧ ∀ (q:Nat) x,l[q]? = some x->∃ u,lc[m*3+q]? = some u∧u.oneCell'=true∧(u,x)∈i.fs) ∧
 ∀ (j j':Nat) (lv lv':Value) b,cells[j*2+1]? = some lv->cells[j'*2+1]? = some lv'->lv.ownBlock=some b->lv'.ownBlock=some b->j=j'
def RA (i:EI) (bo Er El:Nat) (rs:List (Int×List (List DV))):Prop:=
 ∃ xs0 To v cells,G1 i.bs bo=some (xs0,To)∧xs0[0]? = some v∧RowAt i.bs Er 2 v rs.length cells∧v.ownBlock≠some bo∧InR i bo v El rs cells
theorem set0 {xs:List Value} {u:Value} (h:xs[0]? = some v):(BO xs 0 [u])[0]? = some u:=by
 have hlt:=(A6.1 h).1
 simp[BO,hlt]
theorem Nz (hl:vs.length=1) (h:Lf vs [.val v]):vs=[v]:=by
 match vs,hl with
 | [u],_=>rw[h 0 u v rfl rfl]
theorem exv_two {v':Value} (hl:vs.length=2) (h:Lf vs [.val v,.val v']):vs=[v,v']:=by
 match vs,hl with
 | [u,u'],_=>rw[h 0 u v rfl rfl,h 1 u' v' rfl rfl]
theorem RA.start {bo Er El To:Nat} (h:G1 i.bs bo=some (xs0,To)) (h0:xs0[0]? = some (.slice none 0 0)):RA i bo Er El []:=
 ⟨xs0,To,_,[],h,h0,RowAt.nil _ _ _,by simp[Value.ownBlock],fun j r hj=>by simp at hj,fun j j' lv lv' b hj=>by simp at hj⟩
theorem RA.push {bo Er El To b':Nat} {news cells:List Value} {v':Value} {bs':EB} {n:Int}
 (h1:G1 i.bs bo=some (xs0,To)) (h2:xs0[0]? = some v) (h4:v.ownBlock≠some bo) (h5:InR i bo v El rs cells) (hcl:cells.length=rs.length*2)
 (q1:v'.ownBlock=some b') (q2:RowAt bs' Er 2 v' (rs.length+1) (cells++news)) (q3:v.ownBlock=some b'∨G1 i.bs b'=none) (q4:∀ b,b≠b'->v.ownBlock≠some b->G1 bs' b=G1 i.bs b) (q5:news.length=2) (q6:Lf news [.val (vI n),.val (.slice none 0 0)]) (q7:vs.length=1) (q8:Lf vs [.val v']) (hfs:∀ q∈i.fs,q∈fs'):
 RA ⟨(bo,(BO xs0 0 vs,To))::bs',fs',it'⟩ bo Er El (rs++[(n,[])]):=by
 rw[Nz q7 q8]
 rw[exv_two q5 q6]at q2
 have hbo:b'≠bo:=fun e=>by
  rcases q3 with q3|q3
  . exact h4 (e ▸ q3)
  . rw[e,h1]at q3;cases q3
 have hlv:∀ b,(∃ xs,G1 i.bs b=some (xs,El))->v.ownBlock≠some b->b≠b':=fun b ⟨xs,hb⟩ hv e=>by
  rcases q3 with q3|q3
  . exact hv (e ▸ q3)
  . rw[<-e,hb]at q3;cases q3
 have hget:∀ j,j<cells.length->(cells++[vI n,.slice none 0 0])[j]? = cells[j]?:=fun j hj=>F3 hj
 have hrow:RowAt ((bo,(BO xs0 0 [v'],To))::bs') Er 2 v' (rs++[(n,([]:List (List DV)))]).length (cells++[vI n,.slice none 0 0]):=by
  rw[C9]
  refine q2.keep fun b hb=>?_
  rw[q1]at hb;cases hb
  rw[G3,B5 hbo]
 refine⟨_,To,v',_,by rw[G3,B9 rfl],set0 h2,hrow,fun e=>?_,fun j r hj=>?_,fun j j' lv lv' b e1 e2 e3 e4=>?_⟩
 . rw[q1]at e;cases e;exact hbo C
 . rcases D5 j rs.length with hlt|hge
   . rw[F3 hlt]at hj
     obtain⟨t1,lv,lc,t2,t3,t4,t5⟩:=h5.1 j r hj
     refine⟨by rw[hget _ (by omega)];exact t1,lv,lc,by rw[hget _ (by omega)];exact t2,t3.keep fun b hb=>?_,fun b hb=>⟨(t4 b hb).1,fun e=>?_⟩,fun m l hm=>⟨(t5 m l hm).1,fun q x hx=>?_⟩⟩
     . have hb':=hlv b (t3.blk hb) (t4 b hb).2
       rw[G3,B5 (t4 b hb).1]
       exact q4 b hb' (t4 b hb).2
     . rw[q1]at e;cases e
       exact hlv _ (t3.blk hb) (t4 _ hb).2 C
     . obtain⟨u,u1,u2,u3⟩:=(t5 m l hm).2 q x hx
       exact⟨u,u1,u2,hfs _ u3⟩
   . rw[E9 hge]at hj
     obtain⟨hq,hq2⟩:=A6.1 hj
     have h0:j=rs.length:=by simp at hq;omega
     subst h0
     simp at hq2
     subst hq2
     refine⟨?_,.slice none 0 0,[],?_,RowAt.nil _ _ _,fun b hb=>(by cases hb),fun m l hm=>by simp at hm⟩
     . rw[<-hcl,E9 (E0 _),Nat.sub_self];rfl
     . rw[<-hcl,E9 (by omega),Nat.add_sub_cancel_left];rfl
 . have key:∀ j (lv:Value) b,(cells++[vI n,.slice none 0 0])[j*2+1]? = some lv->lv.ownBlock=some b->cells[j*2+1]? = some lv:=fun j lv b e hb=>by
    rcases D5 (j*2+1) cells.length with hlt|hge
    . rwa [F3 hlt]at e
    . rw[E9 hge]at e
      have hq:=(A6.1 e).1
      have h0:j*2+1-cells.length=1:=by simp at hq;omega
      rw[h0]at e
      cases e
      cases hb
   exact h5.2 j j' lv lv' b (key j lv b e1 e3) (key j' lv' b e2 e4) e3 e4
theorem RA.line {bo br Er El To c b':Nat} {r:Int×List (List DV)} {xs news cells lc:List Value} {lv v':Value} {bs':EB} 
 (h1:G1 i.bs bo=some (xs0,To)) (h2:xs0[0]? = some (.slice (some ⟨br,0,none⟩) (rs.length+1) c)) (h4:br≠bo) (h5:InR i bo (.slice (some ⟨br,0,none⟩) (rs.length+1) c) El (rs++[r]) cells) (hcl:cells.length=(rs.length+1)*2)
 (x1:G1 i.bs br=some (xs,Er)) (x2:rs.length+1<=c) (x3:c<=maxLen) (x4:xs.length=c*2) (x5:xs.take ((rs.length+1)*2)=cells) (l1:cells[rs.length*2+1]? = some lv) (l2:RowAt i.bs El 3 lv r.2.length lc)
 (l3:∀ (m:Nat) l,r.2[m]? = some l->l.length=3 ∧ ∀ (q:Nat) x,l[q]? = some x->∃ u,lc[m*3+q]? = some u∧u.oneCell'=true∧(u,x)∈i.fs)
 (q1:v'.ownBlock=some b') (q2:RowAt bs' El 3 v' (r.2.length+1) (lc++news)) (q3:lv.ownBlock=some b'∨G1 i.bs b'=none) (q4:∀ b,b≠b'->lv.ownBlock≠some b->G1 bs' b=G1 i.bs b) (q5:news.length=3) (q9:e.length=3) (q6:∀ u∈news,u.oneCell'=true) (q7:vs.length=1) (q8:Lf vs [.val v']) (hfs:∀ q∈i.fs,q∈fs') (hne:∀ q∈news.zip e,q∈fs'):
 RA ⟨(br,(BO xs (rs.length*2+1) vs,Er))::bs',fs',it'⟩ bo Er El (rs++[(r.1,r.2++[e])]):=by
 rw[Nz q7 q8]
 have hlast:(rs++[r])[rs.length]? = some r:=by rw[E9 (E0 _),Nat.sub_self];rfl
 have hlo:∀ b,lv.ownBlock=some b->b≠bo∧b≠br:=fun b hb=>by
  obtain⟨-,lv0,lc0,t2,t3,t4,-⟩:=h5.1 _ _ hlast
  rw[l1]at t2;cases t2
  refine⟨(t4 b hb).1,fun e=>(t4 b hb).2 ?_⟩
  rw[e];rfl
 have hbo:b'≠bo:=fun e=>by
  rcases q3 with q3|q3
  . exact(hlo _ q3).1 e
  . rw[e,h1]at q3;cases q3
 have hbr:b'≠br:=fun e=>by
  rcases q3 with q3|q3
  . exact(hlo _ q3).2 e
  . rw[e,x1]at q3;cases q3
 have hnew:∀ b,b≠b'->b≠br->lv.ownBlock≠some b->G1 ((br,(BO xs (rs.length*2+1) [v'],Er))::bs') b=G1 i.bs b:=fun b e1 e2 e3=>by
  rw[G3,B5 e2];exact q4 b e1 e3
 have hlt1:rs.length*2+1<xs.length:=by omega
 have hset:BO xs (rs.length*2+1) [v']=xs.set (rs.length*2+1) v':=rfl
 have hother:∀ j (lw:Value) b,j≠rs.length->cells[j*2+1]? = some lw->lw.ownBlock=some b->(∃ ys,G1 i.bs b=some (ys,El))->b≠b'∧lv.ownBlock≠some b:=fun j lw b hj hw hb ⟨ys,hy⟩=>by
  have h6:lv.ownBlock≠some b:=fun e=>hj (h5.2 j rs.length lw lv b hw l1 hb e)
  refine⟨fun e=>?_,h6⟩
  rcases q3 with q3|q3
  . exact h6 (e ▸ q3)
  . rw[<-e,hy]at q3;cases q3
 have hc0:∀ j,j≠rs.length*2+1->(cells.set (rs.length*2+1) v')[j]? = cells[j]?:=fun j hj=>List.getElem?_set_ne (Ne.symm hj)
 have hc1:(cells.set (rs.length*2+1) v')[rs.length*2+1]? = some v':=List.getElem?_set_self (by omega)
 have hrow:RowAt ((br,(BO xs (rs.length*2+1) [v'],Er))::bs') Er 2 (.slice (some ⟨br,0,none⟩) (rs.length+1) c) (rs++[(r.1,r.2++[e])]).length (cells.set (rs.length*2+1) v'):=by
  refine⟨by simp[hcl],.inr ⟨br,c,_,by simp,by simp,by simpa using x2,x3,by rw[G3,B9 rfl],by rw[hset,List.length_set,x4],?_⟩⟩
  rw[hset,<-x5,C9]
  simp only[List.length_cons,List.length_nil,E4]
  rw[List.take_set]
 refine⟨xs0,To,.slice (some ⟨br,0,none⟩) (rs.length+1) c,_,(hnew bo (Ne.symm hbo) (Ne.symm h4) fun e=>(hlo _ e).1 C).trans h1,h2,hrow,fun e=>?_,fun j s hj=>?_,fun j j' u u' b e1 e2 e3 e4=>?_⟩
 . cases e;exact h4 C
 . rcases D5 j rs.length with hlt|hge
   . rw[F3 hlt]at hj
     obtain⟨t1,lw,lc',t2,t3,t4,t5⟩:=h5.1 j s (by rw[F3 hlt];exact hj)
     refine⟨by rw[hc0 _ (by omega)];exact t1,lw,lc',by rw[hc0 _ (by omega)];exact t2,t3.keep fun b hb=>?_,t4,fun m l hm=>⟨(t5 m l hm).1,fun q x hx=>?_⟩⟩
     . obtain⟨h6,h7⟩:=hother j lw b (by omega) t2 hb (t3.blk hb)
       exact hnew b h6 (fun e=>(t4 b hb).2 (by rw[e];rfl)) h7
     . obtain⟨u,u1,u2,u3⟩:=(t5 m l hm).2 q x hx
       exact⟨u,u1,u2,hfs _ u3⟩
   . rw[E9 hge]at hj
     obtain⟨hq,hq2⟩:=A6.1 hj
     have h0:j=rs.length:=by simp at hq;omega
     subst h0
     simp at hq2
     subst hq2
     obtain⟨t1,-⟩:=h5.1 _ _ hlast
     have hv':RowAt ((br,(BO xs (rs.length*2+1) [v'],Er))::bs') El 3 v' (r.2++[e]).length (lc++news):=by
      rw[C9]
      refine q2.keep fun b hb=>?_
      rw[q1]at hb;cases hb
      rw[G3,B5 hbr]
     refine⟨by rw[hc0 _ (by omega)];exact t1,v',_,hc1,hv',fun b hb=>?_,fun m l hm=>?_⟩
     . rw[q1]at hb;cases hb
       refine⟨hbo,fun e=>?_⟩
       cases e;exact hbr C
     . have hll:=l2.1
       rcases D5 m r.2.length with hlt|hge
       . rw[F3 hlt]at hm
         refine⟨(l3 m l hm).1,fun q x hx=>?_⟩
         obtain⟨u,u1,u2,u3⟩:=(l3 m l hm).2 q x hx
         exact⟨u,by rw[F3 (A6.1 u1).1];exact u1,u2,hfs _ u3⟩
       . rw[E9 hge]at hm
         obtain⟨hq,hq2⟩:=A6.1 hm
         have h0:m=r.2.length:=by simp at hq;omega
         subst h0
         simp at hq2
         subst hq2
         refine⟨q9,fun q x hx=>?_⟩
         have hlt:=(A6.1 hx).1
         refine⟨news[q],?_,q6 _ (List.getElem_mem _),hne _ (List.mem_iff_getElem?.2 ⟨q,?_⟩)⟩
         . rw[E9 (by omega),hll,Nat.add_sub_cancel_left,A4]
         . rw[List.getElem?_zip_eq_some]
           exact⟨A4 _,hx⟩
 . have key:∀ j (lw:Value) b,(cells.set (rs.length*2+1) v')[j*2+1]? = some lw->lw.ownBlock=some b->(j=rs.length∧b=b')∨(j≠rs.length∧cells[j*2+1]? = some lw∧b≠b'):=fun j lw b e hb=>by
    rcases Decidable.em (j=rs.length)with h|h
    . subst h
      rw[hc1]at e;cases e
      rw[q1]at hb;cases hb
      exact .inl ⟨rfl,C⟩
    . rw[hc0 _ (by omega)]at e
      have hj:j<(rs++[r]).length:=by
       have:=(A6.1 e).1
       simp;omega
      obtain⟨-,lw',lc',t2,t3,t4,-⟩:=h5.1 j _ (A4 hj)
      rw[e]at t2;cases t2
      exact .inr ⟨h,e,(hother j lw b h e hb (t3.blk hb)).1⟩
   rcases key j u b e1 e3 with⟨k1,k2⟩|⟨k1,k2,k3⟩<;>rcases key j' u' b e2 e4 with⟨m1,m2⟩|⟨m1,m2,m3⟩
   . rw[k1,m1]
   . exact G5 k2 m3
   . exact G5 m2 k3
   . exact h5.2 j j' u u' b k2 m2 e3 e4
theorem RA.data {bo Er El:Nat} (h:RA i bo Er El rs) (hbs:∀ (b:Nat) (xs:List Value) (T:Nat),G1 i.bs b=some (xs,T)->w.heap[b]? = some (.cells xs.toArray T (0,0)) ∧ ∀ o,F b o) (hfs:∀ q∈i.fs,DRep F w q.1 q.2):
 DRep F w (.pointer (some ⟨bo,0,none⟩)) (.ref [.sl 2 (rs.map fun r=>[.val (vI r.1),.sl 3 r.2])]):=by
 obtain⟨xs0,To,v,cells,h1,h2,h3,h4,h5⟩:=h
 obtain⟨g1,g2⟩:=hbs bo xs0 To h1
 have hv:DRep F w v (.sl 2 (rs.map fun r=>[.val (vI r.1),.sl 3 r.2])):=by
  refine h3.data hbs (by simp) (fun e he=>?_) fun m l q x hm hq=>?_
  . obtain⟨r,-,rfl⟩:=H2.1 he;rfl
  . rw[C6,C7]at hm
    obtain⟨r,hr,rfl⟩:=hm
    obtain⟨t1,lv,lc,t2,t3,t4,t5⟩:=h5.1 m r hr
    match q with
    | 0=>cases hq;exact⟨_,t1,C,DRep.val _ C⟩
    | 1=>
     cases hq
     refine⟨lv,t2,t3.one,t3.data hbs C (fun e he=>?_) fun m' l' q' x' hm' hq'=>?_⟩
     . obtain⟨m',hm'⟩:=List.mem_iff_getElem?.1 he
       exact(t5 m' e hm').1
     . obtain⟨u,u1,u2,u3⟩:=(t5 m' l' hm').2 q' x' hq'
       exact⟨u,u1,u2,hfs _ u3⟩
    | q+2=>simp at hq
 refine .ref (fun _=>v) (fun j hj=>?_) fun j x hj=>?_
 . have:j=0:=by simpa using hj
   subst this
   exact⟨by simp[World.cell?,g1,h2],g2 _,h3.one⟩
 . match j with
   | 0=>cases hj;exact hv
   | j+1=>simp at hj
def Ho (b:Nat) (A A':World):Prop:=A'.os=A.os∧A'.tape=A.tape∧A'.output=A.output∧A.heap.size<=A'.heap.size∧(∀ c,c<A.heap.size->c≠b->A'.heap[c]? = A.heap[c]?) ∧ ∃ xs T z,A'.heap[b]? = some (.cells xs T z)
def GQ (P:Program) (gf:FuncId) (lb:Array Value) (xs:List (List Value)) (b:Nat) (F:Nat->Nat->Prop) (w:World):Prop:=
 ∀ (l:Nat) (J:Nat->World->Prop) (Jx:World->Prop),
  (∀ i A A',J i A->Ho b A A'->J i A')->(∀ A A',Jx A->Ho b A A'->Jx A') →
  (∀ i x A,xs[i]? = some x->J i A->YieldAt Fence.wide 0 P l x.toArray A fun e A'=>(e=.returned (.bool true)∧J (i+1) A'∧Kp F A F A'∧GlobOk F A'∧A'.heap[b]? = A.heap[b]?)∨(e=.returned (.bool false)∧Jx A'∧A'.heap[b]? = A.heap[b]?)) →
  GlobOk F w->J 0 w->CallsIn Fence.wide 0 P gf (#[.func (.yield l) #[] #[]]++lb) w fun e w'=>(∃ v,e=.returned v)∧(J xs.length w'∨Jx w')
def IE (g:Gh) (A:World) (b:Nat):Prop:=¬ R4 g A b∧(∀ o,¬ g.f0 b o) ∧ ∃ xs T z,A.heap[b]? = some (.cells xs T z)
section
variable {rl:Option Nat} {d0:Nat} {p:EP} {g:Gh} {a:Act} {w w':World}
theorem HE.turnB (hs:Self rl d0 g st a w) (hx:HE p i g w) (h3:IE g w b) (hbp:p.w.heap.size<=b∨p.ex b) (hn:G1 i.bs b=none) (hb:Ho b w w'):Self rl d0 g st a w'∧HE p i g w'∧Kp (Fx g) w (Fx g) w'∧(∀ c,R4 g w' c->R4 g w c)∧IE g w' b:=by
 obtain⟨b1,b2,b3,b4,b5,b6⟩:=hb
 obtain⟨n1,n2,xs0,T0,z0,n3⟩:=h3
 have hlt:b<w.heap.size:=(D2.1 n3).1
 obtain⟨s1,kp,hown⟩:=hs.chg g.f0 b4 (fun _ _ _ h=>h) (fun b o h=>hs.2.f0 b o (D9 b4 h)) (fun c h hO=>b5 c h fun e=>n1 (e ▸ hO)) (fun c o h hf _=>L3 (b5 c h fun e=>n2 o (e ▸ hf.1)) o) (fun q cs hq=>b5 q (I9 (hx.gl q cs hq).1 hx.size) fun e=>by
  obtain⟨h5,h6⟩:=hx.gl q cs hq
  rcases hbp with h|h
  . omega
  . exact h6 (e ▸ h)) (fun D hD _=>b5 D (D2.1 hD).1 fun e=>by rw[e,n3]at hD;cases hD)
 refine⟨s1,⟨b1.trans hx.os,b2.trans hx.tape,b3.trans hx.output,D9 hx.size b4,fun c hc1 hc2=>(b5 c (I9 hc1 hx.size) fun e=>?_).trans (hx.block c hc1 hc2),hx.f0,hx.new,fun c hO=>hx.own c (hown c hO),hx.gl,fun q hq=>(hx.fs q hq).mono kp,fun c xs T e=>?_,hx.it.keep (fun r l dn hi=>?_) hown kp⟩,kp,hown,fun hO=>n1 (hown b hO),n2,b6⟩
 . rcases hbp with h|h
   . omega
   . exact hc2 (e ▸ h)
 . obtain⟨h1,h2,h3,h4⟩:=hx.bs c xs T e
   exact⟨(b5 c (D2.1 h1).1 fun e'=>by rw[e',hn]at e;cases e).trans h1,fun hO=>h2 (hown c hO),h3,h4⟩
 . obtain⟨bm,es,c,seen,cc,h1,-⟩:=hx.it r l dn hi
   exact b5 r (D2.1 h1).1 fun e=>by rw[e,n3]at h1;cases h1
end
theorem RI {P:Program} {d0:Nat} {p:EP} {Q:Exit->PS->EI->Prop} {gv:Operand} {ps:List Nat} {assign body:Code} {S:List (Nat×SV)} {gf:FuncId} {lb:Array Value} {ys:List Value} {T0:Nat} (xs:List (List Value)) (asg:List (Nat×Nat)) (I:Nat->Prop) (bI:Nat->List (Nat×List SV)) (tI:Nat->List (Nat×Nat)) [hB:HasBody P gf]
 (hI:I 0) (hg:PS.ev ⟨n,S,bI 0,tI 0⟩ gv=.d (.val (.func (.func gf) #[] lb))) (hb:G1 i.bs b=some (ys,T0)) (hspec:∀ F w,(∀ o,¬ F b o)->w.heap[b]? = some (.cells ys.toArray T0 (0,0))->GQ P gf lb xs b F w) (hlen:∀ x∈xs,x.length=ps.length) (hasg:Ms assign=some asg)
 (hbd:(ps.all (fun p=>Nat.blt p n)&&asg.all (fun p=>Nat.blt p.1 n))=true) (hnd:ps.Nodup∧(asg.map (·.1)).Nodup∧(∀ p∈asg,∀ q∈asg,p.2≠q.1)∧(∀ p∈asg,p.2∈ps)∧(∀ p∈asg,p.1 ∉ ps))
 (hround:∀ k x,xs[k]? = some x->I k->∃ args:List SV,args.length<=n∧ArgR ⟨n,S,bI k,tI k⟩ (ps++asg.map (·.1)) (nwOf ps asg x) 0 args∧(bI (k+1)).map (·.1)=(bI k).map (·.1)∧(tI (k+1)).map (·.1)=(tI k).map (·.1)∧EO args (bI k) (tI k) (bI (k+1))=true ∧
  ∀ B w0,PW P B w0 body (QRd (I (k+1)) (fun e s=>Q e s ⟨i.bs.del b,i.fs,i.it⟩) n S (bI k) (tI k) (bI (k+1)) (tI (k+1))) ⟨n,FA 0 (args.map SV.sh),Gf (bI k),Ge (tI k)⟩)
 (hdone:I xs.length->Q .normal ⟨n,S,bI xs.length,tI xs.length⟩ ⟨i.bs.del b,i.fs,i.it⟩):PX P none d0 (HE p) (.rangeFunc gv ps.toArray assign body) Q ⟨n,S,bI 0,tI 0⟩ i:=fun g a w hs hX=>by
 have hr:=hs.2
 have hv:=LE hs hg
 have hrun:∀ args w,(callFunc gf args).run P w=.ok (.enter gf args) w:=fun args w=>hB.run w args
 obtain⟨t1,t2,t3,t4⟩:=hX.bs b ys T0 hb
 obtain⟨i',hi'⟩:∃ i':EI,i'=⟨i.bs.del b,i.fs,i.it⟩:=⟨_,rfl⟩
 rw[<-hi']at hround hdone
 have hni:G1 i'.bs b=none:=by rw[hi',Ar,B9 rfl]
 have hX0:HE p i' g w:=by
  rw[hi']
  refine⟨hX.os,hX.tape,hX.output,hX.size,hX.block,hX.f0,hX.new,hX.own,hX.gl,hX.fs,fun c xs T e=>?_,hX.it⟩
  rw[Ar]at e
  split at e
  . cases e
  . exact hX.bs c xs T e
 have h30:IE g w b:=⟨t2,t3,_,_,_,t1⟩
 clear hX
 rw[D1,E5,E5]at hbd
 have hbd1:∀ p∈ps,p<n:=fun p hp=>C0 (hbd.1 p hp)
 have hbd2:∀ p∈asg,p.1<n:=fun p hp=>C0 (hbd.2 p hp)
 obtain⟨hn1,hn2,hn3,hn4,hn5⟩:=hnd
 refine wpIn_rangeFunc ?_
 intro fn hfn
 obtain⟨rec,hrec⟩:∃ rec:LoopState->Option Code->Loop,rec=fun st pe=>{ state:=st,pending:=pe,fn,tmps:=a.tmps,params:=ps.toArray,assign,body,defers:=w.heap.size }:=⟨_,rfl⟩
 obtain⟨W1,hW1⟩:∃ W1,(w.alloc (.deferred (some []))).alloc (.loop (rec .ready none))=W1:=⟨_,rfl⟩
 have hL1:W1.heap[w.heap.size+1]? = some (.loop (rec .ready none)):=by
  rw[<-hW1];have:=World.alloc_heap_new (w.alloc (.deferred (some []))) (.loop (rec .ready none));rwa [World.size_alloc]at this
 have hK1:W1.heap[w.heap.size]? = some (.deferred (some [])):=by
  rw[<-hW1];exact(Below.heap_alloc _ _ _ (by simp)).trans (World.alloc_heap_new w _)
 have hb1:Below w.heap.size w W1:=by
  rw[<-hW1];exact((Below.refl _ w).alloc (E0 _) _).alloc (by simp) _
 have hsz:W1.heap.size=w.heap.size+2:=by rw[<-hW1];simp
 obtain⟨nb,nt⟩:=hr.not_tok (E0 w.heap.size)
 obtain⟨nb',nt'⟩:=hr.not_tok (Nat.le_succ w.heap.size)
 have hoD:¬ R4 g W1 w.heap.size:=fun ho=>by
  rcases ho with q|⟨i,q⟩|⟨t,T,q1,q2⟩
  . omega
  . exact nb i q
  . exact nt t T q1 q2
 have hoL:¬ R4 g W1 (w.heap.size+1):=fun ho=>by
  rcases ho with q|⟨i,q⟩|⟨t,T,q1,q2⟩
  . omega
  . exact nb' i q
  . exact nt' t T q1 q2
 have hblt:b<w.heap.size:=(D2.1 t1).1
 obtain⟨s1,kp1,hown1,hX1⟩:=HE.below hs hX0 hb1
 have hX1:=hX1 i'.it (hX0.it.keep (fun r l dn hi=>by
  obtain⟨bm,es,c,seen,cc,h1,-⟩:=hX0.it r l dn hi
  exact hb1.block r (D2.1 h1).1) hown1 kp1)
 have h31:IE g W1 b:=⟨fun ho=>t2 (hown1 b ho),t3,_,_,_,(hb1.block b hblt).trans t1⟩
 have hdef:Dfr ⟨W1,g,none,d0,s1.1⟩ g W1 ({ target:=.collected w.heap.size,args:=#[] }::a.defers):=by
  have hd1:=s1.2.defers
  refine⟨List.nodup_cons.2 ⟨fun hm=>?_,hd1.1⟩,fun d hd=>?_⟩
  . obtain⟨D,q1,q2,-,-⟩:=hr.defers.2 _ hm
    have:D=w.heap.size:=by injection q1 with q1 _;injection q1 with q1;exact q1.symm
    subst this
    have:=(D2.1 q2).1
    omega
  . rcases List.mem_cons.1 hd with rfl|hd
    . exact⟨_,C,hK1,hoD,hs.1⟩
    . exact hd1.2 d hd
 obtain⟨a',ha'⟩:∃ a':Act,a'={ a with defers:={ target:=.collected w.heap.size,args:=#[] }::a.defers }:=⟨_,rfl⟩
 have hta:a'.tmps=a.tmps:=by rw[ha']
 have s2:Self none d0 g ⟨n,S,bI 0,tI 0⟩ a' W1:=by rw[ha'];exact⟨s1.1,s1.2.mark hdef⟩
 obtain⟨F,hF⟩:∃ F:Nat->Nat->Prop,F=fun b o=>Fx g b o∧(Z3 W1 b o).isSome:=⟨_,rfl⟩
 have hFg:∀ b o,F b o↔Fx g b o∧(Z3 W1 b o).isSome:=fun b o=>by rw[hF]
 have own_l:∀ {G:Gh} {X Y:World},¬ R4 G X (w.heap.size+1)->w.heap.size+1<X.heap.size->X.heap.size<=Y.heap.size->¬ R4 G Y (w.heap.size+1):=fun hn hx hy ho=>by
  rcases ho with q|q|q
  . omega
  . exact hn (.inr (.inl q))
  . exact hn (.inr (.inr q))
 have lt_l:∀ {X:World} {L:Loop},X.heap[w.heap.size+1]? = some (.loop L)->w.heap.size+1<X.heap.size:=fun h=>(D2.1 h).1
 have hLb:w.heap.size+1≠b:=by omega
 have hpL:p.w.heap.size<=w.heap.size+1:=D9 hX0.size (Nat.le_succ _)
 have turn:∀ {G:Gh} {s:PS} {X:World} {L L':Loop},Self none d0 G s a' X->HE p i' G X->IE G X b->X.heap[w.heap.size+1]? = some (.loop L)->¬ R4 G X (w.heap.size+1)->Self none d0 G s a' (X.putObj (w.heap.size+1) (.loop L'))∧HE p i' G (X.putObj (w.heap.size+1) (.loop L'))∧IE G (X.putObj (w.heap.size+1) (.loop L')) b∧(X.putObj (w.heap.size+1) (.loop L')).heap[w.heap.size+1]? = some (.loop L') ∧ ¬ R4 G (X.putObj (w.heap.size+1) (.loop L')) (w.heap.size+1)∧(∀ c o,Z3 (X.putObj (w.heap.size+1) (.loop L')) c o=Z3 X c o)∧(X.putObj (w.heap.size+1) (.loop L')).heap[b]? = X.heap[b]?:=fun {G s X L L'} h1 hx h3 h2 h4=>by
  obtain⟨q1,kp,hown,q2⟩:=HE.put1 (w':=X.putObj (w.heap.size+1) (.loop L')) h1 hx (w.heap.size+1) h2 (fun _ _ _ e=>by cases e) (fun _ _ e=>by cases e) rfl rfl rfl (by simp) (fun c _ hc=>World.putObj_heap_other hc) h4 hpL (fun e=>by rw[h2]at e;cases e)
  have hbb:(X.putObj (w.heap.size+1) (.loop L')).heap[b]? = X.heap[b]?:=World.putObj_heap_other (Ne.symm hLb)
  refine⟨q1,q2 i'.it (hx.it.keep (fun r l dn hi=>World.putObj_heap_other fun e=>?_) hown kp),⟨fun ho=>h3.1 (hown b ho),h3.2.1,by rw[hbb];exact h3.2.2⟩,World.putObj_heap_same (lt_l h2),fun ho=>h4 (hown _ ho),fun c o=>JI h2 (fun _ _ _ e=>by cases e) (fun _ _ e=>by cases e) (fun _ _ _ e=>by cases e) (fun _ _ e=>by cases e),hbb⟩
  obtain⟨bm,es,c,seen,cc,e1,-⟩:=hx.it r l dn hi
  rw[e,h2]at e1
  cases e1
 refine⟨w.heap.size+1,[{ target:=.collected w.heap.size,args:=#[] }],W1,{ target:=.fn (.func gf) lb,args:=#[.func (.yield (w.heap.size+1)) #[] #[]] },W1,gf,#[.func (.yield (w.heap.size+1)) #[] #[]]++lb,W1,?_,?_,fun _ _=>trivial,?_,fun h=>(by cases h),?_⟩
 . rw[<-hW1,hrec];exact run_enterLoop_outer _ _ _ _ _
 . simp only[resolve,hv]
   simp[go_sem]
 . simp[invoke,go_sem,hrun]
 have hgo1:GlobOk F W1:=s1.2.gok.mono fun b o hf hs=>⟨(hFg b o).2 ⟨hf,hs⟩,rfl⟩
 have hsp:GQ P gf lb xs b F W1:=hspec F W1 (fun o ho=>t3 o ((hFg b o).1 ho).1.1) ((hb1.block b hblt).trans t1)
 refine Dn.2 (callsIn_wide.1 ((hsp (w.heap.size+1)
  (fun k A=>I k ∧ ∃ g',Self none d0 g' ⟨n,S,bI k,tI k⟩ a' A∧HE p i' g' A∧IE g' A b∧Kp (Fx g) W1 (Fx g') A∧A.heap[w.heap.size+1]? = some (.loop (rec .ready none)) ∧ ¬ R4 g' A (w.heap.size+1))
  (fun A=>∃ g' c e s,((e=Exit.ret∧c=Code.ret) ∨ ∃ id,e=Exit.exit id∧c=Code.exit id)∧Self none d0 g' s a' A∧HE p i' g' A∧IE g' A b∧Q e s i'∧A.heap[w.heap.size+1]? = some (.loop (rec .done (some c))) ∧ ¬ R4 g' A (w.heap.size+1))
  ?_ ?_ ?_ ?_ ?_).mono ?_))
 . rintro k A A' ⟨hii,g',h1,hx,h5,h2,h3,h4⟩ hbb
   obtain⟨r1,r2,r3,r4,r5⟩:=HE.turnB h1 hx h5 t4 hni hbb
   exact⟨hii,g',r1,r2,r5,h2.trans r3,(hbb.2.2.2.2.1 _ (lt_l h3) hLb).trans h3,fun ho=>h4 (r4 _ ho)⟩
 . rintro A A' ⟨g',c,e,s,hm,h1,hx,h5,hq,h3,h4⟩ hbb
   obtain⟨r1,r2,r3,r4,r5⟩:=HE.turnB h1 hx h5 t4 hni hbb
   exact⟨g',c,e,s,hm,r1,r2,r5,hq,(hbb.2.2.2.2.1 _ (lt_l h3) hLb).trans h3,fun ho=>h4 (r4 _ ho)⟩
 . -- one round
   rintro k x A hx ⟨hii,g',h1,hxA,h5A,h2,h3,h4⟩
   obtain⟨args,ha1,ha2,ha3,ha4,ha5,hpw⟩:=hround k x hx hii
   have hxl:=hlen x (B8 hx)
   have hsT:a.tmps.size=n:=hr.size
   obtain⟨z1,z2,z3⟩:=IF ps x a.tmps (fun p hp=>by rw[hsT];exact hbd1 p hp) hn1
   obtain⟨y1,y2,y3⟩:=Iu asg (GR ps x a.tmps) (fun p hp=>by rw[z1,hsT];exact hbd2 p hp) hn2 hn3
   obtain⟨T,hT⟩:=H8 (Ft asg (GR ps x a.tmps))
   rw[<-hT]at y1 y2 y3
   have hTs:T.size=n:=by rw[y1,z1,hsT]
   refine⟨fn,GR ps x a.tmps,assign,body,?_,roundIn_of_wpIn hfn ?_⟩
   . have:=run_yield (P:=P) (args:=x.toArray) h3 (by rw[hrec];simpa using hxl)
     rw[hrec]at this
     exact this
   refine Ss (rl:=some (w.heap.size+1)) hasg ?_
   rw[<-hT]
   obtain⟨hr3,hx3,h53,hl3,ho3,hs3,hb3⟩:=turn (L':={ rec .ready none with state:=.busy }) h1 hxA h5A h3 h4
   refine⟨_,run_beginRound h3 (by rw[hrec]),?_⟩
   obtain⟨A3,hA3⟩:=H8 (A.putObj (w.heap.size+1) (.loop { rec .ready none with state:=.busy }))
   rw[<-hA3]at hr3 hx3 h53 hl3 ho3 hs3 hb3 ⊢
   obtain⟨hd3,hr3⟩:=hr3
   unfold EO at ha5
   simp only[D1,E5]at ha5
   obtain⟨⟨⟨f1,f2⟩,f3⟩,f4⟩:=ha5
   have hFit:Fit ⟨n,S,bI k,tI k⟩ (bI k) (tI k):=⟨fun i cs hi=>hi,fun t n ht=>ht,fun p hp=>f1 p hp,fun p hp=>f2 p hp⟩
   have hpass:=hr3.pass hFit (vals:=T.toList) (args:=args++List.replicate (n-args.length) .any) (n:=n) (m:=n) rfl (by simp;omega) hr3.lim (by simp;omega) (fun j v sx hv hsx=>by
    have hjl:j<T.size:=by simpa using (A6.1 hv).1
    have hvj:v=T.getD j undef:=by
     rw[Array.getElem?_toList]at hv
     simp[Array.getD,hjl]
     simpa[hjl]using hv.symm
    by_cases hj:j<args.length
    . rw[F3 hj]at hsx
      rcases ha2.get j sx hsx with e|⟨e1,e2⟩|⟨u,e1,e2,e3⟩
      . rw[e];trivial
      . rw[E4]at e1 e2
        rw[List.mem_append,not_or]at e1
        rw[hvj,y2 j e1.2,z2 j e1.1]
        have:=hr3.slots j
        rw[hta]at this
        exact this.le e2
      . rw[E4]at e1
        obtain⟨p,hp,q⟩:=H2.1 (M9 e1)
        have q1:p.1=j:=G4 Prod.fst q
        have q2:(x[ps.idxOf p.2]?).getD undef=u:=G4 Prod.snd q
        rw[e3]
        have q3:=hn4 p hp
        have q4:ps[ps.idxOf p.2]? = some p.2:=Ig q3
        have q5:ps.idxOf p.2<x.length:=by rw[hxl];exact List.idxOf_lt_length_iff.2 q3
        have q6:x[ps.idxOf p.2]? = some u:=by
         rw[A4 q5]at q2 ⊢
         exact G4 some q2
        have q7:v=u:=by rw[hvj,<-q1,y3 p.1 p.2 hp];exact z3 _ _ _ q4 q6
        rw[q7]
        exact DRep.val u e2
    . rw[E9 (by omega),List.getElem?_replicate]at hsx
      split at hsx
      . cases hsx;trivial
      . cases hsx) (fun x hx=>by
    rcases List.mem_append.1 hx with h|h
    . exact f3 x h
    . rw[(List.mem_replicate.1 h).2];rfl)
   have hact:({ tmps:=T.toList.toArray++Array.replicate (n-T.toList.toArray.size) undef,defers:=[] }:Act)={ tmps:=T,defers:=[] }:=by simp[hTs]
   rw[hact]at hpass
   have hcg:=hpass.congr (st':=⟨n,FA 0 (args.map SV.sh),Gf (bI k),Ge (tI k)⟩) rfl (fun j=>(DU args _ j).symm) (fun _=>rfl) (fun _=>rfl)
   refine wpIn_mono (hpw _ ⟨A3,_,some (w.heap.size+1),_,_⟩ _ _ _ (hcg.rl _)) ?_
   rintro e a4 W4 ⟨g4,s4,h5,h6⟩
   have back:∀ bn tn,bn.map (·.1)=(bI k).map (·.1)->tn.map (·.1)=(tI k).map (·.1)->(∀ p∈bn,(∀ c∈p.2,c.fit ((bI k).map (·.1)) ((tI k).map (·.1))=true)∧(Nat.blt p.1 490000||PR p.2)=true)->EM s4 (Gf bn)->EK s4 (Ge tn)->∃ G,Evo g' A3 G W4∧Self none d0 G ⟨n,S,bn,tn⟩ a' W4:=fun bn tn hbk htk hf hB hT=>by
    obtain⟨G,ev,-,hR⟩:=hr3.back hFit (h5.rl none) bn tn hbk htk (fun i cs hi=>EL hB (by rw[Bj,B9 (by omega),Nat.add_sub_cancel,hi];rfl)) (fun t n ht=>EJ hT (by rw[Cj,B9 (by omega),Nat.add_sub_cancel,ht])) (fun p hp=>(hf p hp).1) (fun i cs hi hge=>by
     have h7:=(hf _ (M9 hi)).2
     rw[Bool.or_eq_true]at h7
     rcases h7 with h7|h7
     . have:=C0 h7;simp only at this;omega
     . simp only at h7
       unfold PR at h7
       split at h7
       . rename_i ms;exact⟨ms,C⟩
       . cases h7)
    obtain⟨c1,c2⟩:=Gt (n:=n) (S:=S) hbk htk
    exact⟨G,ev,(hR.congr (st':=⟨n,S,bn,tn⟩) C (fun _=>C) c1 c2).self⟩
   have fin:∀ {G:Gh} {s:PS},Evo g' A3 G W4->Self none d0 G s a' W4->∀ (jump:Option Code),∃ W5,(Instr.endRound (w.heap.size+1) jump).run P W4=.ok (.bool jump.isNone) W5∧Self none d0 G s a' W5∧HE p i' G W5∧IE G W5 b∧W5.heap[w.heap.size+1]? = some (.loop (rec (if jump.isNone then .ready else .done) jump)) ∧ ¬ R4 G W5 (w.heap.size+1)∧(∀ b o,Z3 W5 b o=Z3 W4 b o)∧W5.heap[b]? = A.heap[b]?:=fun ev hR jump=>by
    have hl4:=(ev.heap _ ho3).trans hl3
    have hx4:HE p i' _ W4:=HE.stb i' _ _ _ _ hx3 (fun i b hi=>(hr3.blk i b hi).2) ev
    have hb4:=ev.heap b h53.1
    have h54:IE _ W4 b:=⟨fun ho=>h53.1 (ev.own ho),fun o ho=>h53.2.1 o (by rw[<-ev.f0];exact ho),by rw[hb4];exact h53.2.2⟩
    obtain⟨k1,kx,k5,k2,k3,k4,kb⟩:=turn (L':=rec (if jump.isNone then .ready else .done) jump) hR hx4 h54 hl4 (fun ho=>ho3 (ev.own ho))
    refine⟨_,?_,k1,kx,k5,k2,k3,k4,kb.trans (hb4.trans hb3)⟩
    have:=run_endRound (P:=P) jump hl4
    rw[hrec]at this ⊢
    exact this
   have kpa:∀ {G:Gh} {W5:World},Evo g' A3 G W4->(∀ b o,Z3 W5 b o=Z3 W4 b o)->Kp (Fx g') A (Fx G) W5:=fun {G W5} ev hs b o hf hso=>by
    obtain⟨k1,k2⟩:=ev.fx b o hf (by rw[hs3];exact hso)
    exact⟨k1,(hs b o).trans (k2.trans (hs3 b o))⟩
   cases e with
   | normal=>
    obtain⟨q0,q1,q2⟩:=h6
    obtain⟨G,ev,hR⟩:=back _ _ ha3 ha4 (fun p hp=>f4 p hp) q1 q2
    obtain⟨W5,e1,e2,ex,e6,e3,e4,e5,eb⟩:=fin ev hR none
    have kp5:=h2.trans (kpa ev e5)
    have kF:Kp F W1 F W5:=fun b o hf _=>by
     obtain⟨hf1,hf2⟩:=(hFg b o).1 hf
     exact⟨hf,(kp5 b o hf1 hf2).2⟩
    have kFA:Kp F A F W5:=fun b o hf _=>by
     obtain⟨hf1,hf2⟩:=(hFg b o).1 hf
     exact⟨hf,(kp5 b o hf1 hf2).2.trans (h2 b o hf1 hf2).2.symm⟩
    refine⟨_,W5,e1,.inl ⟨rfl,⟨q0,G,e2,ex,e6,kp5,e3,e4⟩,kFA,fun q cs hq=>⟨((hgo1 q cs hq).1).mono kF,(e2.2.gok q cs hq).2⟩,eb⟩⟩
   | ret=>
    obtain⟨b',t',q1,q2,q3,q4,q5,q6⟩:=h6
    unfold EO at q5
    simp only[D1,E5]at q5
    obtain⟨G,ev,hR⟩:=back b' t' q3 q4 (fun p hp=>q5.2 p hp) q1 q2
    obtain⟨W5,e1,e2,ex,e6,e3,e4,e5,eb⟩:=fin ev hR (some .ret)
    exact⟨_,W5,e1,.inr ⟨rfl,⟨G,.ret,.ret,_,.inl ⟨rfl,C⟩,e2,ex,e6,q6,e3,e4⟩,eb⟩⟩
   | exit id=>
    obtain⟨b',t',q1,q2,q3,q4,q5,q6⟩:=h6
    unfold EO at q5
    simp only[D1,E5]at q5
    obtain⟨G,ev,hR⟩:=back b' t' q3 q4 (fun p hp=>q5.2 p hp) q1 q2
    obtain⟨W5,e1,e2,ex,e6,e3,e4,e5,eb⟩:=fin ev hR (some (.exit id))
    exact⟨_,W5,e1,.inr ⟨rfl,⟨G,.exit id,.exit id,_,.inr ⟨id,C,C⟩,e2,ex,e6,q6,e3,e4⟩,eb⟩⟩
   | goto l=>exact h6.elim
   | panic ch=>exact h6.elim
   | outgrown=>exact h6.elim
 . exact hgo1
 . exact⟨hI,g,s2,hX1,h31,Kp.same fun _ _ h=>h,hL1,hoL⟩
 . -- behind the iterator
   rintro e W2 ⟨⟨v,rfl⟩,(⟨hii,g',h1,hx,h5,h2,h3,h4⟩|⟨g',c,e,s,hm,h1,hx,h5,hq,h3,h4⟩)⟩
   . obtain⟨k1,kx,-⟩:=turn (L':={ rec .ready none with state:=.exhausted }) h1 hx h5 h3 h4
     have e:=run_endLoop (P:=P) h3 (by rw[hrec];simp)
     rw[ha']at k1
     subst hrec
     exact⟨none,_,e,⟨g',_,i',k1,kx,hdone hii⟩⟩
   . obtain⟨k1,kx,-⟩:=turn (L':={ rec .done (some c)with state:=.exhausted }) h1 hx h5 h3 h4
     have e:=run_endLoop (P:=P) h3 (by rw[hrec];simp)
     rw[ha']at k1
     subst hrec
     refine⟨some c,_,e,?_⟩
     rcases hm with⟨rfl,rfl⟩|⟨id,rfl,rfl⟩
     . exact wpIn_ret ⟨g',s,i',k1,kx,hq⟩
     . exact wpIn_exit ⟨g',s,i',k1,kx,hq⟩
theorem Su {vals:List Value} {xs ys:List DV} (hl:vals.length=xs.length) (hv:∀ (j:Nat) v x,vals[j]? = some v->xs[j]? = some x->DRep F w v x) (h:∀ (j:Nat) v x,vs[j]? = some v->ys[j]? = some x->DRep F w v x):∀ (j:Nat) u y,(vals++vs)[j]? = some u->(xs++ys)[j]? = some y->DRep F w u y:=by
 intro j u y hu hy
 rcases D5 j xs.length with hj|hj
 . rw[F3 (by omega)]at hu hy
   exact hv j u y hu hy
 . rw[E9 (by omega)]at hu hy
   rw[hl]at hu
   exact h _ u y hu hy
theorem Of (s:Nat) {x y:DV} (hs:st.get s=.d x) (hxy:∀ F w v,DRep F w v x->DRep F w v y):∀ B w0 g a w,Rep B w0 g st a w->∃ g',Evo g w g' w∧Rep B w0 g' (st.put (some s) (.d y)) a w:=fun B w0 g a w hr=>by
 refine⟨g,Evo.refl _ _,{ hr with lim:=hr.lim,size:=hr.size,boxes:=hr.boxes,maps:=hr.maps,dom:=hr.dom,tdom:=hr.tdom,tlen:=hr.tlen,glob:=hr.glob,slots:=fun j=>?_ }⟩
 rw[Q5]
 by_cases e:j=s
 . rw[B9 e,e]
   have:=hr.slots s
   rw[hs]at this
   exact hxy _ _ _ this
 . rw[B5 e];exact hr.slots j
section
variable {P:Program} {B:Nat} {w0:Cx} {Q:Exit->PS->Prop} {c:Code}
theorem U6 (h0:∀ B w0 g a w,Rep B w0 g st a w->∃ g',Evo g w g' w∧Rep B w0 g' st' a w) (h:PW P B w0 c Q st'):PW P B w0 c Q st:=fun g a w hr=>by
 obtain⟨g',-,h2⟩:=h0 _ _ g a w hr
 exact h g' a w h2
end
section
variable {P:Program} {rl:Option Nat} {d0:Nat} {p:EP} {Q:Exit->PS->EI->Prop} {c:Code}
theorem S4 (h0:∀ B w0 g a w,Rep B w0 g st a w->∃ g',Evo g w g' w∧Rep B w0 g' st' a w) (h:PX P rl d0 (HE p) c Q st' i):PX P rl d0 (HE p) c Q st i:=px_tell (HE.stb i) h0 h
end
section
variable {P:Program} {ops:Array Oper} {rl:Option Nat} {d0:Nat} {p:EP} {K:PS->EI->Prop} {l:List Oper}
theorem pl_tell (h0:∀ B w0 g a w,Rep B w0 g st a w->∃ g',Evo g w g' w∧Rep B w0 g' st' a w) (h:PL P ops rl d0 (HE p) K l st' i):PL P ops rl d0 (HE p) K l st i:=fun g a w ⟨hd,hr⟩ hx=>by
 obtain⟨g',h1,h2⟩:=h0 _ _ g a w hr
 exact Av (fun _ _ _ ⟨e,g2,s2,j2,q1,q2,q3,q4⟩=>⟨e,g2,s2,j2,q1,q2,h1.fx.trans q3,q4⟩) (fun _ _ _ h=>h.1) (h g' a w h2.self (HE.stb i _ _ _ _ hx (fun i b hi=>(hr.blk i b hi).2) h1))
end
/-! regions that draw their order -/
section
variable {P:Program} {rl:Option Nat} {d0:Nat} {p:EP} {l:List Oper} {b off:Nat} {us:List Value} {K:PS->EI->Prop} {Q:Exit->PS->EI->Prop}
def PAE (P:Program) (rl:Option Nat) (d0:Nat) (p:EP) (l:List Oper) (K:PS->EI->Prop) (fuel:Nat) (listed:List Bool) (st:PS) (i:EI):Prop:=
 ∀ g a w,Self rl d0 g st a w->HE p i g w->wpAnyH P .any l.toArray (fun e a' w'=>e=.normal ∧ ∃ g' s j,Self rl d0 g' s a' w'∧HE p j g' w'∧K s j) (fun _=>True) fuel listed.toArray a w
theorem Bv (hr0:Oj listed 0 l=[]) (h:K st i):PAE P rl d0 p l K fuel listed st i:=fun g a w hs hX=>by
 refine wpAnyH_done ?_ ⟨rfl,g,st,i,hs,hX,h⟩ fuel
 rw[List.eq_nil_iff_forall_not_mem]
 intro j hj
 rw[X2,hr0]at hj
 cases hj
theorem J7 (rs:List Nat) (hr:Oj listed 0 l=rs) (hne:rs.isEmpty=false) (h:allR rs fun i0=>∃ o,l[i0]? = some o∧PL P l.toArray rl d0 (HE p) (fun s j=>PAE P rl d0 p l K fuel (listed.set i0 true) s j) [o] st i):PAE P rl d0 p l K (fuel+1) listed st i:=fun g a w hs hX=>by
 refine⟨fun he=>?_,fun i0 hi=>?_⟩
 . exfalso
   cases rs with
   | nil=>cases hne
   | cons j rs=>
    have hj:j∈Region.ready .any l.toArray listed.toArray:=X2.2 (by rw[hr];simp)
    rw[he]at hj
    cases hj
 . rw[X2,hr]at hi
   obtain⟨o,ho,hy⟩:=LV h hi
   have hs1:=hy g a w hs hX
   have hset:(listed.toArray.setIfInBounds i0 true)=(listed.set i0 true).toArray:=by simp
   have hk:∀ a' w',(Exit.normal=Exit.normal ∧ ∃ g' s j,Self rl d0 g' s a' w'∧HE p j g' w'∧Kp (Fx g) w (Fx g') w'∧PAE P rl d0 p l K fuel (listed.set i0 true) s j)->True∧wpAnyH P .any l.toArray (fun e a' w'=>e=.normal ∧ ∃ g' s j,Self rl d0 g' s a' w'∧HE p j g' w'∧K s j) (fun _=>True) fuel (listed.toArray.setIfInBounds i0 true) a' w':=by
    rintro a' w' ⟨-,g',s,j,h1,h2,h3,h4⟩
    rw[hset]
    exact⟨D3,h4 g' a' w' h1 h2⟩
   unfold wpOp
   rw[show l.toArray[i0]? = some o by simpa using ho]
   simp only
   unfold wpList at hs1
   split
   . rename_i hw
     rw[B9 hw]at hs1
     rcases hs1 with hs1|⟨hs1,a',w',hl⟩
     . exact .inl (wp_q (fun a w h=>hk a w h) (fun e a w hne h=>G5 h.1 hne) hs1)
     . exact G5 hl.1 (by simp)
   . rename_i hw
     rw[B5 hw]at hs1
     exact hk _ _ hs1
theorem RU {id:Nat} (hm:P.follows .mixedOrders=true) (h:PAE P rl d0 p l (fun s j=>Q .normal s j) l.length (List.replicate l.length false) st i) (hnd:Ni l=true:=by rfl):PX P rl d0 (HE p) (.region id l.toArray true) Q st i:=fun g a w hself hX=>by
 have hb:Below w.heap.size w { w with drawn:=w.drawn+1 }:=⟨rfl,rfl,rfl,E0 _,fun _ _=>rfl⟩
 obtain⟨s1,kp,hown,c1⟩:=HE.below hself hX hb
 have hX':HE p i g { w with drawn:=w.drawn+1 }:=c1 i.it (hX.it.keep (fun _ _ _ _=>rfl) hown kp)
 have:=h g a _ s1 hX'
 have e:(List.replicate l.length false).toArray=Array.replicate l.toArray.size false:=by simp
 rw[e]at this
 have e2:l.length=l.toArray.size:=by simp
 rw[e2]at this
 refine wpIn_mono (wpIn_region_any hm (Ci (fun a w h=>G5 h.1 (by simp)) hnd (wpAny_of_held _ _ _ _ this))) fun e a' w' ⟨h0,g',s,j,q1,q2,q3⟩=>?_
 subst h0
 exact⟨g',s,j,q1,q2,q3⟩
end
section
variable {P:Program} {rl:Option Nat} {d0:Nat} {p:EP} {l:List Oper} {K:PS->EI->Prop}
theorem Sp (w:World):OP 0 0 [] w:=fun j u h=>by simp at h
theorem T5 (i0:Nat) {o:Oper} {x:SV} (hi:l[i0]? = some o) (hr:(Oj listed 0 l).any (Nat.beq i0)=true) (hs:noSel l=true) (hap:Sv l listed i0 o=true) (hp:Lb P rl d0 0 0 [] o st x) (h:PAE P rl d0 p l K fuel (listed.set i0 true) (st.put o.dst x) i):PAE P rl d0 p l K (fuel+1) listed st i:=fun g a w hself hX=>by
 obtain⟨h1,h2,h3⟩:=hp
 obtain⟨v,h5,h4⟩:=h3 g a w hself
 have hset:(listed.toArray.setIfInBounds i0 true)=(listed.set i0 true).toArray:=by simp
 refine wpAnyH_first (v:=v) (by simpa using hi) (fun j o' cs b hj e=>?_) (fun c a w h6=>G5 h6.1 (by simp)) fuel listed.toArray a w (fun j oj hj hji hun hno=>?_) ?_ (.inl ⟨by unfold Region.wanted;rw[h2],fun w' _=>h4 w' (Sp w')⟩) trivial ?_
 . have hj':o'∈l:=by
    have:l[j]? = some o':=by simpa using hj
    exact B8 this
   have:=E5.1 hs o' hj'
   rw[e]at this
   cases this
 . have hj':l[j]? = some oj:=by simpa using hj
   have h6:=Q9 hap j oj hj'
   rw[E4,Nv]at *
   simp only[Bool.or_eq_true]at h6
   rcases h6 with((h6|h6)|h6)|h6
   . exact G5 (F8 h6) hji
   . rw[hun]at h6;cases h6
   . rw[List.any_eq_true]at h6
     obtain⟨e,he,hb⟩:=h6
     rw[D1]at hb
     exact G5 (F8 hb.2) (hno e (Array.mem_toList_iff.1 he) hb.1)
   . exact h6
 . rw[X2]
   obtain⟨j,hj,e⟩:=List.any_eq_true.1 hr
   rw[F8 e]
   exact hj
 . rw[hset]
   exact h g _ w (hself.put h5 _ (H6 h1)) hX
theorem held_nc {d:Option Nat} {ty:TypeId} {pos:String} {af:Array Edge} {off:Nat} {us:List Value} {b' o':Nat} (hx:st.ev y=.d (.val (.pointer (some ⟨b',o',none⟩)))) (hd:I1 ⟨d,.nilCheck y,ty,pos,af,none⟩ st=true:=by kernel_rfl):Lb P rl d0 b off us ⟨d,.nilCheck y,ty,pos,af,none⟩ st (.d (.val (.pointer (some ⟨b',o',none⟩)))):=
 ⟨hd,rfl,fun _ a _ h=>⟨.pointer (some ⟨b',o',none⟩),DRep.val _ rfl,fun w' _=>by
  have h1:a.eval y=.pointer (some ⟨b',o',none⟩):=DRep.val_eq (by have:=h.2.eval y;rw[hx]at this;exact this)
  simp[execOp,h1]⟩⟩
end
section
variable {P:Program} {sq:Bool} {ops:Array Oper} {K:PS->Prop} {rest:List Oper} {d:Option Nat} {ty:TypeId} {pos:String} {af:Array Edge} {gd:Option (Nat×Bool)}
theorem ls_ncv (x:Operand) {o:Nat} (hx:st.ev x=.d (.val (.pointer (some ⟨b,o,none⟩)))) (hd:I1 ⟨d,.nilCheck x,ty,pos,af,gd⟩ st=true):M6 P ⟨d,.nilCheck x,ty,pos,af,gd⟩ st (.d (.val (.pointer (some ⟨b,o,none⟩)))) .no:=fun st2 ha=>
 OpS.value (ha.dst hd) fun _ _ g a w h=>by
  have h1:=h.eval x
  rw[ha.ev x (by simp[Op.operands]),hx]at h1
  refine⟨.pointer (some ⟨b,o,none⟩),w,?_,Below.refl _ _,DRep.val _ C⟩
  simp[execOp,DRep.val_eq h1]
theorem yXv {o:Nat} (hx:st.ev x=.d (.val (.pointer (some ⟨b,o,none⟩)))) (h:YR P sq ops K rest (st.put d (.d (.val (.pointer (some ⟨b,o,none⟩)))))) (zz:zk ops st ⟨d,.nilCheck x,ty,pos,af,gd⟩ .no=true:=by kernel_rfl):
 YR P sq ops K (⟨d,.nilCheck x,ty,pos,af,gd⟩::rest) st:=M3 (ls_ncv x hx (zd zz)) (zo zz) (zw zz) h
theorem yCh {l:List Operand} {ts:Array TypeId} {ys args:List DV} {r:SV} [hB:HasBody P f] (hc:PCalls P f args r) (hx:st.ev x=.d (dH f caps)) (hargs:ys++caps=args) (ha:Be st l=some ys) (h:YR P true ops K rest (st.put d r)) (hres:BR r=true:=by rfl)
 (hd:I1 ⟨d,.call { callee:=.value x,args:=l.toArray,argTypes:=ts },ty,pos,af,gd⟩ st=true:=by kernel_rfl) (hw:st.want ops ⟨d,.call { callee:=.value x,args:=l.toArray,argTypes:=ts },ty,pos,af,gd⟩=some true:=by rfl):
 YR P true ops K (⟨d,.call { callee:=.value x,args:=l.toArray,argTypes:=ts },ty,pos,af,gd⟩::rest) st:=by
 subst hargs
 refine .any C fun B w0 Q hQ g a w hr=>?_
 obtain⟨h1,h2⟩:=Dk ha (hr.self)
 have hxe:=hr.eval x
 rw[hx]at hxe
 obtain⟨vs,q1,q2,q3⟩:=DRep.unH hxe
 have V0:=hc (Fx g) w (l.map a.eval++vs) (by rw[C9,C9,h1,q2]) (Su h1 h2 q3) hr.gok
 unfold wpList
 rw[B9 (M4 hr hw)]
 refine .inl ?_
 unfold Oper.wp
 have hrun:(execOp a.eval ⟨d,.call { callee:=.value x,args:=l.toArray,argTypes:=ts },ty,pos,af,gd⟩).run P w=.ok (.enter f (l.map a.eval++vs).toArray) w:=by
  simp only[execOp,resolve,q1,Deferred.ofValue,Sem.run_bind,Sem.run_pure,D4,invoke]
  rw[hB.run]
  simp
 rw[hrun]
 show Calls P f _ w _
 refine V0.mono ?_
 rintro e w' ⟨v,rfl,r1,r2⟩
 exact h.sound hQ ((hr.grow r2).put (SRep.of_call hr r1 hres) _ (H6 (st:=st) hd))
end
section
variable {P:Program} {sq:Bool} {ops:Array Oper} {K:PS->Prop} {rest:List Oper} {d:Option Nat} {ty:TypeId} {pos:String} {af:Array Edge} {gd:Option (Nat×Bool)}
theorem Rl {u:Operand} {v:SV} {ef:Ef} (h:M6 P ⟨d,.mapUpdate T x y u,ty,pos,af,gd⟩ st v ef):M6 P ⟨d,.insert T x y u,ty,pos,af,gd⟩ st v ef:=fun st2 ha B w0 g a w K Q hr hk=>by
 have h1:=h st2 ⟨ha.n,ha.ev,ha.ids,ha.tk,fun e=>by cases e⟩ B w0 g a w K Q hr hk
 exact h1
theorem yKi {u:Operand} {i:Nat} {l l':List (List UInt8×DV)} {k:List UInt8} {v:DV} [hM:MapOf P T z] (hx:st.ev x=.mb i) (hi:st.bget i=some [.mc (Q0 l)]) (hy:st.ev y=.d (dS k)) (hu:st.ev u=.d v) (hl:Ao k v l=l')
 (h:YR P sq ops K rest ((st.bput i [.mc (Q0 l')]).put d .any)) (hge:Nat.ble 500000 i=true:=by rfl) (hd:I1 ⟨d,.insert T x y u,ty,pos,af,gd⟩ st=true:=by kernel_rfl) (hk:Dz ⟨d,.insert T x y u,ty,pos,af,gd⟩ st (.box i [.mc (Q0 l')])=true:=by kernel_rfl) (hw:st.want ops ⟨d,.insert T x y u,ty,pos,af,gd⟩=some true:=by rfl):
 YR P sq ops K (⟨d,.insert T x y u,ty,pos,af,gd⟩::rest) st:=Dr (hl ▸ Rl (Rh T x y u (C0 hge) hx hi hy hu hd)) hk hw h
theorem Bk {u:Operand} {i:Nat} {l':List (Int×DV)} {k:Int} {v:DV} [hM:MapOfI P T z] (hx:st.ev x=.mb i) (hi:st.bget i=some [.mc (V1 l)]) (hy:st.ev y=.d (.val (vI k))) (hu:st.ev u=.d v) (hl:Fq k v l=l')
 (h:YR P sq ops K rest ((st.bput i [.mc (V1 l')]).put d .any)) (hge:Nat.ble 500000 i=true:=by rfl) (hd:I1 ⟨d,.insert T x y u,ty,pos,af,gd⟩ st=true:=by kernel_rfl) (hk:Dz ⟨d,.insert T x y u,ty,pos,af,gd⟩ st (.box i [.mc (V1 l')])=true:=by kernel_rfl) (hw:st.want ops ⟨d,.insert T x y u,ty,pos,af,gd⟩=some true:=by rfl):
 YR P sq ops K (⟨d,.insert T x y u,ty,pos,af,gd⟩::rest) st:=Dr (hl ▸ Rl (ls_mupI T x y u (C0 hge) hx hi hy hu hd)) hk hw h
end
theorem Nq (s:Nat) {f:FuncId} (hs:st.get s=.d (dH f (vs.map .val))):∀ B w0 g a w,Rep B w0 g st a w->∃ g',Evo g w g' w∧Rep B w0 g' (st.put (some s) (.d (.val (.func (.func f) #[] vs.toArray)))) a w:=
 Of s hs fun F w v h=>by
  obtain⟨us,rfl,h2,h3⟩:=DRep.unH h
  have:us=vs:=by
   refine List.ext_getElem (by simpa using h2) fun i h6 h7=>?_
   exact DRep.val_eq (h3 i _ _ (A4 h6) (by rw[C6,A4 h7];rfl))
  rw[this]
  exact DRep.val _ C
theorem Gd (s:Nat) {x y:SV} (hs:st.get s=x) (hxy:∀ g w v,SRep g w v x->SRep g w v y):∀ B w0 g a w,Rep B w0 g st a w->∃ g',Evo g w g' w∧Rep B w0 g' (st.put (some s) y) a w:=fun B w0 g a w hr=>by
 refine⟨g,Evo.refl _ _,{ hr with lim:=hr.lim,size:=hr.size,boxes:=hr.boxes,maps:=hr.maps,dom:=hr.dom,tdom:=hr.tdom,tlen:=hr.tlen,glob:=hr.glob,slots:=fun j=>?_ }⟩
 rw[Q5]
 by_cases e:j=s
 . rw[B9 e,e]
   have:=hr.slots s
   rw[hs]at this
   exact hxy _ _ _ this
 . rw[B5 e];exact hr.slots j
theorem Ez (s i:Nat) {cs:List SV} {ds:List DV} (hs:st.get s=.bx i 0) (hi:st.bget i=some cs) (hds:Ag cs=some ds) (hlt:Nat.blt i 500000=true:=by rfl):∀ B w0 g a w,Rep B w0 g st a w->∃ g',Evo g w g' w∧Rep B w0 g' (((st.kill i).put (some s) (.rd ds)).put (some s) (.d (.ref ds))) a w:=fun B w0 g a w hr=>by
 obtain⟨g1,h1,h2⟩:=SW s i hs hi hds hlt B w0 g a w hr
 obtain⟨g2,h3,h4⟩:=Gd s (x:=.rd ds) (y:=.d (.ref ds)) (by rw[Q5,B9 rfl]) (fun _ _ _ h=>Qz h) B w0 g1 a w h2
 exact⟨g2,h1.trans h3,h4⟩
theorem Cm (i off t k:Nat) {cs:List SV} (hi:st.bget i=some cs) (hc:cs[off]? = some (.d (.val (.slice none 0 0)))) (ht:st.tget t=none) (hno:st.noTs t=true) (hsm:Nat.blt (t % 100000) 10000=true:=by rfl) (hlt:Nat.blt i 500000=true:=by rfl):∀ B w0 g a w,Rep B w0 g st a w->∃ g',Evo g w g' w∧Rep B w0 g' ((st.bput i (cs.set off (.ts t k []))).tput t 0) a w:=fun B w0 g a w hr=>by
 obtain⟨ev,hr'⟩:=hr.newt (t:=t) (n:=0) (E:=t / 100000) (k:=k) (v:=.slice none 0 0) (xs:=[]) (Below.refl _ _) (fun b hb=>by simp[Value.ownBlock]at hb) (World.ownsRow_nil _ _ _ _) rfl (C0 hsm) ht hno
 have hlt:=C0 hlt
 refine⟨_,ev,{ hr' with lim:=hr'.lim,size:=hr'.size,slots:=hr'.slots,boxes:=fun j cs' hj hj5=>?_,maps:=fun j ms hj hge=>?_,dom:=fun j b hj=>?_,tdom:=hr'.tdom,tlen:=hr'.tlen,glob:=hr'.glob }⟩
 . have hj':(st.bput i (cs.set off (.ts t k []))).bget j=some cs':=hj
   rw[K7]at hj'
   by_cases e:j=i
   . rw[B9 e]at hj'
     cases hj'
     subst e
     obtain⟨b,xs,T,h1,h2,h3,h4,h5⟩:=hr'.boxes j cs hi hj5
     refine⟨b,xs,T,h1,h2,by simpa using h3,fun q c hq=>?_,fun q u hq hu=>h5 q u (by simpa using hq) hu⟩
     by_cases eq:q=off
     . subst eq
       rw[List.getElem?_set_self (A6.1 hc).1]at hq
       cases hq
       obtain⟨x,h6,h7⟩:=h4 q _ hc
       have hx:x=.slice none 0 0:=DRep.val_eq h7
       exact⟨x,h6,by rw[hx];exact SRep.new_ts DRep.nil⟩
     . rw[List.getElem?_set_ne (Ne.symm eq)]at hq
       exact h4 q c hq
   . rw[B5 e]at hj'
     exact hr'.boxes j cs' hj' hj5
 . have hj':(st.bput i (cs.set off (.ts t k []))).bget j=some [.mc ms]:=hj
   rw[K7,B5 (by omega)]at hj'
   exact hr'.maps j ms hj' hge
 . show(st.bput i (cs.set off (.ts t k []))).bget j≠none
   rw[K7]
   by_cases e:j=i
   . simp[e]
   . rw[B5 e];exact hr'.dom j b hj
def Rbq (p:Prop) (_:Nat->Nat->Prop) (_:World) (v:Value):Prop:=v=.bool false∨(v=.bool true∧p)
theorem Rbq.mono {p:Prop} (F F':Nat->Nat->Prop) (w w':World) (v:Value) (h:Rbq p F w v) (_:Kp F w F' w'):Rbq p F' w' v:=h
section
variable {P:Program} {sq:Bool} {ops:Array Oper} {K:PS->Prop} {rest:List Oper} {d:Option Nat} {ty:TypeId} {pos:String} {af:Array Edge} {gd:Option (Nat×Bool)}
variable {B:Nat} {w0:Cx} {Q:Exit->PS->Prop} {c:Code}
end
end Go.Proofs.YtddfimjiihggmaaGreatDoor.Px
namespace Go.Proofs.YtddfimjiihggmaaGreatDoor
open Go.RowKit Px
variable {α:Type}
abbrev BF (l:List F6):DV:=.sl 1 (l.map fun s=>[dS s])
def Pi (k:F6×List F6×F6):List DV:=[dS k.1,BF k.2.1,dS k.2.2]
instance hMk:MapOfI Tryz.prog 98 (.agg [dS [],.sl 1 [],dS []]):=⟨⟨3,97,by kernel_rfl,by kernel_rfl,fun w=>⟨.agg #[vS [],.slice none 0 0,vS []],by kernel_rfl,fun F w'=>DRep.agg (xs:=[vS [],.slice none 0 0,vS []]) (cs:=[dS [],.sl 1 [],dS []]) rfl (by simp[Value.oneCell']) (fun i v x hv hx=>by
 match i with
 | 0=>cases hv;cases hx;exact DRep.val _ C
 | 1=>cases hv;cases hx;exact DRep.nil
 | 2=>cases hv;cases hx;exact DRep.val _ C
 | i+3=>simp at hx)⟩⟩⟩
def Bz:List (Int×DV):=kndL.map fun k=>(k.1,.agg (Pi k.2))
theorem Iy:PCalls Tryz.prog 58 [] (.d (.mp (V1 Bz))):=by
 refine P0 Tryz.func58 C Tryz.ntmps58 Tryz.results58 (by simp) fun p d0 hex=>?_
 refine F5 (N0 (L4 (H3 C (yQ (C5 (F5 (N0 (L4 ?_))))))));refine yR (es:=[[_]]) C C C C C ?_;refine yQ (L4 (H3 C (yQ (C5 (F5 (N0 (L4 ?_)))))));refine yR (es:=[[_],[_]]) C C C C C ?_;refine yQ (L4 (H3 C (yQ (C5 (F5 (N0 (L4 (yKm C (yQ ?_)))))))));refine L4 (B6 C (yQ (L4 (yG (ys:=[_,_,_]) C C (yQ (L4 (Bk (l:=[]) C C C C C (yQ (L4 ?_)))))))));refine B6 C (yQ (L4 (yG (ys:=[_,_,_]) C C (yQ (L4 (Bk C C C C C (yQ (L4 ?_))))))));refine yR (es:=[[_],[_]]) C C C C C ?_;refine yQ (L4 (yG (ys:=[_,_,_]) C C (yQ (L4 (Bk C C C C C (yQ (L4 ?_)))))));refine yR (es:=[[_],[_],[_],[_]]) C C C C C ?_;refine yQ (L4 (yG (ys:=[_,_,_]) C C (yQ (L4 (Bk C C C C C (yQ (L4 (B6 C (yQ ?_)))))))));refine L4 (yG (ys:=[_,_,_]) C C (yQ (L4 (Bk C C C C C (yQ (L4 (B6 C (yQ (L4 ?_)))))))));refine yG (ys:=[_,_,_]) C C (yQ (L4 (Bk C C C C C (yQ (L4 (B6 C (yQ (L4 (yG (ys:=[_,_,_]) C C ?_)))))))));refine yQ (L4 (Bk C C C C C (yQ (L4 (B6 C (yQ (L4 (yG (ys:=[_,_,_]) C C (yQ ?_)))))))));refine L4 (Bk C C C C C (yQ (L4 (B6 C (yQ (L4 (yG (ys:=[_,_,_]) C C (yQ (L4 ?_)))))))));refine Bk C C C C C (yQ (L4 (B6 C (yQ (L4 (yG (ys:=[_,_,_]) C C (yQ (L4 (Bk C C C C C ?_)))))))));refine yQ (L4 ?_);refine yR (es:=[[_],[_],[_]]) C C C C C ?_;refine yQ (L4 (yG (ys:=[_,_,_]) C C (yQ (L4 (Bk C C C C C (yQ (L4 ?_)))))));refine yR (es:=[[_],[_],[_]]) C C C C C ?_;refine yQ (L4 (yG (ys:=[_,_,_]) C C (yQ (L4 (Bk C C C C C (yQ (L4 ?_)))))));refine yR (es:=[[_],[_]]) C C C C C ?_;refine yQ (L4 (yG (ys:=[_,_,_]) C C (yQ (L4 (Bk C C C C C (yQ (L4 (B6 C (yQ ?_)))))))));refine L4 (yG (ys:=[_,_,_]) C C (yQ (L4 (Bk C C C C C (yQ (L4 (B6 C (yQ (L4 ?_)))))))));refine yG (ys:=[_,_,_]) C C (yQ (L4 (Bk C C C C C (yQ (L4 (B6 C (yQ (L4 (yG (ys:=[_,_,_]) C C ?_)))))))));refine yQ (L4 (Bk C C C C C (yQ (L4 (B6 C (yQ (L4 (yG (ys:=[_,_,_]) C C (yQ ?_)))))))));refine L4 (Bk C C C C C (yQ (L4 (B6 C (yQ (L4 (yG (ys:=[_,_,_]) C C (yQ (L4 ?_)))))))));refine Bk C C C C C (yQ (L4 (B6 C (yQ (L4 (yG (ys:=[_,_,_]) C C (yQ (L4 (Bk C C C C C ?_)))))))));refine yQ ?_;refine pl_tell (Et 5 500005 (ms:=V1 Bz) C C) ?_;refine L4 (B6 C (yQ (L4 (H3 C (yQ (C5 (M1 ?_)))))))
 exact L7 _ (.tmp C .nil) C
theorem Js (s:F6) (l:List F6):(l.any fun y=>s==y)=l.contains s:=by
 rw[Bool.eq_iff_iff,List.any_eq_true,List.contains_iff_mem]
 constructor
 . rintro⟨x,h1,h2⟩
   rw[eq_of_beq h2];exact h1
 . exact fun h=>⟨s,h,beq_self_eq_true s⟩
def Nm {α:Type} (b:α->Bool) (l:List α):Int:=match l.findIdx? b with|some i=>i|none=>-1
theorem GM (b:α->Bool) (l:List α):decide (Nm b l ≥ 0)=l.any b:=by
 rw[Nm]
 cases e:l.findIdx? b with
 | none=>
  rw[List.findIdx?_eq_none_iff]at e
  have:l.any b=false:=by rw[List.any_eq_false];intro x hx;rw[e x hx];simp
  rw[this];rfl
 | some i=>
  rw[List.findIdx?_eq_some_iff_getElem]at e
  obtain⟨h1,h2,-⟩:=e
  have:l.any b=true:=List.any_eq_true.2 ⟨_,List.getElem_mem h1,h2⟩
  rw[this];simp
theorem Jg {b:α->Bool} {l:List α} {k:Nat} {x:α} (hx:l[k]? = some x) (h0:∀ (j:Nat) x,j<k->l[j]? = some x->b x=false) (hb:b x=true):Nm b l=k:=by
 obtain⟨h,hx'⟩:=A6.1 hx
 have:l.findIdx? b=some k:=by
  rw[List.findIdx?_eq_some_iff_getElem]
  refine⟨h,by rw[hx'];exact hb,fun j hj=>?_⟩
  have:=h0 j _ hj (A4 (by omega));rw[this];simp
 rw[Nm,this]
theorem Jf {b:α->Bool} {l:List α} {k:Nat} (hk:l.length<=k) (h0:∀ (j:Nat) x,j<k->l[j]? = some x->b x=false):Nm b l=-1:=by
 have:l.findIdx? b=none:=by
  rw[List.findIdx?_eq_none_iff]
  intro x hx
  obtain⟨j,hj⟩:=List.mem_iff_getElem?.1 hx
  exact h0 j x (by have:=(A6.1 hj).1;omega) hj
 rw[Nm,this]
theorem BV {b:α->Bool} {l:List α} {k:Nat} {x:α} (hx:l[k]? = some x) (h0:∀ (j:Nat) x,j<k->l[j]? = some x->b x=false) (hb:b x=false):∀ (j:Nat) x,j<k+1->l[j]? = some x->b x=false:=fun j y hj hy=>by
 by_cases e:j=k
 . subst e;rw[hx]at hy;cases hy;exact hb
 . exact h0 j y (by omega) hy
end Go.Proofs.YtddfimjiihggmaaGreatDoor
namespace Go.Proofs
open Go.Shelf
def Tryz.trim_ren:Go.Shelf.Ren:=⟨fun|160=>189|232=>227|231=>226|227=>228|234=>230|233=>229|236=>232|235=>231|228=>248|271=>250|151=>249|197=>217|120=>267|152=>266|260=>244|137=>275|119=>276|224=>221|225=>220|217=>219|266=>245|n=>n,fun|9=>9|4=>4|3=>3|5=>5|117=>251|116=>250|0=>0|124=>254|21=>21|105=>243|46=>151|119=>282|139=>285|138=>284|n=>n,fun|3=>1|4=>2|n=>n⟩
theorem Tryz.trim:Go.Proofs.Lays.n160 Tryz.prog Tryz.trim_ren:={
 mixed:=by kernel_rfl
 f119:=Tryz.func276.trans P1
 f120:=Tryz.func267.trans P1
 f137:=Tryz.func275.trans P1
 f151:=Tryz.func249.trans P1
 f152:=Tryz.func266.trans P1
 f160:=Tryz.func189.trans P1
 f197:=Tryz.func217.trans P1
 f217:=Tryz.func219.trans P1
 f224:=Tryz.func221.trans P1
 f225:=Tryz.func220.trans P1
 f227:=Tryz.func228.trans P1
 f228:=Tryz.func248.trans P1
 f231:=Tryz.func226.trans P1
 f232:=Tryz.func227.trans P1
 f233:=Tryz.func229.trans P1
 f234:=Tryz.func230.trans P1
 f235:=Tryz.func231.trans P1
 f236:=Tryz.func232.trans P1
 f260:=Tryz.func244.trans P1
 f266:=Tryz.func245.trans P1
 f271:=Tryz.func250.trans P1
 t0:=Tryz.underlying0
 a0:=Tryz.isAgg0
 z0:=Tryz.sizeOf0
 v0:=Tryz.zeroValue0
 t3:=Tryz.underlying3
 a3:=Tryz.isAgg3
 z3:=Tryz.sizeOf3
 v3:=Tryz.zeroValue3
 t4:=Tryz.underlying4
 a4:=Tryz.isAgg4
 z4:=Tryz.sizeOf4
 v4:=Tryz.zeroValue4
 t5:=Tryz.underlying5
 a5:=Tryz.isAgg5
 z5:=Tryz.sizeOf5
 v5:=Tryz.zeroValue5
 t9:=Tryz.underlying9
 a9:=Tryz.isAgg9
 z9:=Tryz.sizeOf9
 v9:=Tryz.zeroValue9
 t21:=Tryz.underlying21
 a21:=Tryz.isAgg21
 z21:=Tryz.sizeOf21
 v21:=Tryz.zeroValue21
 t46:=Tryz.underlying151
 a46:=Tryz.isAgg151
 z46:=Tryz.sizeOf151
 v46:=Tryz.zeroValue151
 t105:=Tryz.underlying243
 a105:=Tryz.isAgg243
 z105:=Tryz.sizeOf243
 v105:=Tryz.zeroValue243
 t116:=Tryz.underlying250
 a116:=Tryz.isAgg250
 z116:=Tryz.sizeOf250
 t117:=Tryz.underlying251
 a117:=Tryz.isAgg251
 z117:=Tryz.sizeOf251
 v117:=Tryz.zeroValue251
 t119:=Tryz.underlying282
 a119:=Tryz.isAgg282
 z119:=Tryz.sizeOf282
 t124:=Tryz.underlying254
 a124:=Tryz.isAgg254
 z124:=Tryz.sizeOf254
 v124:=Tryz.zeroValue254
 t138:=Tryz.underlying284
 a138:=Tryz.isAgg284
 z138:=Tryz.sizeOf284
 v138:=Tryz.zeroValue284
 t139:=Tryz.underlying285
 a139:=Tryz.isAgg285
 z139:=Tryz.sizeOf285
 v139:=Tryz.zeroValue285
 g3:=by kernel_rfl
 g4:=by kernel_rfl }
def Tryz.trimLeft_ren:Go.Shelf.Ren:=⟨fun|161=>190|231=>226|227=>228|233=>229|235=>231|228=>248|197=>217|151=>249|260=>244|152=>266|137=>275|119=>276|224=>221|225=>220|217=>219|266=>245|n=>n,fun|9=>9|4=>4|3=>3|5=>5|117=>251|116=>250|0=>0|124=>254|105=>243|21=>21|119=>282|46=>151|139=>285|138=>284|n=>n,fun|3=>1|4=>2|n=>n⟩
theorem Tryz.trimLeft:Go.Proofs.Lays.n161 Tryz.prog Tryz.trimLeft_ren:={
 mixed:=by kernel_rfl
 f119:=Tryz.func276.trans P1
 f137:=Tryz.func275.trans P1
 f151:=Tryz.func249.trans P1
 f152:=Tryz.func266.trans P1
 f161:=Tryz.func190.trans P1
 f197:=Tryz.func217.trans P1
 f217:=Tryz.func219.trans P1
 f224:=Tryz.func221.trans P1
 f225:=Tryz.func220.trans P1
 f227:=Tryz.func228.trans P1
 f228:=Tryz.func248.trans P1
 f231:=Tryz.func226.trans P1
 f233:=Tryz.func229.trans P1
 f235:=Tryz.func231.trans P1
 f260:=Tryz.func244.trans P1
 f266:=Tryz.func245.trans P1
 t0:=Tryz.underlying0
 a0:=Tryz.isAgg0
 z0:=Tryz.sizeOf0
 v0:=Tryz.zeroValue0
 t3:=Tryz.underlying3
 a3:=Tryz.isAgg3
 z3:=Tryz.sizeOf3
 v3:=Tryz.zeroValue3
 t4:=Tryz.underlying4
 a4:=Tryz.isAgg4
 z4:=Tryz.sizeOf4
 v4:=Tryz.zeroValue4
 t5:=Tryz.underlying5
 a5:=Tryz.isAgg5
 z5:=Tryz.sizeOf5
 v5:=Tryz.zeroValue5
 t9:=Tryz.underlying9
 a9:=Tryz.isAgg9
 z9:=Tryz.sizeOf9
 v9:=Tryz.zeroValue9
 t21:=Tryz.underlying21
 a21:=Tryz.isAgg21
 z21:=Tryz.sizeOf21
 v21:=Tryz.zeroValue21
 t46:=Tryz.underlying151
 a46:=Tryz.isAgg151
 z46:=Tryz.sizeOf151
 v46:=Tryz.zeroValue151
 t105:=Tryz.underlying243
 a105:=Tryz.isAgg243
 z105:=Tryz.sizeOf243
 v105:=Tryz.zeroValue243
 t116:=Tryz.underlying250
 a116:=Tryz.isAgg250
 z116:=Tryz.sizeOf250
 t117:=Tryz.underlying251
 a117:=Tryz.isAgg251
 z117:=Tryz.sizeOf251
 v117:=Tryz.zeroValue251
 t119:=Tryz.underlying282
 a119:=Tryz.isAgg282
 z119:=Tryz.sizeOf282
 t124:=Tryz.underlying254
 a124:=Tryz.isAgg254
 z124:=Tryz.sizeOf254
 v124:=Tryz.zeroValue254
 t138:=Tryz.underlying284
 a138:=Tryz.isAgg284
 z138:=Tryz.sizeOf284
 v138:=Tryz.zeroValue284
 t139:=Tryz.underlying285
 a139:=Tryz.isAgg285
 z139:=Tryz.sizeOf285
 v139:=Tryz.zeroValue285
 g3:=by kernel_rfl
 g4:=by kernel_rfl }
def Tryz.small_ren:Go.Shelf.Ren:=⟨fun|283=>257|n=>n,fun|3=>3|9=>9|4=>4|n=>n,fun|n=>n⟩
theorem Tryz.small:Go.Proofs.Lays.n283 Tryz.prog Tryz.small_ren:={
 mixed:=by kernel_rfl
 f283:=Tryz.func257.trans P1
 t3:=Tryz.underlying3
 a3:=Tryz.isAgg3
 z3:=Tryz.sizeOf3
 v3:=Tryz.zeroValue3
 t4:=Tryz.underlying4
 a4:=Tryz.isAgg4
 z4:=Tryz.sizeOf4
 v4:=Tryz.zeroValue4
 t9:=Tryz.underlying9
 a9:=Tryz.isAgg9
 z9:=Tryz.sizeOf9
 v9:=Tryz.zeroValue9 }
def Tryz.nd_ren:Go.Shelf.Ren:=⟨fun|284=>258|129=>154|317=>271|318=>272|n=>n,fun|53=>198|3=>3|212=>293|0=>0|4=>4|46=>151|5=>5|9=>9|n=>n,fun|17=>5|n=>n⟩
theorem Tryz.nd:Go.Proofs.LaysM.n284 Tryz.prog Tryz.nd_ren:={
 mixed:=by kernel_rfl
 f129:=Tryz.func154.trans P1
 f284:=Tryz.func258.trans P1
 f317:=Tryz.func271.trans P1
 f318:=Tryz.func272.trans P1
 t0:=Tryz.underlying0
 a0:=Tryz.isAgg0
 z0:=Tryz.sizeOf0
 v0:=Tryz.zeroValue0
 t3:=Tryz.underlying3
 a3:=Tryz.isAgg3
 z3:=Tryz.sizeOf3
 v3:=Tryz.zeroValue3
 t4:=Tryz.underlying4
 a4:=Tryz.isAgg4
 z4:=Tryz.sizeOf4
 v4:=Tryz.zeroValue4
 t5:=Tryz.underlying5
 a5:=Tryz.isAgg5
 z5:=Tryz.sizeOf5
 v5:=Tryz.zeroValue5
 t9:=Tryz.underlying9
 a9:=Tryz.isAgg9
 z9:=Tryz.sizeOf9
 v9:=Tryz.zeroValue9
 t46:=Tryz.underlying151
 a46:=Tryz.isAgg151
 z46:=Tryz.sizeOf151
 v46:=Tryz.zeroValue151
 t53:=Tryz.underlying198
 a53:=Tryz.isAgg198
 z53:=Tryz.sizeOf198
 v53:=Tryz.zeroValue198
 t212:=Tryz.underlying293
 a212:=Tryz.isAgg293
 z212:=Tryz.sizeOf293
 v212:=Tryz.zeroValue293
 g17:=by kernel_rfl
 i0:=by kernel_rfl
 i3:=by kernel_rfl
 i4:=by kernel_rfl
 i5:=by kernel_rfl
 i9:=by kernel_rfl
 i46:=by kernel_rfl
 i53:=by kernel_rfl
 i212:=by kernel_rfl
 m17:=by kernel_rfl }
def Tryz.fb_ren:Go.Shelf.Ren:=⟨fun|285=>259|n=>n,fun|37=>129|53=>198|3=>3|4=>4|51=>196|9=>9|5=>5|0=>0|n=>n,fun|n=>n⟩
theorem Tryz.fb:Go.Proofs.Lays.n285 Tryz.prog Tryz.fb_ren:={
 mixed:=by kernel_rfl
 f285:=Tryz.func259.trans P1
 t0:=Tryz.underlying0
 a0:=Tryz.isAgg0
 z0:=Tryz.sizeOf0
 v0:=Tryz.zeroValue0
 t3:=Tryz.underlying3
 a3:=Tryz.isAgg3
 z3:=Tryz.sizeOf3
 v3:=Tryz.zeroValue3
 t4:=Tryz.underlying4
 a4:=Tryz.isAgg4
 z4:=Tryz.sizeOf4
 v4:=Tryz.zeroValue4
 t5:=Tryz.underlying5
 a5:=Tryz.isAgg5
 z5:=Tryz.sizeOf5
 v5:=Tryz.zeroValue5
 t9:=Tryz.underlying9
 a9:=Tryz.isAgg9
 z9:=Tryz.sizeOf9
 v9:=Tryz.zeroValue9
 t37:=Tryz.underlying129
 a37:=Tryz.isAgg129
 z37:=Tryz.sizeOf129
 v37:=Tryz.zeroValue129
 t51:=Tryz.underlying196
 a51:=Tryz.isAgg196
 z51:=Tryz.sizeOf196
 v51:=Tryz.zeroValue196
 t53:=Tryz.underlying198
 a53:=Tryz.isAgg198
 z53:=Tryz.sizeOf198
 v53:=Tryz.zeroValue198 }
def Tryz.pu_ren:Go.Shelf.Ren:=⟨fun|287=>233|321=>251|322=>252|n=>n,fun|9=>9|3=>3|53=>198|75=>133|4=>4|167=>268|5=>5|46=>151|37=>129|0=>0|21=>21|80=>106|n=>n,fun|n=>n⟩
theorem Tryz.pu:Go.Proofs.Lays.n287 Tryz.prog Tryz.pu_ren:={
 mixed:=by kernel_rfl
 f287:=Tryz.func233.trans P1
 f321:=Tryz.func251.trans P1
 f322:=Tryz.func252.trans P1
 t0:=Tryz.underlying0
 a0:=Tryz.isAgg0
 z0:=Tryz.sizeOf0
 v0:=Tryz.zeroValue0
 t3:=Tryz.underlying3
 a3:=Tryz.isAgg3
 z3:=Tryz.sizeOf3
 v3:=Tryz.zeroValue3
 t4:=Tryz.underlying4
 a4:=Tryz.isAgg4
 z4:=Tryz.sizeOf4
 v4:=Tryz.zeroValue4
 t5:=Tryz.underlying5
 a5:=Tryz.isAgg5
 z5:=Tryz.sizeOf5
 v5:=Tryz.zeroValue5
 t9:=Tryz.underlying9
 a9:=Tryz.isAgg9
 z9:=Tryz.sizeOf9
 v9:=Tryz.zeroValue9
 t21:=Tryz.underlying21
 a21:=Tryz.isAgg21
 z21:=Tryz.sizeOf21
 v21:=Tryz.zeroValue21
 t37:=Tryz.underlying129
 a37:=Tryz.isAgg129
 z37:=Tryz.sizeOf129
 v37:=Tryz.zeroValue129
 t46:=Tryz.underlying151
 a46:=Tryz.isAgg151
 z46:=Tryz.sizeOf151
 v46:=Tryz.zeroValue151
 t53:=Tryz.underlying198
 a53:=Tryz.isAgg198
 z53:=Tryz.sizeOf198
 v53:=Tryz.zeroValue198
 t75:=Tryz.underlying133
 a75:=Tryz.isAgg133
 z75:=Tryz.sizeOf133
 v75:=Tryz.zeroValue133
 t167:=Tryz.underlying268
 a167:=Tryz.isAgg268
 z167:=Tryz.sizeOf268
 v167:=Tryz.zeroValue268 }
def Tryz.repeat_ren:Go.Shelf.Ren:=⟨fun|105=>196|212=>236|99=>237|165=>225|166=>88|170=>90|169=>91|263=>261|264=>262|206=>211|240=>132|241=>247|276=>186|277=>265|n=>n,fun|9=>9|3=>3|4=>4|20=>20|0=>0|46=>151|109=>256|5=>5|72=>131|76=>134|51=>196|146=>264|53=>198|148=>278|70=>128|37=>129|75=>133|127=>176|164=>216|80=>106|n=>n,fun|n=>n⟩
theorem Tryz.repeat:Go.Proofs.Lays.n105 Tryz.prog Tryz.repeat_ren:={
 mixed:=by kernel_rfl
 f99:=Tryz.func237.trans P1
 f105:=Tryz.func196.trans P1
 f165:=Tryz.func225.trans P1
 f166:=Tryz.func88.trans P1
 f169:=Tryz.func91.trans P1
 f170:=Tryz.func90.trans P1
 f206:=Tryz.func211.trans P1
 f212:=Tryz.func236.trans P1
 f240:=Tryz.func132.trans P1
 f241:=Tryz.func247.trans P1
 f263:=Tryz.func261.trans P1
 f264:=Tryz.func262.trans P1
 f276:=Tryz.func186.trans P1
 f277:=Tryz.func265.trans P1
 t0:=Tryz.underlying0
 a0:=Tryz.isAgg0
 z0:=Tryz.sizeOf0
 v0:=Tryz.zeroValue0
 t3:=Tryz.underlying3
 a3:=Tryz.isAgg3
 z3:=Tryz.sizeOf3
 v3:=Tryz.zeroValue3
 t4:=Tryz.underlying4
 a4:=Tryz.isAgg4
 z4:=Tryz.sizeOf4
 v4:=Tryz.zeroValue4
 t5:=Tryz.underlying5
 a5:=Tryz.isAgg5
 z5:=Tryz.sizeOf5
 v5:=Tryz.zeroValue5
 t9:=Tryz.underlying9
 a9:=Tryz.isAgg9
 z9:=Tryz.sizeOf9
 v9:=Tryz.zeroValue9
 t20:=Tryz.underlying20
 a20:=Tryz.isAgg20
 z20:=Tryz.sizeOf20
 v20:=Tryz.zeroValue20
 t37:=Tryz.underlying129
 a37:=Tryz.isAgg129
 z37:=Tryz.sizeOf129
 v37:=Tryz.zeroValue129
 t46:=Tryz.underlying151
 a46:=Tryz.isAgg151
 z46:=Tryz.sizeOf151
 v46:=Tryz.zeroValue151
 t51:=Tryz.underlying196
 a51:=Tryz.isAgg196
 z51:=Tryz.sizeOf196
 v51:=Tryz.zeroValue196
 t53:=Tryz.underlying198
 a53:=Tryz.isAgg198
 z53:=Tryz.sizeOf198
 v53:=Tryz.zeroValue198
 t70:=Tryz.underlying128
 a70:=Tryz.isAgg128
 z70:=Tryz.sizeOf128
 v70:=Tryz.zeroValue128
 t72:=Tryz.underlying131
 a72:=Tryz.isAgg131
 z72:=Tryz.sizeOf131
 v72:=Tryz.zeroValue131
 t75:=Tryz.underlying133
 a75:=Tryz.isAgg133
 z75:=Tryz.sizeOf133
 v75:=Tryz.zeroValue133
 t76:=Tryz.underlying134
 a76:=Tryz.isAgg134
 z76:=Tryz.sizeOf134
 v76:=Tryz.zeroValue134
 t109:=Tryz.underlying256
 a109:=Tryz.isAgg256
 z109:=Tryz.sizeOf256
 v109:=Tryz.zeroValue256
 t127:=Tryz.underlying176
 a127:=Tryz.isAgg176
 z127:=Tryz.sizeOf176
 v127:=Tryz.zeroValue176
 t146:=Tryz.underlying264
 a146:=Tryz.isAgg264
 z146:=Tryz.sizeOf264
 v146:=Tryz.zeroValue264
 t148:=Tryz.underlying278
 a148:=Tryz.isAgg278
 z148:=Tryz.sizeOf278
 v148:=Tryz.zeroValue278
 t164:=Tryz.underlying216
 a164:=Tryz.isAgg216
 z164:=Tryz.sizeOf216
 v164:=Tryz.zeroValue216 }
def Tryz.bst_ren:Go.Shelf.Ren:=⟨fun|169=>91|n=>n,fun|70=>128|9=>9|0=>0|72=>131|37=>129|127=>176|3=>3|5=>5|n=>n,fun|n=>n⟩
theorem Tryz.bst:Go.Proofs.Lays.n169 Tryz.prog Tryz.bst_ren:={
 mixed:=by kernel_rfl
 f169:=Tryz.func91.trans P1
 t0:=Tryz.underlying0
 a0:=Tryz.isAgg0
 z0:=Tryz.sizeOf0
 v0:=Tryz.zeroValue0
 t3:=Tryz.underlying3
 a3:=Tryz.isAgg3
 z3:=Tryz.sizeOf3
 v3:=Tryz.zeroValue3
 t9:=Tryz.underlying9
 a9:=Tryz.isAgg9
 z9:=Tryz.sizeOf9
 v9:=Tryz.zeroValue9
 t37:=Tryz.underlying129
 a37:=Tryz.isAgg129
 z37:=Tryz.sizeOf129
 v37:=Tryz.zeroValue129
 t70:=Tryz.underlying128
 a70:=Tryz.isAgg128
 z70:=Tryz.sizeOf128
 v70:=Tryz.zeroValue128
 t72:=Tryz.underlying131
 a72:=Tryz.isAgg131
 z72:=Tryz.sizeOf131
 v72:=Tryz.zeroValue131
 t127:=Tryz.underlying176
 a127:=Tryz.isAgg176
 z127:=Tryz.sizeOf176
 v127:=Tryz.zeroValue176 }
def Tryz.gspl_ren:Go.Shelf.Ren:=⟨fun|221=>124|268=>174|138=>175|143=>155|195=>216|197=>217|218=>218|219=>176|260=>244|217=>219|225=>220|224=>221|267=>222|266=>245|314=>246|n=>n,fun|9=>9|3=>3|31=>36|4=>4|0=>0|105=>243|21=>21|5=>5|46=>151|119=>282|139=>285|138=>284|146=>264|51=>196|n=>n,fun|1=>0|3=>1|4=>2|n=>n⟩
theorem Tryz.gspl:Go.Proofs.Lays.n221 Tryz.prog Tryz.gspl_ren:={
 mixed:=by kernel_rfl
 f138:=Tryz.func175.trans P1
 f143:=Tryz.func155.trans P1
 f195:=Tryz.func216.trans P1
 f197:=Tryz.func217.trans P1
 f217:=Tryz.func219.trans P1
 f218:=Tryz.func218.trans P1
 f219:=Tryz.func176.trans P1
 f221:=Tryz.func124.trans P1
 f224:=Tryz.func221.trans P1
 f225:=Tryz.func220.trans P1
 f260:=Tryz.func244.trans P1
 f266:=Tryz.func245.trans P1
 f267:=Tryz.func222.trans P1
 f268:=Tryz.func174.trans P1
 f314:=Tryz.func246.trans P1
 t0:=Tryz.underlying0
 a0:=Tryz.isAgg0
 z0:=Tryz.sizeOf0
 v0:=Tryz.zeroValue0
 t3:=Tryz.underlying3
 a3:=Tryz.isAgg3
 z3:=Tryz.sizeOf3
 v3:=Tryz.zeroValue3
 t4:=Tryz.underlying4
 a4:=Tryz.isAgg4
 z4:=Tryz.sizeOf4
 v4:=Tryz.zeroValue4
 t5:=Tryz.underlying5
 a5:=Tryz.isAgg5
 z5:=Tryz.sizeOf5
 v5:=Tryz.zeroValue5
 t9:=Tryz.underlying9
 a9:=Tryz.isAgg9
 z9:=Tryz.sizeOf9
 v9:=Tryz.zeroValue9
 t21:=Tryz.underlying21
 a21:=Tryz.isAgg21
 z21:=Tryz.sizeOf21
 v21:=Tryz.zeroValue21
 t31:=Tryz.underlying36
 a31:=Tryz.isAgg36
 z31:=Tryz.sizeOf36
 v31:=Tryz.zeroValue36
 t46:=Tryz.underlying151
 a46:=Tryz.isAgg151
 z46:=Tryz.sizeOf151
 v46:=Tryz.zeroValue151
 t51:=Tryz.underlying196
 a51:=Tryz.isAgg196
 z51:=Tryz.sizeOf196
 v51:=Tryz.zeroValue196
 t105:=Tryz.underlying243
 a105:=Tryz.isAgg243
 z105:=Tryz.sizeOf243
 v105:=Tryz.zeroValue243
 t119:=Tryz.underlying282
 a119:=Tryz.isAgg282
 z119:=Tryz.sizeOf282
 t138:=Tryz.underlying284
 a138:=Tryz.isAgg284
 z138:=Tryz.sizeOf284
 v138:=Tryz.zeroValue284
 t139:=Tryz.underlying285
 a139:=Tryz.isAgg285
 z139:=Tryz.sizeOf285
 v139:=Tryz.zeroValue285
 t146:=Tryz.underlying264
 a146:=Tryz.isAgg264
 z146:=Tryz.sizeOf264
 v146:=Tryz.zeroValue264
 g1:=by kernel_rfl
 g3:=by kernel_rfl
 g4:=by kernel_rfl }
def Tryz.join_ren:Go.Shelf.Ren:=⟨fun|156=>183|165=>225|166=>88|169=>91|240=>132|241=>247|276=>186|277=>265|n=>n,fun|31=>36|9=>9|3=>3|4=>4|0=>0|20=>20|72=>131|76=>134|70=>128|37=>129|75=>133|127=>176|164=>216|5=>5|80=>106|n=>n,fun|n=>n⟩
theorem Tryz.join:Go.Proofs.Lays.n156 Tryz.prog Tryz.join_ren:={
 mixed:=by kernel_rfl
 f156:=Tryz.func183.trans P1
 f165:=Tryz.func225.trans P1
 f166:=Tryz.func88.trans P1
 f169:=Tryz.func91.trans P1
 f240:=Tryz.func132.trans P1
 f241:=Tryz.func247.trans P1
 f276:=Tryz.func186.trans P1
 f277:=Tryz.func265.trans P1
 t0:=Tryz.underlying0
 a0:=Tryz.isAgg0
 z0:=Tryz.sizeOf0
 v0:=Tryz.zeroValue0
 t3:=Tryz.underlying3
 a3:=Tryz.isAgg3
 z3:=Tryz.sizeOf3
 v3:=Tryz.zeroValue3
 t4:=Tryz.underlying4
 a4:=Tryz.isAgg4
 z4:=Tryz.sizeOf4
 v4:=Tryz.zeroValue4
 t9:=Tryz.underlying9
 a9:=Tryz.isAgg9
 z9:=Tryz.sizeOf9
 v9:=Tryz.zeroValue9
 t20:=Tryz.underlying20
 a20:=Tryz.isAgg20
 z20:=Tryz.sizeOf20
 v20:=Tryz.zeroValue20
 t31:=Tryz.underlying36
 a31:=Tryz.isAgg36
 z31:=Tryz.sizeOf36
 v31:=Tryz.zeroValue36
 t37:=Tryz.underlying129
 a37:=Tryz.isAgg129
 z37:=Tryz.sizeOf129
 v37:=Tryz.zeroValue129
 t70:=Tryz.underlying128
 a70:=Tryz.isAgg128
 z70:=Tryz.sizeOf128
 v70:=Tryz.zeroValue128
 t72:=Tryz.underlying131
 a72:=Tryz.isAgg131
 z72:=Tryz.sizeOf131
 v72:=Tryz.zeroValue131
 t75:=Tryz.underlying133
 a75:=Tryz.isAgg133
 z75:=Tryz.sizeOf133
 v75:=Tryz.zeroValue133
 t76:=Tryz.underlying134
 a76:=Tryz.isAgg134
 z76:=Tryz.sizeOf134
 v76:=Tryz.zeroValue134
 t127:=Tryz.underlying176
 a127:=Tryz.isAgg176
 z127:=Tryz.sizeOf176
 v127:=Tryz.zeroValue176
 t164:=Tryz.underlying216
 a164:=Tryz.isAgg216
 z164:=Tryz.sizeOf216
 v164:=Tryz.zeroValue216 }
def Tryz.keys_ren:Go.Shelf.Ren:=⟨fun|7=>180|10=>223|n=>n,fun|23=>155|26=>9|3=>72|28=>61|0=>0|27=>60|33=>86|4=>4|n=>n,fun|n=>n⟩
theorem Tryz.keys:Go.Proofs.SlLaysZ.n7 Tryz.prog Tryz.keys_ren:={
 mixed:=by kernel_rfl
 f7:=⟨Tryz.f180.name,by decide,Tryz.func180.trans P1⟩
 f10:=⟨Tryz.f223.name,by decide,Tryz.func223.trans P1⟩
 t0:=Tryz.underlying0
 a0:=Tryz.isAgg0
 z0:=Tryz.sizeOf0
 v0:=Tryz.zeroValue0
 t4:=Tryz.underlying4
 a4:=Tryz.isAgg4
 z4:=Tryz.sizeOf4
 v4:=Tryz.zeroValue4
 t23:=Tryz.underlying155
 a23:=Tryz.isAgg155
 z23:=Tryz.sizeOf155
 v23:=Tryz.zeroValue155
 t26:=Tryz.underlying9
 a26:=Tryz.isAgg9
 z26:=Tryz.sizeOf9
 v26:=Tryz.zeroValue9
 t27:=Tryz.underlying60
 a27:=Tryz.isAgg60
 z27:=Tryz.sizeOf60
 v27:=Tryz.zeroValue60
 t28:=Tryz.underlying61
 a28:=Tryz.isAgg61
 z28:=Tryz.sizeOf61
 v28:=Tryz.zeroValue61
 t33:=Tryz.underlying86
 a33:=Tryz.isAgg86
 z33:=Tryz.sizeOf86
 v33:=Tryz.zeroValue86 }
def Tryz.sorted_ren:Go.Shelf.Ren:=⟨fun|6=>35|8=>74|9=>72|11=>123|13=>104|12=>122|23=>153|24=>154|14=>165|15=>166|16=>167|17=>168|18=>169|19=>170|20=>171|21=>172|22=>173|25=>212|26=>200|27=>201|28=>213|29=>214|30=>215|31=>243|n=>n,fun|26=>9|28=>61|24=>36|0=>0|3=>3|37=>151|48=>196|50=>198|4=>4|40=>189|39=>188|45=>193|5=>5|9=>9|51=>227|55=>231|57=>258|58=>259|33=>86|n=>n,fun|n=>n⟩
theorem Tryz.sorted:Go.Proofs.SlLaysZ.n6 Tryz.prog Tryz.sorted_ren:={
 mixed:=by kernel_rfl
 f6:=⟨Tryz.f35.name,by decide,Tryz.func35.trans P1⟩
 f8:=⟨Tryz.f74.name,by decide,Tryz.func74.trans P1⟩
 f11:=⟨Tryz.f123.name,by decide,Tryz.func123.trans P1⟩
 t0:=Tryz.underlying0
 a0:=Tryz.isAgg0
 z0:=Tryz.sizeOf0
 v0:=Tryz.zeroValue0
 t24:=Tryz.underlying36
 a24:=Tryz.isAgg36
 z24:=Tryz.sizeOf36
 v24:=Tryz.zeroValue36
 t26:=Tryz.underlying9
 a26:=Tryz.isAgg9
 z26:=Tryz.sizeOf9
 v26:=Tryz.zeroValue9
 t28:=Tryz.underlying61
 a28:=Tryz.isAgg61
 z28:=Tryz.sizeOf61
 v28:=Tryz.zeroValue61
 i26:=by kernel_rfl }
def Tryz.sortStr_ren:Go.Shelf.Ren:=⟨fun|6=>72|8=>104|9=>122|19=>153|20=>154|21=>165|22=>166|23=>167|24=>168|25=>169|26=>170|27=>171|28=>172|29=>173|36=>212|31=>200|32=>201|37=>213|38=>214|39=>215|41=>243|n=>n,fun|27=>36|29=>9|3=>3|32=>151|26=>36|0=>0|44=>196|46=>198|4=>4|36=>189|35=>188|41=>193|5=>5|9=>9|53=>227|57=>231|63=>258|64=>259|n=>n,fun|n=>n⟩
theorem Tryz.sortStr:Go.Proofs.SlLaysM.n6 Tryz.prog Tryz.sortStr_ren:={
 mixed:=by kernel_rfl
 f6:=⟨Tryz.f72.name,by decide,Tryz.func72.trans P1⟩
 f8:=Tryz.func104.trans P1
 f9:=⟨Tryz.f122.name,by decide,Tryz.func122.trans P1⟩
 f19:=Tryz.func153.trans P1
 f20:=Tryz.func154.trans P1
 f21:=⟨Tryz.f165.name,by decide,Tryz.func165.trans P1⟩
 f22:=⟨Tryz.f166.name,by decide,Tryz.func166.trans P1⟩
 f23:=⟨Tryz.f167.name,by decide,Tryz.func167.trans P1⟩
 f24:=⟨Tryz.f168.name,by decide,Tryz.func168.trans P1⟩
 f25:=⟨Tryz.f169.name,by decide,Tryz.func169.trans P1⟩
 f26:=⟨Tryz.f170.name,by decide,Tryz.func170.trans P1⟩
 f27:=⟨Tryz.f171.name,by decide,Tryz.func171.trans P1⟩
 f28:=⟨Tryz.f172.name,by decide,Tryz.func172.trans P1⟩
 f29:=⟨Tryz.f173.name,by decide,Tryz.func173.trans P1⟩
 f31:=Tryz.func200.trans P1
 f32:=Tryz.func201.trans P1
 f36:=⟨Tryz.f212.name,by decide,Tryz.func212.trans P1⟩
 f37:=⟨Tryz.f213.name,by decide,Tryz.func213.trans P1⟩
 f38:=⟨Tryz.f214.name,by decide,Tryz.func214.trans P1⟩
 f39:=⟨Tryz.f215.name,by decide,Tryz.func215.trans P1⟩
 f41:=⟨Tryz.f243.name,by decide,Tryz.func243.trans P1⟩
 t0:=Tryz.underlying0
 a0:=Tryz.isAgg0
 z0:=Tryz.sizeOf0
 v0:=Tryz.zeroValue0
 t3:=Tryz.underlying3
 a3:=Tryz.isAgg3
 z3:=Tryz.sizeOf3
 v3:=Tryz.zeroValue3
 t4:=Tryz.underlying4
 a4:=Tryz.isAgg4
 z4:=Tryz.sizeOf4
 v4:=Tryz.zeroValue4
 t5:=Tryz.underlying5
 a5:=Tryz.isAgg5
 z5:=Tryz.sizeOf5
 v5:=Tryz.zeroValue5
 t9:=Tryz.underlying9
 a9:=Tryz.isAgg9
 z9:=Tryz.sizeOf9
 v9:=Tryz.zeroValue9
 t26:=Tryz.underlying36
 a26:=Tryz.isAgg36
 z26:=Tryz.sizeOf36
 v26:=Tryz.zeroValue36
 t27:=Tryz.underlying36
 a27:=Tryz.isAgg36
 z27:=Tryz.sizeOf36
 v27:=Tryz.zeroValue36
 t29:=Tryz.underlying9
 a29:=Tryz.isAgg9
 z29:=Tryz.sizeOf9
 v29:=Tryz.zeroValue9
 t32:=Tryz.underlying151
 a32:=Tryz.isAgg151
 z32:=Tryz.sizeOf151
 v32:=Tryz.zeroValue151
 t35:=Tryz.underlying188
 a35:=Tryz.isAgg188
 z35:=Tryz.sizeOf188
 v35:=Tryz.zeroValue188
 t36:=Tryz.underlying189
 a36:=Tryz.isAgg189
 z36:=Tryz.sizeOf189
 v36:=Tryz.zeroValue189
 t41:=Tryz.underlying193
 a41:=Tryz.isAgg193
 z41:=Tryz.sizeOf193
 v41:=Tryz.zeroValue193
 t44:=Tryz.underlying196
 a44:=Tryz.isAgg196
 z44:=Tryz.sizeOf196
 v44:=Tryz.zeroValue196
 t46:=Tryz.underlying198
 a46:=Tryz.isAgg198
 z46:=Tryz.sizeOf198
 v46:=Tryz.zeroValue198
 t53:=Tryz.underlying227
 a53:=Tryz.isAgg227
 z53:=Tryz.sizeOf227
 v53:=Tryz.zeroValue227
 t57:=Tryz.underlying231
 a57:=Tryz.isAgg231
 z57:=Tryz.sizeOf231
 v57:=Tryz.zeroValue231
 t63:=Tryz.underlying258
 a63:=Tryz.isAgg258
 z63:=Tryz.sizeOf258
 v63:=Tryz.zeroValue258
 t64:=Tryz.underlying259
 a64:=Tryz.isAgg259
 z64:=Tryz.sizeOf259
 v64:=Tryz.zeroValue259 }
end Go.Proofs
namespace Go.Proofs.YtddfimjiihggmaaGreatDoor
open Go.RowKit Px
variable {p:UInt8->Bool} {x b:UInt8} {i:Nat} {α:Type}
def Dh (s p:F6):Bool:=decide (p.length<=s.length)&&(s.take p.length==p)
theorem KF (s p:F6):PCalls Tryz.prog 211 [dS s,dS p] (.d (dB (Dh s p))):=by
 refine L5 Tryz.func211 C Tryz.ntmps211 Tryz.results211 fun B w0=>?_
 by_cases h:p.length<=s.length
 . have t1:decide ((s.length:Int) ≥ (p.length:Int))=true:=by simpa using h
   refine D7 (H3 C (yQ (D7 (B6 C (N3 C (B6 C (N3 C (yB C C C C (B6 C ?_)))))))))
   rw[t1]
   refine B6 C (B6 C (N3 C ?_));refine W6 (l':=s.take p.length) (by omega) (by omega) (by simp) C C ?_;refine B6 C (N6 C C (L0 C C (H3 C (yQ (C4 ?_)))))
   exact J5 _ (.tmp C .nil) (by simp[Dh,h,AD])
 . have t1:decide ((s.length:Int) ≥ (p.length:Int))=false:=by simpa using h
   refine D7 (H3 C (yQ (D7 (B6 C (N3 C (B6 C (N3 C (yB C C C C (B6 C ?_)))))))))
   rw[t1]
   refine yO C (yO C (yO C (yO C (yO C (yO C (K9 C C (H3 C (yQ (C4 ?_)))))))))
   exact J5 _ (.tmp C .nil) (by simp[Dh,h,AD])
theorem KG (s p:F6):PCalls Tryz.prog 164 [dS s,dS p] (.tup [dS (if Dh s p then s.drop p.length else s),dB (Dh s p)]):=by
 have c1:=KF s p
 refine L5 Tryz.func164 C Tryz.ntmps164 Tryz.results164 fun B w0=>?_
 cases h:Dh s p with
 | false=>
  rw[h]at c1
  refine D7 (H3 C (H3 C (yQ (B2 (D7 (B6 C (B6 C (yC (c1) C C (yU C C C ?_)))))))));refine yQ (G2 C (D7 (B6 C (H3 C (H3 C (yQ (C4 (A5 ?_))))))))
  exact Y7 C C C
 | true=>
  rw[h]at c1
  have hl:p.length<=s.length:=by simp[Dh]at h;exact h.1
  refine D7 (H3 C (H3 C (yQ (B2 (D7 (B6 C (B6 C (yC (c1) C C (yU C C C ?_)))))))));refine yQ (D8 C (B1 (D7 (B6 C (B6 C (N3 C ?_))))));refine V3 (l':=s.drop p.length) (by omega) (by omega) (by simp) C C ?_;refine H3 C (H3 C (yQ (C4 ?_)))
  exact Y7 C C C
theorem Ll (s p:F6):PCalls Tryz.prog 121 [dS s,dS p] (.tup [dS (if Dh s p then s.drop p.length else s),dB (Dh s p)]):=by
 have c1:=KG s p
 refine L5 Tryz.func121 C Tryz.ntmps121 Tryz.results121 fun B w0=>?_
 refine D7 (H3 C (H3 C (yQ (D7 (B6 C (B6 C (yC (c1) C C (yX C C (yX C C ?_)))))))));refine H3 C (H3 C (yQ (C4 ?_)))
 exact Y7 C C C
theorem HV (a:F6):Dh a [45]=decide (a.head? = some 45)∧(if Dh a [45]then a.drop 1 else a)=BM a:=by
 cases a with
 | nil=>exact⟨rfl,C⟩
 | cons x a=>
  by_cases h:x=45
  . subst h;exact⟨by simp[Dh],by simp[Dh,BM]⟩
  . have:Dh (x::a) [45]=false:=by simp[Dh,h]
    rw[this]
    exact⟨by simpa using h,by simp[BM,h]⟩
theorem OV (a:F6):PCalls Tryz.prog 121 [dS a,dS [45]] (.tup [dS (BM a),dB (decide (a.head? = some 45))]):=by
 have h:=Ll a [45]
 rw[show([45]:F6).length=1 from rfl,(HV a).2,(HV a).1]at h
 exact h
def cs10:F6:=[48,49,50,51,52,53,54,55,56,57]
theorem LN (b:UInt8):cs10.contains b=U7 b:=by
 have h:∀ n,n<256->cs10.contains (UInt8.ofNat n)=U7 (UInt8.ofNat n):=by decide +kernel
 have:=h b.toNat b.toNat_lt
 simpa using this
theorem Qf (l:F6):Lib.trimLeftS l cs10=l.dropWhile U7:=by
 have hp:(fun b=>cs10.contains b)=U7:=funext LN
 show l.dropWhile (fun b=>cs10.contains b)=_
 rw[hp]
theorem Qe (l:F6):Lib.trimRightS l cs10=(l.reverse.dropWhile U7).reverse:=by
 have hp:(fun b=>cs10.contains b)=U7:=funext LN
 show(l.reverse.dropWhile (fun b=>cs10.contains b)).reverse=_
 rw[hp]
theorem Ij {l:F6}:l.dropWhile p=[]↔l.all p=true:=by
 induction l with
 | nil=>simp
 | cons x l ih=>
  rw[List.dropWhile_cons,List.all_cons,D1,<-ih]
  cases p x<;>simp
theorem Mg {l r:F6} (h:l.dropWhile p=x::r):p x=false:=by
 induction l with
 | nil=>cases h
 | cons y l ih=>
  rw[List.dropWhile_cons]at h
  split at h
  . exact ih h
  . rename_i hy
    cases h
    simpa using hy
theorem Oa (l:F6):((Lib.trimS l cs10)==[])=l.all U7:=by
 have h0:Lib.trimS l cs10=Lib.trimLeftS (Lib.trimRightS l cs10) cs10:=rfl
 rw[Bool.eq_iff_iff,beq_iff_eq,h0,Qf,Qe,Ij,List.all_reverse]
 rw[<-List.all_reverse (l:=l),<-Ij (l:=l.reverse)]
 constructor
 . intro h
   cases hd:l.reverse.dropWhile U7 with
   | nil=>rfl
   | cons x r=>
    have:=Mg hd
    rw[hd]at h
    simp[this]at h
 . intro h;rw[h];rfl
theorem EA (v:Value) (h:v.oneCell'=true):∀ u∈[v],u.oneCell'=true:=fun u hu=>by rw[List.mem_singleton.1 hu];exact h
theorem wTrim (s:F6) (hs:s.length<=9223372036854775807):PCalls Tryz.prog 189 [dS s,dS cs10] (.d (dS (Lib.trimS s cs10))):=
 PCalls.of_plain (us:=[vS (Lib.trimS s cs10)]) (vs:=[vS s,vS cs10]) rfl (EA _ rfl) fun w=>by
  have:=Any.strings_Trim_laid Tryz.trim (by kernel_rfl) ⟨s.toArray⟩ ⟨cs10.toArray⟩ w (show s.toArray.size<=9223372036854775807 by rw[List.size_toArray];exact hs) (by decide) (ascii_of_all (by decide))
  exact this
theorem Li (s:F6):PCalls Tryz.prog 190 [dS s,dS [48]] (.d (dS (s.dropWhile (· == 48)))):=
 PCalls.of_plain (us:=[vS (s.dropWhile (· == 48))]) (vs:=[vS s,vS [48]]) rfl (EA _ rfl) fun w=>by
  have:=Any.strings_TrimLeft_laid Tryz.trimLeft (by kernel_rfl) ⟨s.toArray⟩ ⟨([48]:F6).toArray⟩ w (by decide) (ascii_of_all (by decide))
  have e:Lib.trimLeftS s [48]=s.dropWhile (· == 48):=by
   have hp:(fun b=>([48]:F6).contains b)=fun b=>b==48:=funext fun b=>Bool.eq_iff_iff.2 (by simp)
   show s.dropWhile (fun b=>([48]:F6).contains b)=_
   rw[hp]
  have e2:Lib.trimLeftS (ByteArray.mk s.toArray).data.toList (ByteArray.mk ([48]:F6).toArray).data.toList=s.dropWhile (· == 48):=e
  rw[e2]at this
  exact this
theorem JA (a:F6) (ha:a.length<=9223372036854775807):PCalls Tryz.prog 139 [dS a] (.tup [dS (L9 a).1,dB (L9 a).2]):=by
 have c1:=OV a
 have hb:(BM a).length<=9223372036854775807:=by
  unfold BM
  split
  . rw[List.length_tail];omega
  . exact ha
 have c2:=wTrim (BM a) hb
 have t1:=Oa (BM a)
 obtain⟨u,hu⟩:=H8 (Lib.trimS (BM a) cs10)
 rw[<-hu]at c2 t1
 have c3:=Li (BM a)
 have hd:L9 a=if (BM a).all U7 then ((BM a).dropWhile (· == 48),decide (a.head? = some 45) && !((BM a).dropWhile (· == 48)).isEmpty)else ([],false):=rfl
 obtain⟨h,hh⟩:=H8 (decide (a.head? = some 45))
 obtain⟨b,hb2⟩:=H8 (BM a)
 obtain⟨z,hz⟩:=H8 ((BM a).dropWhile (· == 48))
 rw[<-hz]at c3 hd
 rw[<-hh]at c1 hd
 rw[<-hb2]at c1 c2 c3 t1 hd
 refine L5 Tryz.func139 C Tryz.ntmps139 Tryz.results139 fun B w0=>?_
 cases ht:b.all U7 with
 | false=>
  rw[ht]at t1
  rw[hd,ht]
  refine D7 (H3 C (H3 C (yQ (D7 (B6 C (yC (c1) C C (N9 C (yX C C (yX C C ?_)))))))));refine H3 C (H3 C (yQ (B2 (D7 (B6 C (yC (c2) C C (L8 C C (yQ (B3 ?_)))))))))
  rw[t1]
  refine G2 C (D7 (H3 C (H3 C (yQ (C4 (A5 ?_))))))
  exact Y7 C C C
 | true=>
  rw[ht]at t1
  rw[hd,ht]
  refine D7 (H3 C (H3 C (yQ (D7 (B6 C (yC (c1) C C (N9 C (yX C C (yX C C ?_)))))))));refine H3 C (H3 C (yQ (B2 (D7 (B6 C (yC (c2) C C (L8 C C (yQ (B3 ?_)))))))))
  rw[t1]
  cases h with
  | false=>
   refine D8 C (B1 (D7 (B6 C (yC (c3) C C (H3 C (yQ (D7 (B6 C (B6 C ?_)))))))));refine B6 C (yO C (yO C (K9 C C (H3 C (H3 C (yQ (C4 ?_)))))))
   exact Y7 C C C
  | true=>
   refine D8 C (B1 (D7 (B6 C (yC (c3) C C (H3 C (yQ (D7 (B6 C (B6 C ?_)))))))));refine B6 C (B6 C (L8 C C (L0 C C (H3 C (H3 C (yQ (C4 ?_)))))))
   exact J5 _ (.tmp rfl (.tmp rfl .nil)) (by cases z<;>rfl)
theorem DF (a:F6):(J3 (val a)).length<=a.length:=by
 rw[Bi]
 have h1:(L9 a).1.length<=(BM a).length:=by
  unfold L9
  split
  . exact(List.dropWhile_sublist _).length_le
  . exact E7 _
 cases h:(L9 a).2 with
 | false=>
  have:(BM a).length<=a.length:=by unfold BM;split<;>simp
  simpa using D9 h1 this
 | true=>
  have h2:a.head? = some 45:=by
   unfold L9 at h
   split at h
   . simp at h;exact h.1
   . cases h
  cases a with
  | nil=>cases h2
  | cons x l=>
   simp[BM]at h1 h2
   subst h2
   simpa using h1
theorem DZ (a:F6) (ha:a.length<=1000000000):PCalls Tryz.prog 96 [dS a] (.d (dS (J3 (val a)))):=by
 have c1:=JA a (by omega)
 have hc:=Bi a
 have hl:=DF a
 obtain⟨z,hz⟩:=H8 (J3 (val a))
 rw[<-hz]at hc hl ⊢
 obtain⟨⟨x,y⟩,hd⟩:=H8 (L9 a)
 rw[<-hd]at c1 hc
 refine L5 Tryz.func96 C Tryz.ntmps96 Tryz.results96 fun B w0=>?_
 cases y with
 | false=>
  refine D7 (H3 C (yQ (D7 (B6 C (yC (c1) C C (N9 C (yX C C (yX C C (H3 C ?_)))))))));refine H3 C (yQ (B2 (D7 (B6 C (yQ (D8 C (B1 (D7 (B6 C ?_)))))))));refine H3 C (yQ (C4 ?_))
  exact J5 _ (.tmp C .nil) (by rw[hc];rfl)
 | true=>
  have hx:x.length+1<=1000000000:=by rw[hc]at hl;simp at hl;omega
  refine D7 (H3 C (yQ (D7 (B6 C (yC (c1) C C (N9 C (yX C C (yX C C (H3 C ?_)))))))));refine H3 C (yQ (B2 (D7 (B6 C (yQ (G2 C (B4 (B6 C ?_))))))));refine O2 (l1:=[45]) (l2:=x) (by simp;omega) C C ?_;refine H3 C (yQ (D7 (B6 C (H3 C (yQ (C4 ?_))))))
  exact J5 _ (.tmp C .nil) (by rw[hc];rfl)
theorem wCheck (a:F6) (ha:a.length<=1000000000):PCalls Tryz.prog 44 [dS a] (.d (dI (if Cu a then 0 else 1))):=by
 have c1:=DZ a ha
 have hi:Cu a=(a==J3 (val a)):=by
  unfold Cu
  rw[Bool.eq_iff_iff,decide_eq_true_eq,beq_iff_eq]
  exact eq_comm
 obtain⟨z,hz⟩:=H8 (J3 (val a))
 rw[<-hz]at hi c1
 refine L5 Tryz.func44 C Tryz.ntmps44 Tryz.results44 fun B w0=>?_
 rw[hi]
 cases h:(a==z) with
 | true=>
  refine D7 (H3 C (yQ (B2 (D7 (B6 C (B6 C (yC (c1) C C (L8 C C (yQ ?_)))))))));refine B3 ?_
  rw[h]
  refine D8 C (B1 (D7 (H3 C (yQ (C4 ?_)))))
  exact M5 C C
 | false=>
  refine D7 (H3 C (yQ (B2 (D7 (B6 C (B6 C (yC (c1) C C (L8 C C (yQ ?_)))))))));refine B3 ?_
  rw[h]
  refine G2 C (D7 (H3 C (yQ (C4 (A5 ?_)))))
  exact M5 C C
theorem Cs (b:UInt8):U7 b=true↔48<=b.toNat∧b.toNat<=57:=by simp[U7]
theorem AK {l:F6} (hx:l[i]? = some x) (h:(l.take i).all p=true) (hp:p x=true):(l.take (i+1)).all p=true:=by
 rw[H4,hx,List.all_append,h];simp[hp]
theorem DH {l:F6} (hx:l[i]? = some x) (hp:p x=false):l.all p=false:=by
 rw[Bool.eq_false_iff]
 intro h
 rw[E5]at h
 have:=h x (B8 hx)
 rw[hp]at this
 cases this
theorem Af (a:F6) (ha:a.length<=9223372036854775806):PCalls Tryz.prog 188 [dS a] (.tup [dS (L9 a).1,dB (L9 a).2]):=by
 have hd:L9 a=if (BM a).all U7 then ((BM a).dropWhile (· == 48),decide (a.head? = some 45) && !((BM a).dropWhile (· == 48)).isEmpty)else ([],false):=rfl
 have hb:(BM a).length<=9223372036854775806:=by
  unfold BM
  split
  . rw[List.length_tail];omega
  . exact ha
 obtain⟨r,hr⟩:=H8 (L9 a)
 rw[<-hr]at hd ⊢
 obtain⟨n,hn⟩:=H8 (decide (a.head? = some 45))
 rw[<-hn]at hd
 refine L5 Tryz.func188 C Tryz.ntmps188 Tryz.results188 fun B w0=>?_
 cases a with
 | nil=>
  have e1:n=false:=hn
  have e2:r=([],false):=by rw[hd,e1];rfl
  subst e1
  rw[e2]
  refine D7 (H3 C (H3 C (yQ (D7 (B6 C (H3 C (yQ (D7 (B6 C ?_)))))))));refine N3 C (yB C C C C (B6 C (yO C (yO C (yO C (K9 C C (H3 C (yQ (B2 ?_)))))))));refine D7 (B6 C (yQ (D8 C (B1 (B2 (D7 (H3 C (yQ (B7 ?_)))))))));refine H9 (fun i:Nat=>⟨52,[(4,.d (dS [])),(5,.d (dB false)),(6,.d (dI i))],[],[]⟩) (fun i=>i=0) (fun i=>0-i) 0 C ⟨rfl,⟨E6,E6,E6,D3⟩,D3,D3,C⟩ ?_
  rintro i rfl
  refine B2 (D7 (B6 C (B6 C (N3 C (yB C C C C (yQ (D8 C (F9 (B2 ?_)))))))));refine B7 ?_;refine H9 (fun i:Nat=>⟨52,[(4,.d (dS [])),(5,.d (dB false))],[],[]⟩) (fun i=>i=0) (fun i=>0-i) 0 C ⟨rfl,⟨E6,E6,D3⟩,D3,D3,C⟩ ?_
  rintro i rfl
  refine B2 (D7 (B6 C (N3 C (yB C C C C (B6 C (yO C (yO C (yO C (K9 C C ?_)))))))));refine yQ (D8 C (F9 (D7 (B6 C (B6 C (B6 C (yO C (yO C (yO C ?_)))))))));refine K9 C C (H3 C (H3 C (yQ (C4 ?_))))
  exact Y7 C C C
 | cons x l=>
  have hpos:decide (((x::l:F6).length:Int) > 0)=true:=by simp
  have hx0:(x::l:F6)[(0:Int).toNat]? = some x:=rfl
  have hsg:((x.toNat:Int)==45)=n:=by
   rw[hn,Bool.eq_iff_iff]
   simp only[beq_iff_eq,List.head?_cons,Option.some.injEq,decide_eq_true_eq]
   constructor
   . intro h;apply UInt8.toNat_inj.1;simp;omega
   . rintro rfl;rfl
  obtain⟨b,hbb⟩:=H8 (BM (x::l))
  rw[<-hbb]at hd hb
  have hbn:b=if n then l else x::l:=by
   rw[hbb,hn]
   simp[BM]
  refine D7 (H3 C (H3 C (yQ (D7 (B6 C (H3 C (yQ (D7 (B6 C ?_)))))))));refine N3 C (yB C C C C (B6 C ?_))
  rw[hpos]
  refine B6 C (U9 hx0 (by omega) C C (yB C C C C (L0 C C (H3 C (yQ (B2 (D7 (B6 C (yQ ?_)))))))));refine B3 ?_
  rw[hsg]
  cases n with
  | true=>
   have hl1:b=l:=by simpa using hbn
   refine G2 C (B4 (B6 C ?_));refine V3 (l':=b) (by omega) (by simp;omega) (by rw[hl1];rfl) rfl rfl ?_;refine H3 C (yQ (B2 (D7 (H3 C (yQ (B7 ?_))))));refine H9 (fun i:Nat=>⟨52,[(4,.d (dS b)),(5,.d (dB true)),(6,.d (dI i))],[],[]⟩) (fun i=>i<=b.length∧(b.take i).all U7=true) (fun i=>b.length-i) 0 ⟨E7 _,C⟩ ⟨rfl,⟨E6,E6,E6,D3⟩,D3,D3,C⟩ ?_
   rintro i ⟨hi,hal⟩
   refine B2 (D7 (B6 C (B6 C (N3 C (yB C C C C (yQ (B3 ?_)))))));refine Bs C (fun h=>?_) (fun h=>?_)
   . simp at h
     obtain⟨y,hy⟩:=DJ h
     have hy':b[(i:Int).toNat]? = some y:=hy
     have hw:=I8 ((i:Int)+1) (by omega)
     by_cases h1:y.toNat<48
     . have t1:decide ((y.toNat:Int)<48)=true:=by simpa using by omega
       have hf:=DH hy (p:=U7) (by rw[Bool.eq_false_iff,ne_eq,Cs];omega)
       rw[hf]at hd
       rw[hd]
       refine B1 (B2 (B7 (D7 (B6 C (B6 C (U9 hy' (by omega) C C (yB C C C C (B6 C ?_))))))))
       rw[t1]
       refine yO C (yO C (yO C (yO C (L0 C C (yQ (G2 C (D7 (H3 C (H3 C ?_)))))))));refine yQ (C4 (C3 (A5 (A5 (C3 (A5 ?_))))))
       exact Y7 C C C
     . have t1:decide ((y.toNat:Int)<48)=false:=by simpa using by omega
       by_cases h2:y.toNat > 57
       . have t2:decide ((y.toNat:Int) > 57)=true:=by simpa using by omega
         have hf:=DH hy (p:=U7) (by rw[Bool.eq_false_iff,ne_eq,Cs];omega)
         rw[hf]at hd
         rw[hd]
         refine B1 (B2 (B7 (D7 (B6 C (B6 C (U9 hy' (by omega) C C (yB C C C C (B6 C ?_))))))))
         rw[t1]
         refine B6 C (B6 C (U9 hy' (by omega) C C (yB C C C C (K9 C C (yQ (B3 ?_))))))
         rw[t2]
         refine G2 C (D7 (H3 C (H3 C (yQ (C4 (C3 (A5 (A5 (C3 ?_)))))))));refine A5 ?_
         exact Y7 C C C
       . have t2:decide ((y.toNat:Int) > 57)=false:=by simpa using by omega
         refine B1 (B2 (B7 (D7 (B6 C (B6 C (U9 hy' (by omega) C C (yB C C C C (B6 C ?_))))))))
         rw[t1]
         refine B6 C (B6 C (U9 hy' (by omega) C C (yB C C C C (K9 C C (yQ (B3 ?_))))))
         rw[t2]
         refine D8 C (B1 (B4 (B6 C (yB C C C C (H3 C (yQ (B3 ?_)))))))
         refine⟨i+1,⟨by omega,AK hy hal ((Cs y).2 (by omega))⟩,by omega,rfl,⟨E6,E6,P2 hw,D3⟩,D3,D3,rfl⟩
   . simp at h
     have hall:b.all U7=true:=by rw[E3 (by omega)]at hal;exact hal
     rw[hall]at hd
     have hd2:r=(b.dropWhile (· == 48),!(b.dropWhile (· == 48)).isEmpty):=by rw[hd];simp
     refine F9 (B2 (B7 ?_));refine H9 (fun z:F6=>⟨52,[(4,.d (dS z)),(5,.d (dB true))],[],[]⟩) (fun z=>z.dropWhile (· == 48)=b.dropWhile (· == 48)∧z.length<=b.length) (fun z=>z.length) b ⟨rfl,E0 _⟩ ⟨rfl,⟨E6,E6,D3⟩,D3,D3,C⟩ ?_
     rintro z ⟨hz,hzl⟩
     cases z with
     | nil=>
      rw[<-hz]at hd2
      rw[hd2]
      refine B2 (D7 (B6 C (N3 C (yB C C C C (B6 C (yO C (yO C (yO C (K9 C C ?_)))))))));refine yQ (D8 C (F9 (D7 (B6 C (B6 C (B6 C (B6 C (N3 C (yB C C C C ?_)))))))));refine L0 C C (H3 C (H3 C (yQ (C4 ?_))))
      exact Y7 C C C
     | cons y z=>
      have hp2:decide (((y::z:F6).length:Int) > 0)=true:=by simp
      have hy0:(y::z:F6)[(0:Int).toNat]? = some y:=rfl
      by_cases h0:y=48
      . subst h0
        refine B2 (D7 (B6 C (N3 C (yB C C C C (B6 C ?_)))))
        rw[hp2]
        refine B6 C (U9 hy0 (by omega) C C (yB C C C C (L0 C C (yQ (G2 C (B1 (B7 (B4 (B6 C ?_)))))))));refine V3 (l':=z) (by omega) (by simp;omega) C C C ?_;refine H3 C (yQ (BA (B3 ?_)))
        refine⟨z,⟨by rw[<-hz];rfl,by simp at hzl;omega⟩,by simp,rfl,⟨E6,E6,D3⟩,D3,D3,rfl⟩
      . have t0:((y.toNat:Int)==48)=false:=by
         rw[Bool.eq_false_iff]
         intro e
         apply h0
         apply UInt8.toNat_inj.1
         simp at e ⊢
         omega
        have hz2:(y::z:F6).dropWhile (· == 48)=y::z:=by rw[List.dropWhile_cons,B5 (by simpa using h0)]
        rw[<-hz,hz2]at hd2
        rw[hd2]
        refine B2 (D7 (B6 C (N3 C (yB C C C C (B6 C ?_)))))
        rw[hp2]
        refine B6 C (U9 hy0 (by omega) C C (yB C C C C (L0 C C (yQ (B3 ?_)))))
        rw[t0]
        refine D8 C (F9 (D7 (B6 C (B6 C (B6 C (B6 C (N3 C (yB C C C C (L0 C C ?_)))))))));refine H3 C (H3 C (yQ (C4 ?_)))
        rw[hp2]
        skip
        exact Y7 C C C
  | false=>
   have hl1:b=x::l:=by simpa using hbn
   rw[<-hl1]
   refine D8 C (B1 (B2 (D7 (H3 C (yQ (B7 ?_))))));refine H9 (fun i:Nat=>⟨52,[(4,.d (dS b)),(5,.d (dB false)),(6,.d (dI i))],[],[]⟩) (fun i=>i<=b.length∧(b.take i).all U7=true) (fun i=>b.length-i) 0 ⟨E7 _,C⟩ ⟨rfl,⟨E6,E6,E6,D3⟩,D3,D3,C⟩ ?_
   rintro i ⟨hi,hal⟩
   refine B2 (D7 (B6 C (B6 C (N3 C (yB C C C C (yQ (B3 ?_)))))));refine Bs C (fun h=>?_) (fun h=>?_)
   . simp at h
     obtain⟨y,hy⟩:=DJ h
     have hy':b[(i:Int).toNat]? = some y:=hy
     have hw:=I8 ((i:Int)+1) (by omega)
     by_cases h1:y.toNat<48
     . have t1:decide ((y.toNat:Int)<48)=true:=by simpa using by omega
       have hf:=DH hy (p:=U7) (by rw[Bool.eq_false_iff,ne_eq,Cs];omega)
       rw[hf]at hd
       rw[hd]
       refine B1 (B2 (B7 (D7 (B6 C (B6 C (U9 hy' (by omega) C C (yB C C C C (B6 C ?_))))))))
       rw[t1]
       refine yO C (yO C (yO C (yO C (L0 C C (yQ (G2 C (D7 (H3 C (H3 C ?_)))))))));refine yQ (C4 (C3 (A5 (A5 (C3 (A5 ?_))))))
       exact Y7 C C C
     . have t1:decide ((y.toNat:Int)<48)=false:=by simpa using by omega
       by_cases h2:y.toNat > 57
       . have t2:decide ((y.toNat:Int) > 57)=true:=by simpa using by omega
         have hf:=DH hy (p:=U7) (by rw[Bool.eq_false_iff,ne_eq,Cs];omega)
         rw[hf]at hd
         rw[hd]
         refine B1 (B2 (B7 (D7 (B6 C (B6 C (U9 hy' (by omega) C C (yB C C C C (B6 C ?_))))))))
         rw[t1]
         refine B6 C (B6 C (U9 hy' (by omega) C C (yB C C C C (K9 C C (yQ (B3 ?_))))))
         rw[t2]
         refine G2 C (D7 (H3 C (H3 C (yQ (C4 (C3 (A5 (A5 (C3 ?_)))))))));refine A5 ?_
         exact Y7 C C C
       . have t2:decide ((y.toNat:Int) > 57)=false:=by simpa using by omega
         refine B1 (B2 (B7 (D7 (B6 C (B6 C (U9 hy' (by omega) C C (yB C C C C (B6 C ?_))))))))
         rw[t1]
         refine B6 C (B6 C (U9 hy' (by omega) C C (yB C C C C (K9 C C (yQ (B3 ?_))))))
         rw[t2]
         refine D8 C (B1 (B4 (B6 C (yB C C C C (H3 C (yQ (B3 ?_)))))))
         refine⟨i+1,⟨by omega,AK hy hal ((Cs y).2 (by omega))⟩,by omega,rfl,⟨E6,E6,P2 hw,D3⟩,D3,D3,rfl⟩
   . simp at h
     have hall:b.all U7=true:=by rw[E3 (by omega)]at hal;exact hal
     rw[hall]at hd
     have hd2:r=(b.dropWhile (· == 48),false):=by rw[hd];simp
     refine F9 (B2 (B7 ?_));refine H9 (fun z:F6=>⟨52,[(4,.d (dS z)),(5,.d (dB false))],[],[]⟩) (fun z=>z.dropWhile (· == 48)=b.dropWhile (· == 48)∧z.length<=b.length) (fun z=>z.length) b ⟨rfl,E0 _⟩ ⟨rfl,⟨E6,E6,D3⟩,D3,D3,C⟩ ?_
     rintro z ⟨hz,hzl⟩
     cases z with
     | nil=>
      rw[<-hz]at hd2
      rw[hd2]
      refine B2 (D7 (B6 C (N3 C (yB C C C C (B6 C (yO C (yO C (yO C (K9 C C ?_)))))))));refine yQ (D8 C (F9 (D7 (B6 C (B6 C (B6 C (yO C (yO C (yO C ?_)))))))));refine K9 C C (H3 C (H3 C (yQ (C4 ?_))))
      exact Y7 C C C
     | cons y z=>
      have hp2:decide (((y::z:F6).length:Int) > 0)=true:=by simp
      have hy0:(y::z:F6)[(0:Int).toNat]? = some y:=rfl
      by_cases h0:y=48
      . subst h0
        refine B2 (D7 (B6 C (N3 C (yB C C C C (B6 C ?_)))))
        rw[hp2]
        refine B6 C (U9 hy0 (by omega) C C (yB C C C C (L0 C C (yQ (G2 C (B1 (B7 (B4 (B6 C ?_)))))))));refine V3 (l':=z) (by omega) (by simp;omega) C C C ?_;refine H3 C (yQ (BA (B3 ?_)))
        refine⟨z,⟨by rw[<-hz];rfl,by simp at hzl;omega⟩,by simp,rfl,⟨E6,E6,D3⟩,D3,D3,rfl⟩
      . have t0:((y.toNat:Int)==48)=false:=by
         rw[Bool.eq_false_iff]
         intro e
         apply h0
         apply UInt8.toNat_inj.1
         simp at e ⊢
         omega
        have hz2:(y::z:F6).dropWhile (· == 48)=y::z:=by rw[List.dropWhile_cons,B5 (by simpa using h0)]
        rw[<-hz,hz2]at hd2
        rw[hd2]
        refine B2 (D7 (B6 C (N3 C (yB C C C C (B6 C ?_)))))
        rw[hp2]
        refine B6 C (U9 hy0 (by omega) C C (yB C C C C (L0 C C (yQ (B3 ?_)))))
        rw[t0]
        refine D8 C (F9 (D7 (B6 C (B6 C (B6 C (yO C (yO C (yO C (K9 C C ?_)))))))));refine H3 C (H3 C (yQ (C4 ?_)))
        exact Y7 C C C
theorem Ax (a:F6) (ha:a.length<=1000000000):PCalls Tryz.prog 204 [dS a] (.d (dS (J3 (val a)))):=by
 have c1:=Af a (by omega)
 have hc:=Bi a
 have hl:=DF a
 obtain⟨z,hz⟩:=H8 (J3 (val a))
 rw[<-hz]at hc hl ⊢
 obtain⟨⟨x,y⟩,hd⟩:=H8 (L9 a)
 rw[<-hd]at c1 hc
 refine L5 Tryz.func204 C Tryz.ntmps204 Tryz.results204 fun B w0=>?_
 cases y with
 | false=>
  refine D7 (H3 C (yQ (D7 (B6 C (yC (c1) C C (N9 C (yX C C (yX C C (H3 C ?_)))))))));refine H3 C (yQ (B2 (D7 (B6 C (yQ (D8 C (B1 (D7 (B6 C ?_)))))))));refine H3 C (yQ (C4 ?_))
  exact J5 _ (.tmp C .nil) (by rw[hc];rfl)
 | true=>
  have hx:x.length+1<=1000000000:=by rw[hc]at hl;simp at hl;omega
  refine D7 (H3 C (yQ (D7 (B6 C (yC (c1) C C (N9 C (yX C C (yX C C (H3 C ?_)))))))));refine H3 C (yQ (B2 (D7 (B6 C (yQ (G2 C (D7 (B6 C ?_))))))));refine O2 (l1:=[45]) (l2:=x) (by simp;omega) C C ?_;refine H3 C (yQ (C4 (A5 ?_)))
  exact J5 _ (.tmp C .nil) (by rw[hc];rfl)
theorem isC_beq (a:F6):Cu a=(J3 (val a)==a):=by
 unfold Cu
 rw[Bool.eq_iff_iff,decide_eq_true_eq,beq_iff_eq]
theorem wRCheck (a:F6) (ha:a.length<=1000000000):PCalls Tryz.prog 160 [dS a] (.d (dI (if Cu a then 0 else 1))):=by
 have c1:=Ax a ha
 have hi:=isC_beq a
 obtain⟨z,hz⟩:=H8 (J3 (val a))
 rw[<-hz]at hi c1
 refine L5 Tryz.func160 C Tryz.ntmps160 Tryz.results160 fun B w0=>?_
 rw[hi]
 cases h:(z==a) with
 | true=>
  refine D7 (H3 C (yQ (B2 (D7 (B6 C (yC (c1) C C (B6 C (L8 C C (yQ ?_)))))))));refine B3 ?_;rw[h];refine D8 C (B1 (D7 (H3 C (yQ (C4 ?_)))))
  exact M5 C C
 | false=>
  refine D7 (H3 C (yQ (B2 (D7 (B6 C (yC (c1) C C (B6 C (L8 C C (yQ ?_)))))))));refine B3 ?_;rw[h];refine G2 C (D7 (H3 C (yQ (C4 (A5 ?_)))))
  exact M5 C C
theorem K8 {l l':List SV} (h:l=l'):MR l l':=h ▸ H5 l
theorem KK (f:α->DV) (l:List α):Ag (l.map fun a=>SV.d (f a))=some (l.map f):=by
 induction l with
 | nil=>rfl
 | cons x l ih=>simp[Ag,toD,ih]
theorem Pj (f:α->DV) (l:List α):O9 1 l.length (l.map f)=l.map fun a=>[f a]:=by
 induction l with
 | nil=>rfl
 | cons x l ih=>simp[O9,ih]
def SL (b:UInt8):Bool:=(decide (97<=b.toNat)&&decide (b.toNat<=122))||U7 b||b==95
def I4 (s:F6):Bool:=decide (1<=s.length)&&decide (s.length<=16)&&s.all SL
theorem Nn (h:SL b=true):(decide ((b.toNat:Int)<97)=false∧decide ((b.toNat:Int) > 122)=false)∨(decide ((b.toNat:Int)<97)=true∧decide ((b.toNat:Int)<48)=false∧decide ((b.toNat:Int) > 57)=false) ∨
 (decide ((b.toNat:Int)<97)=true∧decide ((b.toNat:Int)<48)=false∧decide ((b.toNat:Int) > 57)=true∧((b.toNat:Int) != 95)=false):=by
 simp only[SL,U7,Bool.or_eq_true,D1,decide_eq_true_eq,beq_iff_eq]at h
 rcases h with(h|h)|h
 . left;constructor<;>simp<;>omega
 . right;left;refine⟨?_,?_,?_⟩<;>simp<;>omega
 . subst h;right;right;decide
theorem SK (h:SL b=false):(decide ((b.toNat:Int)<97)=false∧decide ((b.toNat:Int) > 122)=true∧decide ((b.toNat:Int)<48)=false∧decide ((b.toNat:Int) > 57)=true∧((b.toNat:Int) != 95)=true) ∨
 (decide ((b.toNat:Int)<97)=true∧decide ((b.toNat:Int)<48)=true∧((b.toNat:Int) != 95)=true)∨(decide ((b.toNat:Int)<97)=true∧decide ((b.toNat:Int)<48)=false∧decide ((b.toNat:Int) > 57)=true∧((b.toNat:Int) != 95)=true):=by
 rw[Bool.eq_false_iff]at h
 simp only[SL,U7,Bool.or_eq_true,D1,decide_eq_true_eq,beq_iff_eq,ne_eq,not_or,not_and]at h
 obtain⟨⟨h1,h2⟩,h3⟩:=h
 have h4:b.toNat≠95:=fun e=>h3 (UInt8.toNat_inj.1 e)
 have h5:((b.toNat:Int) != 95)=true:=by simp;omega
 by_cases k1:b.toNat<97
 . by_cases k2:b.toNat<48
   . right;left;refine⟨?_,?_,h5⟩<;>simp<;>omega
   . right;right;refine⟨?_,?_,?_,h5⟩<;>simp<;>omega
 . left;refine⟨?_,?_,?_,?_,h5⟩<;>simp<;>omega
theorem QL (s:F6) (hs:s.length<=9223372036854775806):PCalls Tryz.prog 158 [dS s] (.d (dB (I4 s))):=by
 obtain⟨r,hr⟩:=H8 (I4 s)
 rw[<-hr]
 refine L5 Tryz.func158 C Tryz.ntmps158 Tryz.results158 fun B w0=>?_
 refine D7 (H3 C (yQ (B2 (D7 (H3 C (yQ (B7 ?_)))))));refine H9 (fun i:Nat=>⟨40,[(0,.d (dS s)),(3,.d (dI i))],[],[]⟩) (fun i=>i<=s.length∧(s.take i).all SL=true) (fun i=>s.length-i) 0 ⟨E7 _,C⟩ ⟨rfl,⟨E6,E6,D3⟩,D3,D3,C⟩ ?_
 rintro i ⟨hi,hal⟩
 refine B2 (D7 (B6 C (B6 C (N3 C (yB C C C C (yQ (B3 ?_)))))));refine Bs C (fun h=>?_) (fun h=>?_)
 . simp at h
   obtain⟨y,hy⟩:=DJ h
   have hy':s[(i:Int).toNat]? = some y:=hy
   have hw:=I8 ((i:Int)+1) (by omega)
   cases hN:SL y with
   | true=>
    rcases Nn hN with⟨t1,t2⟩|⟨t1,t2,t3⟩|⟨t1,t2,t3,t4⟩
    . refine B1 (B2 (B7 (D7 (B6 C (B6 C (U9 hy' (by omega) C C (H3 C (yQ (B2 ?_)))))))))
      refine B4 (B6 C (yB C C C C (B6 C ?_)));rw[t1];refine B6 C (yB C C C C (K9 C C (B6 C ?_)));rw[t2];refine yO C (yO C (yO C (yO C (yO C (yO C (K9 C C (B6 C (yO C (yO C ?_)))))))));refine K9 C C (yQ (D8 C (B1 (B4 (B6 C (yB C C C C (H3 C (yQ (B3 ?_)))))))))
      refine⟨i+1,⟨by omega,AK hy hal hN⟩,by omega,rfl,⟨E6,P2 hw,D3⟩,D3,D3,rfl⟩
    . refine B1 (B2 (B7 (D7 (B6 C (B6 C (U9 hy' (by omega) C C (H3 C (yQ (B2 ?_)))))))))
      refine B4 (B6 C (yB C C C C (B6 C ?_)));rw[t1];refine yO C (yO C (L0 C C (B6 C (B6 C (yB C C C C (B6 C ?_))))));rw[t2];refine B6 C (yB C C C C (K9 C C (L0 C C (B6 C ?_))));rw[t3];refine yO C (yO C (K9 C C (yQ (D8 C (B1 (B4 (B6 C (yB C C C C (H3 C ?_)))))))));refine yQ (B3 ?_)
      refine⟨i+1,⟨by omega,AK hy hal hN⟩,by omega,rfl,⟨E6,P2 hw,D3⟩,D3,D3,rfl⟩
    . refine B1 (B2 (B7 (D7 (B6 C (B6 C (U9 hy' (by omega) C C (H3 C (yQ (B2 ?_)))))))))
      refine B4 (B6 C (yB C C C C (B6 C ?_)));rw[t1];refine yO C (yO C (L0 C C (B6 C (B6 C (yB C C C C (B6 C ?_))))));rw[t2];refine B6 C (yB C C C C (K9 C C (L0 C C (B6 C ?_))));rw[t3];refine B6 C (yB C C C C (L0 C C (yQ (B3 ?_))));rw[t4];refine D8 C (B1 (B4 (B6 C (yB C C C C (H3 C (yQ (B3 ?_)))))))
      refine⟨i+1,⟨by omega,AK hy hal hN⟩,by omega,rfl,⟨E6,P2 hw,D3⟩,D3,D3,rfl⟩
   | false=>
    have hf:=DH hy hN
    have e:r=false:=by rw[hr,I4,hf];simp
    rw[e]
    rcases SK hN with⟨t1,t2,t3,t4,t5⟩|⟨t1,t2,t3⟩|⟨t1,t2,t3,t4⟩
    . refine B1 (B2 (B7 (D7 (B6 C (B6 C (U9 hy' (by omega) C C (H3 C (yQ (B2 ?_)))))))))
      refine B4 (B6 C (yB C C C C (B6 C ?_)));rw[t1];refine B6 C (yB C C C C (K9 C C (B6 C ?_)));rw[t2];refine B6 C (yB C C C C (B6 C ?_));rw[t3];refine B6 C (yB C C C C (K9 C C (L0 C C (B6 C ?_))));rw[t4];refine B6 C (yB C C C C (L0 C C (yQ (B3 ?_))));rw[t5];refine G2 C (D7 (H3 C (yQ (C4 (C3 (A5 (A5 (C3 (A5 ?_)))))))))
      exact M5 C C
    . refine B1 (B2 (B7 (D7 (B6 C (B6 C (U9 hy' (by omega) C C (H3 C (yQ (B2 ?_)))))))))
      refine B4 (B6 C (yB C C C C (B6 C ?_)));rw[t1];refine yO C (yO C (L0 C C (B6 C (B6 C (yB C C C C (B6 C ?_))))));rw[t2];refine yO C (yO C (L0 C C (L0 C C (B6 C (B6 C (yB C C C C (L0 C C (yQ (B3 ?_)))))))))
      rw[t3];refine G2 C ?_;refine B2 ?_;refine B4 ?_;refine H3 C ?_;refine yQ ?_;refine C4 ?_;refine C3 ?_;refine A5 ?_;refine A5 ?_;refine C3 ?_;refine A5 ?_
      exact M5 C C
    . refine B1 (B2 (B7 (D7 (B6 C (B6 C (U9 hy' (by omega) C C (H3 C (yQ (B2 ?_)))))))))
      refine B4 (B6 C (yB C C C C (B6 C ?_)));rw[t1];refine yO C (yO C (L0 C C (B6 C (B6 C (yB C C C C (B6 C ?_))))));rw[t2];refine B6 C (yB C C C C (K9 C C (L0 C C (B6 C ?_))));rw[t3];refine B6 C (yB C C C C (L0 C C (yQ (B3 ?_))));rw[t4];refine G2 C (D7 (H3 C (yQ (C4 (C3 (A5 (A5 (C3 (A5 ?_)))))))))
      exact M5 C C
 . simp at h
   have hall:s.all SL=true:=by rw[E3 (by omega)]at hal;exact hal
   by_cases h1:1<=s.length
   . have t1:decide ((s.length:Int) ≥ 1)=true:=B0 (by omega)
     refine F9 (D7 (B6 C (N3 C (yB C C C C (B6 C ?_)))));rw[t1];refine B6 C (N3 C (yB C C C C (L0 C C (H3 C (yQ (C4 ?_))))))
     exact J5 _ (.tmp C .nil) (by rw[hr,I4,hall];simp[h1,AD];omega)
   . have t1:decide ((s.length:Int) ≥ 1)=false:=A7 (by omega)
     refine F9 (D7 (B6 C (N3 C (yB C C C C (B6 C ?_)))));rw[t1];refine yO C (yO C (yO C (K9 C C (H3 C (yQ (C4 ?_))))))
     exact J5 _ (.tmp C .nil) (by rw[hr,I4];simp[h1,AD])
theorem dBy_at {s:F6} {y:UInt8} (h:s[i]? = some y):(dBy s)[(i:Int).toNat]? = some [.val (.int .u8 y.toNat)]:=by
 rw[H1,C6,h];rfl
theorem KE (s:F6):PCalls Tryz.prog 120 [dS s] (.d (dB (I4 s))):=by
 obtain⟨r,hr⟩:=H8 (I4 s)
 rw[<-hr]
 refine L5 Tryz.func120 C Tryz.ntmps120 Tryz.results120 fun B w0=>?_
 by_cases h1:s.length=0
 . have t1:((s.length:Int)==0)=true:=by simp[h1]
   have e:r=false:=by rw[hr,I4,h1];simp
   rw[e]
   refine D7 (H3 C (yQ (B2 (D7 (B6 C (N3 C (yB C C C C (B6 C ?_))))))));rw[t1]
   refine yO C (yO C (yO C (L0 C C (yQ (G2 C (D7 (H3 C (yQ (C4 ?_)))))))));refine A5 ?_
   exact M5 C C
 have t1:((s.length:Int)==0)=false:=by simpa using fun e=>h1 (by rw[e];rfl)
 by_cases h2:s.length > 16
 . have t2:decide ((s.length:Int) > 16)=true:=by simpa using by omega
   have e:r=false:=by rw[hr,I4];simp;omega
   rw[e]
   refine D7 (H3 C (yQ (B2 (D7 (B6 C (N3 C (yB C C C C (B6 C ?_))))))));rw[t1]
   refine B6 C (N3 C (yB C C C C (K9 C C (yQ (B3 ?_)))));rw[t2];refine G2 C (D7 (H3 C (yQ (C4 (A5 ?_)))))
   exact M5 C C
 have t2:decide ((s.length:Int) > 16)=false:=by simpa using by omega
 refine D7 (H3 C (yQ (B2 (D7 (B6 C (N3 C (yB C C C C (B6 C ?_))))))));rw[t1]
 refine B6 C (N3 C (yB C C C C (K9 C C (yQ (B3 ?_)))));rw[t2];refine D8 C (B1 (B2 (D7 (B6 C ?_))));refine yTb (by omega) Tryz.underlying9 (by kernel_rfl) Tryz.underlying5 C ?_;refine yN C (B6 C (yQ (B7 ?_)));refine H9 (fun i:Nat=>⟨39,[(14,.d (.sl 1 (dBy s))),(15,.d (dI s.length)),(16,.d (dI i))],[],[]⟩) (fun i=>i<=s.length∧(s.take i).all SL=true) (fun i=>s.length-i) 0 ⟨E7 _,C⟩ ⟨rfl,⟨E6,FN (by simp),E6,D3⟩,D3,D3,C⟩ ?_
 rintro i ⟨hi,hal⟩
 refine D7 (yB C C C C (yQ (B2 ?_)));refine Bs C (fun h=>?_) (fun h=>?_)
 . simp at h
   obtain⟨y,hy⟩:=DJ h
   have hy':=dBy_at hy
   have hw:=I8 ((i:Int)+1) (by omega)
   cases hN:SL y with
   | true=>
    rcases Nn hN with⟨k1,k2⟩|⟨k1,k2,k3⟩|⟨k1,k2,k3,k4⟩
    . refine B1 (B2 (B7 (D7 (yW hy' (by omega) C C (K5 C C (H3 C (yQ (D7 ?_))))))))
      refine B6 C (yB C C C C (B6 C ?_));rw[k1];refine B6 C (yB C C C C (K9 C C (B6 C ?_)));rw[k2];refine yO C (yO C (yO C (yO C (yO C (yO C (K9 C C (B6 C (yO C (yO C ?_)))))))));refine K9 C C (yQ (D8 C (B1 (B4 (yB C C C C (B6 C (yQ (B3 ?_))))))))
      refine⟨i+1,⟨by omega,AK hy hal hN⟩,by omega,rfl,⟨E6,E6,P2 hw,D3⟩,D3,D3,rfl⟩
    . refine B1 (B2 (B7 (D7 (yW hy' (by omega) C C (K5 C C (H3 C (yQ (D7 ?_))))))))
      refine B6 C (yB C C C C (B6 C ?_));rw[k1];refine yO C (yO C (L0 C C (B6 C (B6 C (yB C C C C (B6 C ?_))))));rw[k2]
      refine B6 C (yB C C C C (K9 C C (L0 C C (B6 C ?_))));rw[k3];refine yO C (yO C (K9 C C (yQ (D8 C (B1 (B4 (yB C C C C (B6 C (yQ ?_)))))))));refine B3 ?_
      refine⟨i+1,⟨by omega,AK hy hal hN⟩,by omega,rfl,⟨E6,E6,P2 hw,D3⟩,D3,D3,rfl⟩
    . refine B1 (B2 (B7 (D7 (yW hy' (by omega) C C (K5 C C (H3 C (yQ (D7 ?_))))))))
      refine B6 C (yB C C C C (B6 C ?_));rw[k1];refine yO C (yO C (L0 C C (B6 C (B6 C (yB C C C C (B6 C ?_))))));rw[k2]
      refine B6 C (yB C C C C (K9 C C (L0 C C (B6 C ?_))));rw[k3];refine B6 C (yB C C C C (L0 C C (yQ (B3 ?_))))
      rw[k4];refine D8 C ?_;refine B1 ?_;refine B4 ?_;refine yB C C C C ?_;refine B6 C ?_;refine yQ ?_;refine B3 ?_
      refine⟨i+1,⟨by omega,AK hy hal hN⟩,by omega,rfl,⟨E6,E6,P2 hw,D3⟩,D3,D3,rfl⟩
   | false=>
    have hf:=DH hy hN
    have e:r=false:=by rw[hr,I4,hf];simp
    rw[e]
    rcases SK hN with⟨k1,k2,k3,k4,k5⟩|⟨k1,k2,k3⟩|⟨k1,k2,k3,k4⟩
    . refine B1 (B2 (B7 (D7 (yW hy' (by omega) C C (K5 C C (H3 C (yQ (D7 ?_))))))))
      refine B6 C (yB C C C C (B6 C ?_));rw[k1];refine B6 C (yB C C C C (K9 C C (B6 C ?_)));rw[k2];refine B6 C (yB C C C C (B6 C ?_));rw[k3];refine B6 C (yB C C C C (K9 C C (L0 C C (B6 C ?_))));rw[k4];refine B6 C (yB C C C C (L0 C C (yQ (B3 ?_))));rw[k5];refine G2 C (D7 (H3 C (yQ (C4 (C3 (A5 (A5 (C3 (A5 ?_)))))))))
      exact M5 C C
    . refine B1 (B2 (B7 (D7 (yW hy' (by omega) C C (K5 C C (H3 C (yQ (D7 ?_))))))))
      refine B6 C (yB C C C C (B6 C ?_));rw[k1];refine yO C (yO C (L0 C C (B6 C (B6 C (yB C C C C (B6 C ?_))))));rw[k2]
      refine yO C (yO C (L0 C C (L0 C C (B6 C (B6 C (yB C C C C (L0 C C (yQ (B3 ?_)))))))));rw[k3]
      refine G2 C (D7 (H3 C (yQ (C4 (C3 (A5 (A5 (C3 (A5 ?_)))))))))
      exact M5 C C
    . refine B1 (B2 (B7 (D7 (yW hy' (by omega) C C (K5 C C (H3 C (yQ (D7 ?_))))))))
      refine B6 C (yB C C C C (B6 C ?_));rw[k1];refine yO C (yO C (L0 C C (B6 C (B6 C (yB C C C C (B6 C ?_))))));rw[k2]
      refine B6 C (yB C C C C (K9 C C (L0 C C (B6 C ?_))));rw[k3];refine B6 C (yB C C C C (L0 C C (yQ (B3 ?_))))
      rw[k4];refine G2 C ?_;refine B2 ?_;refine B4 ?_;refine H3 C ?_;refine yQ ?_;refine C4 ?_;refine C3 ?_;refine A5 ?_;refine A5 ?_;refine C3 ?_;refine A5 ?_
      exact M5 C C
 . simp at h
   have hall:s.all SL=true:=by rw[E3 (by omega)]at hal;exact hal
   have e:r=true:=by rw[hr,I4,hall];simp;omega
   rw[e]
   refine F9 (D7 (H3 C (yQ (C4 ?_))))
   exact M5 C C
namespace Px
section
variable {P:Program} {sq:Bool} {ops:Array Oper} {K:PS->Prop} {rest:List Oper} {st:PS} {d:Option Nat} {ty:TypeId} {pos:String} {af:Array Edge} {gd:Option (Nat×Bool)}
theorem yBni {t t':Nat} {x:Operand} (hx:st.ev x=.d (.val .nilIface)) (hI:P.underlying t=some (.interface (P.methodsAt t)):=by kernel_rfl) (h:YR P sq ops K rest (st.put d (.d (.val (.bool false))))) (zz:zk ops st ⟨d,.binOp .neq t x (.const .nilIface) t',ty,pos,af,gd⟩ .no=true:=by kernel_rfl):
 YR P sq ops K (⟨d,.binOp .neq t x (.const .nilIface) t',ty,pos,af,gd⟩::rest) st:=M3 (Ap .neq t t' x (.const .nilIface) hx rfl (fun w=>by
  have e:(eqGuard .neq t x (.const .nilIface) .nilIface .nilIface >>= fun _=>binOp .neq t .nilIface .nilIface)=binOp .neq t .nilIface .nilIface:=by cases x<;>rfl
  rw[e]
  exact run_neq_nil_nil w t hI) C (zd zz)) (zo zz) (zw zz) h
end
end Px
theorem Nb (M:Nat) (hM:1000000000000000000<=M):∀ (t:F6) (acc k:Nat),t.all U7=true->acc<10 ^ k->k+t.length<=18->Lib.parseUintM M acc t=.ok (t.foldl (fun n b=>10*n+dv b) acc)
 | [],acc,k,_,_,_=>rfl
 | c::r,acc,k,h,ha,hk=>by
  rw[List.all_cons,D1]at h
  have hc:=Se h.1
  have h2:48<=c.toNat∧c.toNat<=57:=by have:=h.1;unfold U7 at this;simpa using this
  have hp:(10:Nat) ^ (k+1)<=10 ^ 18:=Nat.pow_le_pow_right (by omega) (by simp only[List.length_cons]at hk;omega)
  have e:(10:Nat) ^ (k+1)=10*10 ^ k:=by rw[Nat.pow_succ,Nat.mul_comm]
  have e2:acc*10+(c.toNat-48)=10*acc+dv c:=by unfold dv;omega
  have hlt:10*acc+dv c<10 ^ (k+1):=by omega
  have e18:(10:Nat) ^ 18=1000000000000000000:=by decide
  rw[Lib.parseUintM,B9 h2,B5 (by omega),e2,B5 (by omega),List.foldl_cons]
  exact Nb M hM r _ (k+1) h.2 hlt (by simp only[List.length_cons]at hk;omega)
theorem parse_b {t:F6} (h:t.all U7=true) (hn:t≠[]) (hl:t.length<=18):Lib.parseUintB 64 t=.ok (natOf t):=by
 rw[Lib.parseUintB,B5 hn]
 exact Nb _ (by decide) t 0 0 h (by decide) (by omega)
theorem wPUi {t:F6} (h:t.all U7=true) (hn:t≠[]) (hl:t.length<=18):PCalls Tryz.prog 233 [dS t,dI 10,dI 64] (.tup [dU (natOf t),.val .nilIface]):=
 PCalls.of_any (us:=[.int .u64 (natOf t),.nilIface]) rfl (by simp[Value.oneCell']) fun F w vals hl2 hr hg=>by
  obtain rfl:vals=[vS t,.int .i64 10,.int .i64 64]:=Fv (us:=[vS t,.int .i64 10,.int .i64 64]) hl2 hr
  refine(Any.internal_strconv_ParseUint_10_at64 Tryz.pu ⟨t.toArray⟩ (show t.toArray.size<=9223372036854775806 by rw[List.size_toArray];omega) w).mono ?_
  rintro e w' ⟨rfl,hw⟩
  have e2:Lib.parseUintB 64 (ByteArray.mk t.toArray).data.toList=.ok (natOf t):=parse_b h hn hl
  rw[e2]
  refine⟨rfl,?_⟩
  rcases hw with rfl|rfl
  . exact .refl _ _
  . exact Lib.bytesWorld_below w _ _
theorem wPU {t:F6} (h:t.all U7=true) (hn:t≠[]) (hl:t.length<=18):PCalls Tryz.prog 192 [dS t,dI 10,dI 64] (.tup [dU (natOf t),.val .nilIface]):=by
 have c1:=wPUi h hn hl
 obtain⟨n,hn⟩:=H8 (natOf t)
 rw[<-hn]at c1 ⊢
 refine L5 Tryz.func192 C Tryz.ntmps192 Tryz.results192 fun B w0=>?_
 refine D7 (H3 C (H3 C (yQ (D7 (B6 C (B6 C (B6 C (yC (c1) C C (N9 C ?_)))))))));refine yX C C (yX C C (H3 C (H3 C (yQ (B2 (D7 (B6 C ?_)))))));refine yBni C (h:=?_);refine yQ (D8 C (B1 (D7 (B6 C (H3 C (H3 C (yQ (C4 ?_))))))))
 exact Y7 C C C
open Go.RowKit Px
namespace Px
section
variable {P:Program} {sq:Bool} {ops:Array Oper} {K:PS->Prop} {rest:List Oper} {st:PS} {d:Option Nat} {ty:TypeId} {pos:String} {af:Array Edge} {gd:Option (Nat×Bool)}
end
end Px
variable {l:List Nat} {i x:Nat}
theorem rdG_at {t:F6} (h:9*i<t.length):(DL t)[i]? = some (natOf ((t.take (t.length-9*i)).drop (t.length-9*i-9))):=by
 induction i generalizing t with
 | zero=>
  rw[Du (by intro e;rw[e]at h;simp at h)]
  simp
 | succ i ih=>
  rw[Du (by intro e;rw[e]at h;simp at h),List.getElem?_cons_succ,ih (by rw[F4];omega),F4,List.take_take]
  have e1:min (t.length-9) t.length-9*i=t.length-9*(i+1):=by omega
  rw[e1,Nat.min_eq_left (by omega)]
theorem JO {t:F6} (h:t.length<=9*i):(DL t).length<=i:=by
 induction i generalizing t with
 | zero=>
  have:t=[]:=List.length_eq_zero_iff.1 (by omega)
  rw[this,Dv];simp
 | succ i ih=>
  by_cases hn:t=[]
  . rw[hn,Dv];simp
  . rw[Du hn,List.length_cons]
    have:=ih (t:=t.take (t.length-9)) (by rw[F4];omega)
    omega
theorem AE (t:F6):(DL t).length<=t.length:=by
 have:=JO (t:=t) (i:=t.length) (by omega)
 exact this
theorem Ka {t:F6} (h:9*i<t.length):(DL t).take (i+1)=(DL t).take i++[natOf ((t.take (t.length-9*i)).drop (t.length-9*i-9))]:=by
 rw[H4,rdG_at h];rfl
theorem AA (a:F6):(L9 a).1.length<=a.length:=by
 have hb:(BM a).length<=a.length:=by unfold BM;split<;>simp
 unfold L9
 split
 . exact D9 (List.dropWhile_suffix _).length_le hb
 . simp
theorem OM {t:F6} (h:t.all U7=true) (a b:Nat):((t.take a).drop b).all U7=true:=by
 rw[E5]at h ⊢
 exact fun x hx=>h x (List.mem_of_mem_take (List.mem_of_mem_drop hx))
abbrev dG (x:Nat):List DV:=[dU x]
abbrev dNum (b:Bool) (l:List Nat):List DV:=[dB b,.sl 1 (l.map dG)]
abbrev mgT:Nat:=198*100000+5
theorem NA (a:F6) (ha:a.length<=1000000):PCalls Tryz.prog 142 [dS a] (.d (.agg (dNum (L9 a).2 (DL (L9 a).1)))):=by
 have c1:=JA a (by omega)
 have hl:(L9 a).1.length<=1000000:=D9 (AA a) ha
 have hD:=U8 a
 obtain⟨t,ht⟩:=H8 ((L9 a).1)
 obtain⟨b,hb⟩:=H8 ((L9 a).2)
 rw[<-ht,<-hb]at c1
 rw[<-ht]at hl hD
 rw[<-ht,<-hb]
 clear ht hb
 have hsz:=AE t
 obtain⟨g,hg⟩:=H8 (DL t)
 refine L5 Tryz.func142 C Tryz.ntmps142 Tryz.results142 fun B w0=>?_
 refine D7 (yZ (cs:=[_,_]) C C (yQ (D7 (B6 C (yC (c1) C C (N9 C (yX C C (yX C C (H3 C ?_)))))))));refine H3 C (yQ (D7 (H3 C (yQ ?_))));refine JP 5 mgT 1 C C C ?_;refine B2 (D7 (B6 C (N3 C (H3 C (yQ (B7 ?_))))));refine H9 (fun i:Nat=>⟨37,[(2,.bx 2 0),(3,.d (dS t)),(4,.d (dB b)),(5,.ts mgT 1 (((DL t).take i).map dG)),(6,.d (dI ((t.length:Int)-9*i)))],[(2,[.d (dB false),.d (.val (.slice none 0 0))])],[(mgT,(((DL t).take i).map dG).length)]⟩) (fun i=>9*i<t.length+9) (fun i=>t.length+9-9*i) 0 (by omega)
  ⟨rfl,⟨E6,E6,E6,E6,.of_eq (G4 (fun n:Int=>SV.d (dI n)) (by simp)),D3⟩,⟨⟨_,rfl,E6,E6,D3⟩,D3⟩,⟨rfl,D3⟩,rfl⟩ ?_
 intro i hi
 refine B2 (D7 (B6 C (yB C C C C (yQ (B3 ?_)))));refine Bs C (fun h=>?_) (fun h=>?_)
 . simp at h
   have h9:9*i<t.length:=by omega
   have hn:=Ka h9
   have hx:(t.take ((t.length:Int)-9*i).toNat).drop (((t.length-9*i-9:Nat):Int)).toNat=(t.take (t.length-9*i)).drop (t.length-9*i-9):=by
    rw[H1,(by omega:((t.length:Int)-9*i).toNat=t.length-9*i)]
   have hlen:((t.take (t.length-9*i)).drop (t.length-9*i-9)).length<=9:=by rw[M7,F4];omega
   have hlen0:0<((t.take (t.length-9*i)).drop (t.length-9*i-9)).length:=by rw[M7,F4];omega
   have c2:=wPU (OM hD (t.length-9*i) (t.length-9*i-9)) (by intro e;rw[e]at hlen0;simp at hlen0) (by omega)
   have hw1:IntKind.i64.wrap ((t.length:Int)-9*i-9)=(t.length:Int)-9*i-9:=I8 _ (by omega)
   have hm:(if (t.length:Int)-9*i-9 > 0 then (t.length:Int)-9*i-9 else 0)=((t.length-9*i-9:Nat):Int):=by split<;>omega
   obtain⟨x,hxx⟩:=H8 (natOf ((t.take (t.length-9*i)).drop (t.length-9*i-9)))
   rw[<-hxx]at c2 hn
   obtain⟨s,hs⟩:=H8 ((t.take (t.length-9*i)).drop (t.length-9*i-9))
   rw[<-hs]at c2 hx
   obtain⟨zs,hzs⟩:=H8 ((DL t).take i)
   have hzl:zs.length<=1000000:=by rw[hzs,F4];omega
   rw[<-hzs]at hn ⊢
   refine B1 (B2 (B7 (D7 (B6 C (B6 C (yB C C C C (yI C C C (B6 C ?_))))))));rw[hw1];rw[hm]
   refine ySlh (by omega) (by omega) (by omega) hx C C C (yC (c2) C C (N9 C (yX C C (yX C C (H3 C (H3 C (yQ (B4 (CM C ?_)))))))));refine B6 C ?_;refine yR (es:=[[_]]) C C C C C ?_;refine yT (es':=(zs++[x]).map dG) (m:=((zs++[x]).map dG).length) (by simp;omega) (by simp;omega) C C C C C (by simp) (by simp) ?_;refine DX C (yQ (B4 (B6 C (yB C C C C (H3 C (yQ (B3 ?_)))))));rw[hw1]
   refine⟨i+1,by omega,by omega,rfl,⟨E6,E6,E6,.of_eq (by rw[hn];rfl),.of_eq (G4 (fun n=>SV.d (dI n)) (by omega)),D3⟩,⟨⟨_,rfl,E6,E6,D3⟩,D3⟩,⟨(by rw[hn];rfl),D3⟩,rfl⟩
 . simp at h
   have e:(DL t).take i=DL t:=E3 (JO (by omega))
   rw[e]
   refine F9 (D7 (B6 C (CM C (yG (ys:=[_,_]) C C (yS (cs':=[_,_]) C C C C C (yQ (C4 ?_)))))))
   exact J5 _ (.agg D6 C C C C .nil) C
def S0 (l:List Nat) (i:Nat):Nat:=l[i]?.getD 0
theorem CC (h:gok l) (i:Nat):S0 l i<1000000000:=by
 unfold S0
 cases e:l[i]? with
 | none=>simp
 | some x=>exact h x (B8 e)
theorem Di (h:l.length<=i):S0 l i=0:=by unfold S0;rw[I0 h];rfl
theorem V9 (h:l[i]? = some x):S0 l i=x:=by unfold S0;rw[h];rfl
theorem X5 (l:List Nat) (i:Nat):K6 (l.take (i+1))=K6 (l.take i)+1000000000 ^ i*S0 l i:=by
 rcases D5 i l.length with h|h
 . rw[H4,Cd,A4 h,V9 (A4 h)]
   simp[K6,Nat.min_eq_left (Nat.le_of_lt h)]
 . rw[E3 (by omega),E3 h,Di h]
   simp
theorem Bb (l:List Nat) (x:Nat):K6 (l++[x])=K6 l+1000000000 ^ l.length*x:=by rw[Cd];simp[K6]
theorem EN (h:gok l) (hx:x<1000000000):gok (l++[x]):=Ha.2 ⟨h,by intro y hy;have:y=x:=(by simpa using hy);omega⟩
/-! sums -/
def P9 (m n:List Nat):Nat->List Nat×Nat
 | 0=>([],0)
 | i+1=>((P9 m n i).1++[(S0 m i+(P9 m n i).2+S0 n i) % 1000000000],(S0 m i+(P9 m n i).2+S0 n i) / 1000000000)
theorem Aa {m n:List Nat} (hm:gok m) (hn:gok n) (i:Nat):(P9 m n i).1.length=i∧gok (P9 m n i).1∧(P9 m n i).2<=1∧K6 (P9 m n i).1+1000000000 ^ i*(P9 m n i).2=K6 (m.take i)+K6 (n.take i):=by
 induction i with
 | zero=>simp[P9,K6,gok]
 | succ i ih=>
  obtain⟨h1,h2,h3,h4⟩:=ih
  have a1:=CC hm i
  have a2:=CC hn i
  obtain⟨v,hv⟩:=H8 (S0 m i+(P9 m n i).2+S0 n i)
  rw[P9,<-hv]
  refine⟨by simp[h1],EN h2 (by omega),by show v / 1000000000<=1;omega,?_⟩
  show K6 ((P9 m n i).1++[v % 1000000000])+1000000000 ^ (i+1)*(v / 1000000000)=_
  rw[Bb,h1,X5,X5,Nat.pow_succ]
  obtain⟨p,hp⟩:=H8 (1000000000 ^ i)
  rw[<-hp]at h4 ⊢
  have e1:p*(v % 1000000000)+p*1000000000*(v / 1000000000)=p*v:=by
   rw[Nat.mul_assoc,<-Nat.mul_add,Nat.mod_add_div]
  have e2:p*v=p*S0 m i+p*(P9 m n i).2+p*S0 n i:=by rw[hv,Nat.mul_add,Nat.mul_add]
  omega
def BS (m n:List Nat):List Nat:=(P9 m n (max m.length n.length)).1++(if 0<(P9 m n (max m.length n.length)).2 then [(P9 m n (max m.length n.length)).2]else [])
theorem Po (m n:List Nat) (i:Nat):P9 m n i=P9 n m i:=by
 induction i with
 | zero=>rfl
 | succ i ih=>rw[P9,P9,ih,show S0 m i+(P9 n m i).2+S0 n i=S0 n i+(P9 n m i).2+S0 m i by omega]
theorem Lx (m n:List Nat):BS m n=BS n m:=by unfold BS;rw[Po,Nat.max_comm]
theorem Lw {m n:List Nat} (hm:gok m) (hn:gok n):gok (BS m n)∧K6 (BS m n)=K6 m+K6 n:=by
 obtain⟨h1,h2,h3,h4⟩:=Aa hm hn (max m.length n.length)
 rw[E3 (by omega),E3 (by omega)]at h4
 unfold BS
 split
 . refine⟨EN h2 (by omega),?_⟩
   rw[Bb,h1]
   exact h4
 . rename_i h
   rw[show(P9 m n (max m.length n.length)).2=0 by omega]at h4
   simpa using ⟨h2,h4⟩
/-! differences -/
def R6 (m n:List Nat):Nat->List Nat×Nat
 | 0=>([],0)
 | i+1=>if S0 m i<(R6 m n i).2+S0 n i then ((R6 m n i).1++[S0 m i+1000000000-((R6 m n i).2+S0 n i)],1)else ((R6 m n i).1++[S0 m i-((R6 m n i).2+S0 n i)],0)
theorem AX {m n:List Nat} (hm:gok m) (hn:gok n) (i:Nat):(R6 m n i).1.length=i∧gok (R6 m n i).1∧(R6 m n i).2<=1∧K6 (R6 m n i).1+K6 (n.take i)=K6 (m.take i)+1000000000 ^ i*(R6 m n i).2:=by
 induction i with
 | zero=>simp[R6,K6,gok]
 | succ i ih=>
  obtain⟨h1,h2,h3,h4⟩:=ih
  have a1:=CC hm i
  have a2:=CC hn i
  rw[X5,X5,Nat.pow_succ]
  obtain⟨c,hc⟩:=H8 ((R6 m n i).2)
  obtain⟨p,hp⟩:=H8 (1000000000 ^ i)
  rw[R6]
  rw[<-hc]at h3 h4 ⊢
  rw[<-hp]at h4 ⊢
  split
  . rename_i h
    refine⟨by simp[h1],EN h2 (by omega),E0 _,?_⟩
    simp only
    rw[Bb,h1,<-hp]
    obtain⟨d,hd⟩:=H8 (S0 m i+1000000000-(c+S0 n i))
    rw[<-hd]
    have e1:p*d+p*c+p*S0 n i=p*S0 m i+p*1000000000:=by
     rw[<-Nat.mul_add,<-Nat.mul_add,<-Nat.mul_add]
     congr 1
     omega
    omega
  . rename_i h
    refine⟨by simp[h1],EN h2 (by omega),E7 _,?_⟩
    simp only
    rw[Bb,h1,<-hp]
    obtain⟨d,hd⟩:=H8 (S0 m i-(c+S0 n i))
    rw[<-hd]
    have e1:p*d+p*c+p*S0 n i=p*S0 m i:=by
     rw[<-Nat.mul_add,<-Nat.mul_add]
     congr 1
     omega
    omega
theorem KO {m n:List Nat} (hm:gok m) (hn:gok n) (hl:n.length<=m.length) (hle:K6 n<=K6 m):gok (R6 m n m.length).1∧K6 (R6 m n m.length).1=K6 m-K6 n:=by
 obtain⟨h1,h2,h3,h4⟩:=AX hm hn m.length
 rw[E3 (E0 _),E3 hl]at h4
 refine⟨h2,?_⟩
 have h5:=Ji h2
 rw[h1]at h5
 rcases Nat.le_one_iff_eq_zero_or_eq_one.1 h3 with h6|h6
 . rw[h6]at h4;omega
 . rw[h6]at h4;omega
/-! products -/
theorem SR {j:Nat} (h:j<l.length) (v:Nat):K6 (l.set j v)+1000000000 ^ j*S0 l j=K6 l+1000000000 ^ j*v:=by
 induction l generalizing j with
 | nil=>simp at h
 | cons x l ih=>
  cases j with
  | zero=>simp[K6,S0];omega
  | succ j=>
   have:=ih (j:=j) (by simpa using h)
   have e1:S0 (x::l) (j+1)=S0 l j:=by simp[S0]
   rw[List.set_cons_succ,K6,K6,e1,Nat.pow_succ]
   obtain⟨p,hp⟩:=H8 (1000000000 ^ j)
   rw[<-hp]at this ⊢
   have e2:p*1000000000*S0 l j=1000000000*(p*S0 l j):=by rw[Nat.mul_comm p,Nat.mul_assoc]
   have e3:p*1000000000*v=1000000000*(p*v):=by rw[Nat.mul_comm p,Nat.mul_assoc]
   omega
theorem gok_set (h:gok l) (j:Nat) {v:Nat} (hv:v<1000000000):gok (l.set j v):=fun x hx=>by
 rcases List.mem_or_eq_of_mem_set hx with h1|h1
 . exact h x h1
 . omega
theorem gat_set (l:List Nat) (j i v:Nat) (hj:j<l.length):S0 (l.set j v) i=if i=j then v else S0 l i:=by
 unfold S0
 by_cases h:i=j
 . subst h;rw[List.getElem?_set_self hj];simp
 . rw[List.getElem?_set_ne (Ne.symm h),B5 h]
def Ca (out:List Nat) (x:Nat) (n:List Nat) (i:Nat):Nat->List Nat×Nat
 | 0=>(out,0)
 | k+1=>((Ca out x n i k).1.set (i+k) (((Ca out x n i k).2+(S0 (Ca out x n i k).1 (i+k)+x*S0 n k)) % 1000000000),((Ca out x n i k).2+(S0 (Ca out x n i k).1 (i+k)+x*S0 n k)) / 1000000000)
theorem Ou {y c o:Nat} (hx:x<1000000000) (hy:y<1000000000) (hc:c<1000000000) (ho:o<1000000000):c+(o+x*y)<1000000000000000000∧(c+(o+x*y)) / 1000000000<1000000000:=by
 have:x*y<=999999999*999999999:=Nat.mul_le_mul (by omega) (by omega)
 omega
theorem Ov {out n:List Nat} (ho:gok out) (hn:gok n) (hx:x<1000000000) (k:Nat) (hk:i+k<=out.length):
 (Ca out x n i k).1.length=out.length∧gok (Ca out x n i k).1∧(Ca out x n i k).2<1000000000∧K6 (Ca out x n i k).1+1000000000 ^ (i+k)*(Ca out x n i k).2=K6 out+1000000000 ^ i*(x*K6 (n.take k)) ∧ ∀ j,i+k<=j->S0 (Ca out x n i k).1 j=S0 out j:=by
 induction k with
 | zero=>refine⟨rfl,ho,by simp[Ca],by simp[Ca,K6],fun _ _=>rfl⟩
 | succ k ih=>
  obtain⟨h1,h2,h3,h4,h5⟩:=ih (by omega)
  have a1:=CC h2 (i+k)
  have a2:=CC hn k
  obtain⟨b1,b2⟩:=Ou hx a2 h3 a1
  obtain⟨s,hs⟩:=H8 (Ca out x n i k)
  rw[Ca]
  rw[<-hs]at h1 h2 h3 h4 h5 a1 b1 b2 ⊢
  obtain⟨v,hv⟩:=H8 (s.2+(S0 s.1 (i+k)+x*S0 n k))
  rw[<-hv]at b1 b2 ⊢
  refine⟨by simp[h1],gok_set h2 _ (Nat.mod_lt _ (by omega)),b2,?_,fun j hj=>?_⟩
  . simp only
    have e0:=SR (l:=s.1) (j:=i+k) (by omega) (v % 1000000000)
    rw[X5,<-Nat.add_assoc,Nat.pow_succ]
    obtain⟨p,hp⟩:=H8 (1000000000 ^ (i+k))
    have hpp:1000000000 ^ i*1000000000 ^ k=p:=by rw[hp,Nat.pow_add]
    rw[<-hp]at e0 h4 ⊢
    have e1:p*(v % 1000000000)+p*1000000000*(v / 1000000000)=p*v:=by
     rw[Nat.mul_assoc,<-Nat.mul_add,Nat.mod_add_div]
    have e2:p*v=p*s.2+(p*S0 s.1 (i+k)+p*(x*S0 n k)):=by rw[hv,Nat.mul_add,Nat.mul_add]
    have e3:1000000000 ^ i*(x*(K6 (n.take k)+1000000000 ^ k*S0 n k))=1000000000 ^ i*(x*K6 (n.take k))+p*(x*S0 n k):=by
     rw[Nat.mul_add,Nat.mul_add,<-hpp]
     congr 1
     rw[Nat.mul_assoc,Nat.mul_left_comm x]
    omega
  . simp only
    rw[gat_set _ _ _ _ (by omega),B5 (by omega)]
    exact h5 j (by omega)
theorem MW (k:Nat):K6 (List.replicate k 0)=0:=by
 induction k with
 | zero=>rfl
 | succ k ih=>rw[List.replicate_succ,K6,ih]
/-! comparisons -/
def Ex (m n:List Nat):Nat->Int
 | 0=>0
 | i+1=>if S0 m i<S0 n i then -1 else if S0 n i<S0 m i then 1 else Ex m n i
theorem Ip {m n:List Nat} (hm:gok m) (hn:gok n) (i:Nat):Ex m n i=if K6 (m.take i)<K6 (n.take i)then -1 else if K6 (n.take i)<K6 (m.take i)then 1 else 0:=by
 induction i with
 | zero=>simp[Ex,K6]
 | succ i ih=>
  have gtk:∀ {l:List Nat},gok l->K6 (l.take i)<1000000000 ^ i:=fun {l} h=>by
   have h1:gok (l.take i):=fun x hx=>h x (List.mem_of_mem_take hx)
   refine I9 (Ji h1) (Nat.pow_le_pow_right (by omega) ?_)
   rw[F4];omega
  have b1:=gtk hm
  have b2:=gtk hn
  rw[Ex,ih,X5,X5]
  obtain⟨p,hp⟩:=H8 (1000000000 ^ i)
  rw[<-hp]at b1 b2 ⊢
  rcases Nat.lt_trichotomy (S0 m i) (S0 n i)with h|h|h
  . rw[B9 h]
    have:p*(S0 m i+1)<=p*S0 n i:=Nat.mul_le_mul_left _ h
    rw[Nat.mul_add]at this
    rw[B9 (by omega)]
  . simp only[h,Nat.lt_irrefl,if_false,Nat.add_lt_add_iff_right]
  . have:p*(S0 n i+1)<=p*S0 m i:=Nat.mul_le_mul_left _ h
    rw[Nat.mul_add]at this
    rw[B5 (by omega),B9 h,B5 (by omega),B9 (by omega)]
theorem ST {n:Nat} (h:n≠0):1000000000 ^ ((N5 n).length-1)<=n:=by
 induction n using Nat.strongRecOn with
 | _ n ih=>
  rw[Cv h,List.length_cons,Nat.add_sub_cancel]
  by_cases h':n / 1000000000=0
  . rw[h',U3];simp;omega
  . have h1:=ih (n / 1000000000) (Nat.div_lt_self (by omega) (by omega)) h'
    have h2:0<(N5 (n / 1000000000)).length:=List.length_pos_iff.2 fun e=>h' (Nw.1 e)
    obtain⟨k,hk⟩:∃ k,(N5 (n / 1000000000)).length=k+1:=⟨_,(Nat.sub_add_cancel h2).symm⟩
    rw[hk,Nat.add_sub_cancel]at h1
    rw[hk,Nat.pow_succ]
    omega
theorem V6 {y:Nat} (h:(N5 x).length<(N5 y).length):x<y:=by
 have hy:y≠0:=fun e=>by rw[e,U3]at h;simp at h
 have h1:=ST hy
 have h2:=Ji (N7 x)
 rw[N1]at h2
 have h3:1000000000 ^ (N5 x).length<=1000000000 ^ ((N5 y).length-1):=Nat.pow_le_pow_right (by omega) (by omega)
 omega
def Fr (m n:List Nat):Int:=if m.length≠n.length then (m.length:Int)-n.length else Ex m n m.length
theorem Ir (x y:Nat):(Fr (N5 x) (N5 y)<0↔x<y)∧(0<Fr (N5 x) (N5 y)↔y<x):=by
 unfold Fr
 by_cases h:(N5 x).length=(N5 y).length
 . rw[B5 (by simpa using h),Ip (N7 x) (N7 y),E3 (E0 _),E3 (by omega),N1,N1]
   rcases Nat.lt_trichotomy x y with h1|h1|h1
   . rw[B9 h1];omega
   . rw[B5 (by omega),B5 (by omega)];omega
   . rw[B5 (by omega),B9 h1];omega
 . rw[B9 h]
   rcases Nat.lt_or_gt_of_ne h with h1|h1
   . have:=V6 h1;omega
   . have:=V6 h1;omega
open Go.RowKit Px
theorem wCut (l:List Nat) (hl:l.length<=1000000):PCalls Tryz.prog 193 [.sl 1 (l.map dG)] (.d (.sl 1 ((S7 l).map dG))):=by
 obtain⟨r,hr⟩:=H8 (S7 l)
 rw[<-hr]
 refine L5 Tryz.func193 C Tryz.ntmps193 Tryz.results193 fun B w0=>?_
 refine D7 (H3 C (yQ (B2 (B7 ?_))));refine H9 (fun n:Nat=>⟨21,[(0,.d (.sl 1 ((l.take n).map dG)))],[],[]⟩) (fun n=>n<=l.length∧S7 (l.take n)=r) (fun n=>n) l.length ⟨E0 _,by rw[I2,hr]⟩
  ⟨rfl,⟨.of_eq (by rw[I2];rfl),D3⟩,D3,D3,rfl⟩ ?_
 rintro n ⟨hn,hc⟩
 have hlen:(l.take n).length=n:=by rw[F4];omega
 have hnx:∀ x,(l.take n)[n-1]? = some x->0<n->l.take n=l.take (n-1)++[x]:=fun x hx h0=>by
  obtain⟨m,rfl⟩:∃ m,n=m+1:=⟨n-1,by omega⟩
  rw[E8 (by omega)]at hx
  rw[H4,Nat.add_sub_cancel]at *
  rw[hx];rfl
 have htk:((l.take n).map dG).take (((n-1:Nat):Int)).toNat=(l.take (n-1)).map dG:=by
  rw[H1,<-List.map_take,List.take_take,Nat.min_eq_left (by omega)]
 obtain⟨c,hcc⟩:=H8 (l.take n)
 rw[<-hcc]at hc hlen hnx htk ⊢
 rcases H7 n with h0|h0
 . have hc0:c=[]:=List.length_eq_zero_iff.1 (by omega)
   subst hc0
   have hr0:r=[]:=hc.symm
   subst hr0
   refine B2 (D7 (B6 C (yN C (yB C C C C (B6 C (yO C (yO C (yO C (yO C ?_)))))))));refine yO C (yO C (yO C (K9 C C (yQ (D8 C (F9 (D7 (B6 C (H3 C ?_)))))))));refine yQ (C4 ?_)
   exact M5 C C
 have u1:decide (((c.map dG).length:Int) > 0)=true:=B0 (by rw[A8];omega)
 obtain⟨x,hx⟩:∃ x,c[n-1]? = some x:=⟨_,A4 (by omega)⟩
 have ex:=ix dG c ((n-1:Nat):Int) (n-1) x rfl hx
 have hw:IntKind.i64.wrap (((c.map dG).length:Int)-1)=((n-1:Nat):Int):=by rw[A8,I8 _ (by omega)];omega
 have hcl:((n-1:Nat):Int)<=((c.map dG).length:Int):=by rw[A8];omega
 have hs:=hnx x hx h0
 have hcs:=Im (l.take (n-1)) x
 rw[<-hs,hc]at hcs
 rcases H7 x with hx0|hx0
 . subst hx0
   rw[B9 rfl]at hcs
   refine B2 (D7 (B6 C (yN C (yB C C C C (B6 C ?_)))));rw[u1];refine B6 C (B6 C (yN C (yB C C C C ?_)));rw[hw];refine yW ex (by omega) C C (K5 C C (yB C C C C (L0 C C (yQ (G2 C (B1 (B7 (B4 (B6 C ?_)))))))));refine B6 C (yN C (yB C C C C ?_));rw[hw];refine yDh (by omega) hcl C C (H3 C (yQ (BA (B3 ?_))))
   exact⟨n-1,⟨by omega,hcs.symm⟩,by omega,rfl,⟨.of_eq (by rw[<-htk];rfl),D3⟩,D3,D3,rfl⟩
 . rw[B5 (by omega)]at hcs
   have u2:((x:Int)==0)=false:=by simp;omega
   refine B2 (D7 (B6 C (yN C (yB C C C C (B6 C ?_)))));rw[u1];refine B6 C (B6 C (yN C (yB C C C C ?_)));rw[hw];refine yW ex (by omega) C C (K5 C C (yB C C C C (L0 C C (yQ (B3 ?_)))));rw[u2];refine D8 C (F9 (D7 (B6 C (H3 C (yQ (C4 ?_))))))
   rw[hcs]
   exact M5 C C
theorem Iq {m n:List Nat} (i:Nat) {x y:Nat} (hx:m[i]? = some x) (hy:n[i]? = some y):Ex m n (i+1)=if x<y then -1 else if y<x then 1 else Ex m n i:=by
 rw[Ex,V9 hx,V9 hy]
theorem KI (l r:List Nat) (hl:l.length<=1000000) (hr:r.length<=1000000):PCalls Tryz.prog 187 [.sl 1 (l.map dG),.sl 1 (r.map dG)] (.d (dI (Fr l r))):=by
 unfold Fr
 by_cases hne:l.length≠r.length
 . rw[B9 hne]
   have u1:(((l.map dG).length:Int) != ((r.map dG).length:Int))=true:=by simp;omega
   have hw:IntKind.i64.wrap (((l.map dG).length:Int)-((r.map dG).length:Int))=(l.length:Int)-r.length:=by rw[A8,A8,I8 _ (by omega)]
   refine L5 Tryz.func187 C Tryz.ntmps187 Tryz.results187 fun B w0=>?_
   refine D7 (H3 C (yQ (B2 (D7 (B6 C (yN C (B6 C (yN C (yB C C C C ?_)))))))));refine yQ (B3 ?_);rw[u1];refine G2 C (D7 (B6 C (yN C (B6 C (yN C (yB C C C C (H3 C (yQ (C4 ?_)))))))));refine A5 ?_;rw[hw]
   exact M5 C C
 rw[B5 hne]
 have hlr:l.length=r.length:=by omega
 have u1:(((l.map dG).length:Int) != ((r.map dG).length:Int))=false:=by simp;omega
 obtain⟨z,hz⟩:=H8 (Ex l r l.length)
 rw[<-hz]
 have hw:IntKind.i64.wrap (((l.map dG).length:Int)-1)=(l.length:Int)-1:=by rw[A8,I8 _ (by omega)]
 refine L5 Tryz.func187 C Tryz.ntmps187 Tryz.results187 fun B w0=>?_
 refine D7 (H3 C (yQ (B2 (D7 (B6 C (yN C (B6 C (yN C (yB C C C C ?_)))))))));refine yQ (B3 ?_);rw[u1];refine D8 C (B1 (B2 (D7 (B6 C (yN C (yB C C C C (H3 C (yQ (B7 ?_)))))))));rw[hw]
 refine H9 (fun i:Nat=>⟨43,[(0,.d (.sl 1 (l.map dG))),(1,.d (.sl 1 (r.map dG))),(5,.d (dI ((i:Int)-1)))],[],[]⟩) (fun i=>i<=l.length∧Ex l r i=z) (fun i=>i) l.length ⟨E0 _,hz.symm⟩
  ⟨rfl,⟨E6,E6,E6,D3⟩,D3,D3,rfl⟩ ?_
 rintro i ⟨hi,hc⟩
 rcases H7 i with h0|h0
 . subst h0
   have hz0:z=0:=hc.symm
   subst hz0
   have u2:decide (((0:Nat):Int)-1 ≥ 0)=false:=A7 (by omega)
   refine B2 (D7 (B6 C (yB C C C C (yQ (D8 C (F9 (D7 (H3 C (yQ ?_)))))))));refine C4 ?_;rw[u2]
   exact M5 C C
 obtain⟨j,rfl⟩:∃ j,i=j+1:=⟨i-1,by omega⟩
 have u2:decide (((j+1:Nat):Int)-1 ≥ 0)=true:=B0 (by omega)
 obtain⟨x,hx⟩:∃ x,l[j]? = some x:=⟨_,A4 (by omega)⟩
 obtain⟨y,hy⟩:∃ y,r[j]? = some y:=⟨_,A4 (by omega)⟩
 have ex:=ix dG l (((j+1:Nat):Int)-1) j x (by omega) hx
 have ey:=ix dG r (((j+1:Nat):Int)-1) j y (by omega) hy
 have hn:=Iq j hx hy
 rw[hc]at hn
 have hw2:IntKind.i64.wrap (((j+1:Nat):Int)-1-1)=(j:Int)-1:=by rw[I8 _ (by omega)];omega
 by_cases hxy:x<y
 . rw[B9 hxy]at hn
   have u3:decide ((x:Int)<(y:Int))=true:=B0 (by omega)
   subst hn
   refine B2 (D7 (B6 C (yB C C C C (yQ (B3 ?_)))));rw[u2];refine G2 C (B1 (B2 (B7 (B7 (B2 ?_)))));refine J2 Tryz.mixed (by kernel_rfl) ?_;refine B6 C (B6 C (yW ex (by omega) C C (K5 C C (B6 C (B6 C (yW ey (by omega) C C (K5 C C (yB C C C C (H3 C ?_)))))))));refine yQ (B3 ?_);rw[u3];refine G2 C (D7 (H3 C (yQ (C4 (C3 (C3 (A5 (A5 (C3 ?_)))))))));refine A5 ?_
   exact M5 C C
 rw[B5 hxy]at hn
 have u3:decide ((x:Int)<(y:Int))=false:=A7 (by omega)
 by_cases hyx:y<x
 . rw[B9 hyx]at hn
   have u4:decide ((x:Int) > (y:Int))=true:=B0 (by omega)
   subst hn
   refine B2 (D7 (B6 C (yB C C C C (yQ (B3 ?_)))));rw[u2];refine G2 C (B1 (B2 (B7 (B7 (B2 ?_)))));refine J2 Tryz.mixed (by kernel_rfl) ?_;refine B6 C (B6 C (yW ex (by omega) C C (K5 C C (B6 C (B6 C (yW ey (by omega) C C (K5 C C (yB C C C C (H3 C ?_)))))))));refine yQ (B3 ?_);rw[u3];refine D8 C (B2 ?_);refine J2 Tryz.mixed (by kernel_rfl) ?_;refine B6 C (B6 C (yW ex (by omega) C C (K5 C C (B6 C (B6 C (yW ey (by omega) C C (K5 C C (yB C C C C (H3 C ?_)))))))));refine yQ (B3 ?_);rw[u4];refine G2 C (D7 (H3 C (yQ (C4 (C3 (C3 (A5 (A5 (C3 ?_)))))))));refine A5 ?_
   exact M5 C C
 rw[B5 hyx]at hn
 have u4:decide ((x:Int) > (y:Int))=false:=A7 (by omega)
 refine B2 (D7 (B6 C (yB C C C C (yQ (B3 ?_)))));rw[u2];refine G2 C (B1 (B2 (B7 (B7 (B2 ?_)))));refine J2 Tryz.mixed (by kernel_rfl) ?_;refine B6 C (B6 C (yW ex (by omega) C C (K5 C C (B6 C (B6 C (yW ey (by omega) C C (K5 C C (yB C C C C (H3 C ?_)))))))));refine yQ (B3 ?_);rw[u3];refine D8 C (B2 ?_);refine J2 Tryz.mixed (by kernel_rfl) ?_;refine B6 C (B6 C (yW ex (by omega) C C (K5 C C (B6 C (B6 C (yW ey (by omega) C C (K5 C C (yB C C C C (H3 C ?_)))))))));refine yQ (B3 ?_);rw[u4];refine D8 C (B1 (B4 (B6 C (yB C C C C (H3 C (yQ (B3 ?_)))))));rw[hw2]
 exact⟨j,⟨by omega,hn.symm⟩,by omega,rfl,⟨E6,E6,E6,D3⟩,D3,D3,rfl⟩
end Go.Proofs.YtddfimjiihggmaaGreatDoor