/- The logic of pure states: strings; function values over boxes. -/
import Derived.Test.YtdkpmnefoobipaaGreatDoorB2
import Derived.Test.YtdkpmnefoobipaaGreatDoorRows
import Derived.LaidMore
import Derived.Lay
import Derived.Stop.Joined
import Derived.Lib.SmallJoins
import Derived.Shelf.SortG.Plain
import Derived.Shelf.SortG.SortNone
import Derived.Shelf.SlicesE.Compact
import Derived.Shelf.Strings.SlTrimAscii
import Derived.Shelf.Strconv.Itoa3
set_option maxHeartbeats 16000000
set_option maxRecDepth 20000
namespace Go.Proofs.YtdkpmnefoobipaaGreatDoor.Px
open Go.RowKit
variable {l:List UInt8} {T t':Nat} {x:Operand} {m:Int} {kd:IntKind} {b:UInt8}
abbrev vS (l:List UInt8):Value:=.string ⟨l.toArray⟩
abbrev dS (l:List UInt8):DV:=.val (vS l)
abbrev lt8 (a b:List UInt8):Bool:=Op.bytesLess a b
theorem J3 (l:List UInt8):(ByteArray.mk l.toArray).toList=l:=ByteArray.toList_mk l
section
variable {P:Program} {sq:Bool} {ops:Array Oper} {K:PS->Prop} {rest:List Oper} {st:PS} {d:Option Nat} {op:Op} {ty:TypeId} {pos:String} {af:Array Edge} {gd:Option (Nat×Bool)} {q:Nat×Bool}
theorem L8 {t:Nat} {y:Operand} {l1 l2:List UInt8} (hx:st.ev x=.d (dS l1)) (hy:st.ev y=.d (dS l2)) (h:YR P sq ops K rest (st.put d (.d (.val (.bool (l1==l2)))))) (zz:zk ops st ⟨d,.binOp .eql t x y t',ty,pos,af,gd⟩ .no=true:=by kernel_rfl):
 YR P sq ops K (⟨d,.binOp .eql t x y t',ty,pos,af,gd⟩::rest) st:=I1 (BE .eql t t' x y hx hy (by
  show Sem.pure (Value.bool ((ByteArray.mk l1.toArray).toList==(ByteArray.mk l2.toArray).toList))=_
  rw[J3,J3]) rfl (zd zz)) (zo zz) (zw zz) h
theorem K6 {t:Nat} {y:Operand} {l1 l2:List UInt8} (hx:st.ev x=.d (dS l1)) (hy:st.ev y=.d (dS l2)) (h:YR P sq ops K rest (st.put d (.d (.val (.bool (!(l1==l2))))))) (zz:zk ops st ⟨d,.binOp .neq t x y t',ty,pos,af,gd⟩ .no=true:=by kernel_rfl):
 YR P sq ops K (⟨d,.binOp .neq t x y t',ty,pos,af,gd⟩::rest) st:=I1 (BE .neq t t' x y hx hy (by
  show Sem.pure (Value.bool (!((ByteArray.mk l1.toArray).toList==(ByteArray.mk l2.toArray).toList)))=_
  rw[J3,J3]) rfl (zd zz)) (zo zz) (zw zz) h
theorem yBsl {t:Nat} {y:Operand} {l1 l2:List UInt8} (hx:st.ev x=.d (dS l1)) (hy:st.ev y=.d (dS l2)) (h:YR P sq ops K rest (st.put d (.d (.val (.bool (lt8 l1 l2)))))) (zz:zk ops st ⟨d,.binOp .lss t x y t',ty,pos,af,gd⟩ .no=true:=by kernel_rfl):
 YR P sq ops K (⟨d,.binOp .lss t x y t',ty,pos,af,gd⟩::rest) st:=I1 (BE .lss t t' x y hx hy (by
  show Sem.pure (Value.bool (Op.bytesLess (ByteArray.mk l1.toArray).toList (ByteArray.mk l2.toArray).toList))=_
  rw[J3,J3]) rfl (zd zz)) (zo zz) (zw zz) h
theorem yBsm {t:Nat} {y:Operand} {l1 l2:List UInt8} (hx:st.ev x=.d (dS l1)) (hy:st.ev y=.d (dS l2)) (h:YR P sq ops K rest (st.put d (.d (.val (.bool (lt8 l1 l2||l1==l2)))))) (zz:zk ops st ⟨d,.binOp .leq t x y t',ty,pos,af,gd⟩ .no=true:=by kernel_rfl):
 YR P sq ops K (⟨d,.binOp .leq t x y t',ty,pos,af,gd⟩::rest) st:=I1 (BE .leq t t' x y hx hy (by
  show Sem.pure (Value.bool (Op.bytesLess (ByteArray.mk l1.toArray).toList (ByteArray.mk l2.toArray).toList||(ByteArray.mk l1.toArray).toList==(ByteArray.mk l2.toArray).toList))=_
  rw[J3,J3]) rfl (zd zz)) (zo zz) (zw zz) h
theorem yBsh {t:Nat} {y:Operand} {l1 l2:List UInt8} (hx:st.ev x=.d (dS l1)) (hy:st.ev y=.d (dS l2)) (h:YR P sq ops K rest (st.put d (.d (.val (.bool (!lt8 l1 l2)))))) (zz:zk ops st ⟨d,.binOp .geq t x y t',ty,pos,af,gd⟩ .no=true:=by kernel_rfl):
 YR P sq ops K (⟨d,.binOp .geq t x y t',ty,pos,af,gd⟩::rest) st:=I1 (BE .geq t t' x y hx hy (by
  show Sem.pure (Value.bool (!Op.bytesLess (ByteArray.mk l1.toArray).toList (ByteArray.mk l2.toArray).toList))=_
  rw[J3,J3]) rfl (zd zz)) (zo zz) (zw zz) h
theorem yBsa {t:Nat} {y:Operand} {l1 l2:List UInt8} (hb:l1.length+l2.length<=1000000000) (hx:st.ev x=.d (dS l1)) (hy:st.ev y=.d (dS l2)) (h:YR P sq ops K rest (st.put d (.d (dS (l1++l2))))) (zz:zk ops st ⟨d,.binOp .add t x y t',ty,pos,af,gd⟩ .no=true:=by kernel_rfl):
 YR P sq ops K (⟨d,.binOp .add t x y t',ty,pos,af,gd⟩::rest) st:=I1 (BE .add t t' x y hx hy (by
  show(if (((ByteArray.mk l1.toArray).size+(ByteArray.mk l2.toArray).size:Nat):Int) > IntKind.i64.max then _ else pure (Value.string (ByteArray.mk l1.toArray++ByteArray.mk l2.toArray)))=_
  have h1:(ByteArray.mk l1.toArray).size=l1.length:=by simp[ByteArray.size]
  have h2:(ByteArray.mk l2.toArray).size=l2.length:=by simp[ByteArray.size]
  rw[B8 (by rw[h1,h2,show IntKind.i64.max=9223372036854775807 by decide];omega)]
  have:ByteArray.mk l1.toArray++ByteArray.mk l2.toArray=ByteArray.mk (l1++l2).toArray:=by
   apply ByteArray.ext
   simp
  rw[this]
  rfl) rfl (zd zz)) (zo zz) (zw zz) h
theorem Lm (T:TypeId) (x:Operand) [hS:UndS P T] (hx:st.ev x=.d (dS l)) (hd:G3 ⟨d,.call { callee:=.builtin .len,args:=#[x],argTypes:=#[T] },ty,pos,af,gd⟩ st=true):
 I7 P ⟨d,.call { callee:=.builtin .len,args:=#[x],argTypes:=#[T] },ty,pos,af,gd⟩ st (.d (.val (.int .i64 l.length))) .no:=fun st2 ha=>
 OpS.value (ha.dst hd) fun _ _ g a w h=>by
  have h1:=h.eval x
  rw[ha.ev x (by simp[Op.operands,Call.operands]),hx]at h1
  refine⟨.int .i64 l.length,w,?_,Below.refl _ _,DRep.val _ O⟩
  have h2:(ByteArray.mk l.toArray).size=l.length:=by simp[ByteArray.size]
  simp[execOp,resolve,invoke,builtin,Builtin.len_,DRep.val_eq h1,hS.run,goInt,h2]
theorem P4 [UndS P T] (hx:st.ev x=.d (dS l)) (h:YR P sq ops K rest (st.put d (.d (.val (.int .i64 l.length))))) (zz:zk ops st ⟨d,.call { callee:=.builtin .len,args:=#[x],argTypes:=#[T] },ty,pos,af,gd⟩ .no=true:=by kernel_rfl):
 YR P sq ops K (⟨d,.call { callee:=.builtin .len,args:=#[x],argTypes:=#[T] },ty,pos,af,gd⟩::rest) st:=I1 (Lm T x hx (zd zz)) (zo zz) (zw zz) h
theorem ls_ix_s (T:TypeId) (x y:Operand) [hS:UndS P T] (hx:st.ev x=.d (dS l)) (hy:st.ev y=.d (.val (.int kd m))) (h0:0<=m) (hb:l[m.toNat]? = some b) (hd:G3 ⟨d,.index T x y,ty,pos,af,gd⟩ st=true):
 I7 P ⟨d,.index T x y,ty,pos,af,gd⟩ st (.d (.val (.int .u8 b.toNat))) .no:=fun st2 ha=>
 OpS.value (ha.dst hd) fun _ _ g a w h=>by
  have h1:=h.eval x
  rw[ha.ev x (by simp[Op.operands]),hx]at h1
  have h2:=h.eval y
  rw[ha.ev y (by simp[Op.operands]),hy]at h2
  refine⟨.int .u8 b.toNat,w,?_,Below.refl _ _,DRep.val _ O⟩
  have h3:(ByteArray.mk l.toArray)[m.toNat]? = some b:=by
   have hlt:=(A6.1 hb).1
   rw[getElem?_pos _ _ (by simpa[ByteArray.size]using hlt)]
   have:(ByteArray.mk l.toArray)[m.toNat]'(by simpa[ByteArray.size]using hlt)=l[m.toNat]:=by simp[ByteArray.getElem_eq_getElem_data]
   rw[this,<-hb,A4 hlt]
  simp[execOp,Instr.index,DRep.val_eq h1,DRep.val_eq h2,asIntOf,hS.run,h0,h3]
theorem DI {y:Operand} [UndS P T] (hb:l[m.toNat]? = some b) (h0:0<=m) (hx:st.ev x=.d (dS l)) (hy:st.ev y=.d (.val (.int kd m))) (h:YR P sq ops K rest (st.put d (.d (.val (.int .u8 b.toNat))))) (zz:zk ops st ⟨d,.index T x y,ty,pos,af,gd⟩ .no=true:=by kernel_rfl):
 YR P sq ops K (⟨d,.index T x y,ty,pos,af,gd⟩::rest) st:=I1 (ls_ix_s T x y hx hy h0 hb (zd zz)) (zo zz) (zw zz) h
theorem Ab (l:List UInt8) (a b:Nat):(ByteArray.mk l.toArray).extract a b=ByteArray.mk ((l.take b).drop a).toArray:=by
 apply ByteArray.ext
 simp[ByteArray.data_extract,List.extract_toArray,List.drop_take]
theorem FV (T:TypeId) (x:Operand) (lo hi:Option Operand) {n:Int} [hS:UndS P T] (hx:st.ev x=.d (dS l)) (hlo:(lo=none∧m=0) ∨ ∃ y k,lo=some y∧st.ev y=.d (.val (.int k m))) (hhi:(hi=none∧n=l.length) ∨ ∃ y k,hi=some y∧st.ev y=.d (.val (.int k n))) (h0:0<=m) (hmn:m<=n) (hn:n<=l.length) (hd:G3 ⟨d,.slice T x lo hi none,ty,pos,af,gd⟩ st=true):
 I7 P ⟨d,.slice T x lo hi none,ty,pos,af,gd⟩ st (.d (dS ((l.take n.toNat).drop m.toNat))) .no:=fun st2 ha=>
 OpS.value (ha.dst hd) fun _ _ g a w h=>by
  have h1:=h.eval x
  rw[ha.ev x (by simp[Op.operands]),hx]at h1
  refine⟨_,w,?_,Below.refl _ _,DRep.val _ O⟩
  have hsz:(ByteArray.mk l.toArray).size=l.length:=by simp[ByteArray.size]
  have n1:0<=n∧n<=(l.length:Int):=⟨by omega,hn⟩
  have n2:0<=m∧m<=(n.toNat:Int):=⟨h0,by omega⟩
  rcases hlo with⟨rfl,rfl⟩|⟨y,k,rfl,hy⟩<;>rcases hhi with⟨rfl,rfl⟩|⟨y',k',rfl,hy'⟩
  . simp[execOp,Instr.sliceAt,Instr.slice,Instr.sliceBounds,DRep.val_eq h1,hS.run]
  . have h3:=h.eval y'
    rw[ha.ev y' (by simp[Op.operands]),hy']at h3
    simp[execOp,Instr.sliceAt,Instr.slice,Instr.sliceBounds,Instr.sliceBound,DRep.val_eq h1,DRep.val_eq h3,asIntOf,hS.run,hsz,Ab,n1]
  . have h2:=h.eval y
    rw[ha.ev y (by simp[Op.operands]),hy]at h2
    have n3:0<=m∧m<=(l.length:Int):=⟨h0,by omega⟩
    simp[execOp,Instr.sliceAt,Instr.slice,Instr.sliceBounds,Instr.sliceBound,DRep.val_eq h1,DRep.val_eq h2,asIntOf,hS.run,hsz,Ab,n3]
  . have h2:=h.eval y
    rw[ha.ev y (by simp[Op.operands]),hy]at h2
    have h3:=h.eval y'
    rw[ha.ev y' (by simp[Op.operands]),hy']at h3
    simp[execOp,Instr.sliceAt,Instr.slice,Instr.sliceBounds,Instr.sliceBound,DRep.val_eq h1,DRep.val_eq h2,DRep.val_eq h3,asIntOf,hS.run,hsz,Ab,n1,n2]
    intro h4;omega
theorem ySlh {y y':Operand} {l':List UInt8} {n:Int} {k k':IntKind} [UndS P T] (h0:0<=m) (hmn:m<=n) (hn:n<=l.length) (hl:(l.take n.toNat).drop m.toNat=l') (hx:st.ev x=.d (dS l)) (hy:st.ev y=.d (.val (.int k m))) (hy':st.ev y'=.d (.val (.int k' n))) (h:YR P sq ops K rest (st.put d (.d (dS l')))) (zz:zk ops st ⟨d,.slice T x (some y) (some y') none,ty,pos,af,gd⟩ .no=true:=by kernel_rfl):
 YR P sq ops K (⟨d,.slice T x (some y) (some y') none,ty,pos,af,gd⟩::rest) st:=by subst hl;exact I1 (FV T x _ _ hx (.inr ⟨y,k,O,hy⟩) (.inr ⟨y',k',O,hy'⟩) h0 hmn hn (zd zz)) (zo zz) (zw zz) h
theorem Ke {y:Operand} {l':List UInt8} {k:IntKind} [UndS P T] (h0:0<=m) (hn:m<=l.length) (hl:l.drop m.toNat=l') (hx:st.ev x=.d (dS l)) (hy:st.ev y=.d (.val (.int k m))) (h:YR P sq ops K rest (st.put d (.d (dS l')))) (zz:zk ops st ⟨d,.slice T x (some y) none none,ty,pos,af,gd⟩ .no=true:=by kernel_rfl):
 YR P sq ops K (⟨d,.slice T x (some y) none none,ty,pos,af,gd⟩::rest) st:=by
 have hl':(l.take (l.length:Int).toNat).drop m.toNat=l':=by rw[H6,I4];exact hl
 subst hl'
 exact I1 (FV T x _ _ hx (.inr ⟨y,k,O,hy⟩) (.inl ⟨rfl,O⟩) h0 hn (Int.le_refl _) (zd zz)) (zo zz) (zw zz) h
theorem yS0h {y:Operand} {l':List UInt8} {n:Int} {k:IntKind} [UndS P T] (h0:0<=n) (hn:n<=l.length) (hl:l.take n.toNat=l') (hx:st.ev x=.d (dS l)) (hy:st.ev y=.d (.val (.int k n))) (h:YR P sq ops K rest (st.put d (.d (dS l')))) (zz:zk ops st ⟨d,.slice T x none (some y) none,ty,pos,af,gd⟩ .no=true:=by kernel_rfl):
 YR P sq ops K (⟨d,.slice T x none (some y) none,ty,pos,af,gd⟩::rest) st:=by
 have hl':(l.take n.toNat).drop (0:Int).toNat=l':=by simpa using hl
 subst hl'
 exact I1 (FV T x _ _ hx (.inl ⟨rfl,O⟩) (.inr ⟨y,k,O,hy⟩) (Int.le_refl _) h0 hn (zd zz)) (zo zz) (zw zz) h
abbrev dBy (l:List UInt8):List (List DV):=l.map fun b=>[.val (.int .u8 b.toNat)]
theorem Ls (S D:TypeId) (x:Operand) {E:Nat} (hS:P.underlying S=some .string) (hD:P.underlying D=some (.slice E)) (hE:P.underlying E=some (.int .u8)) (hl:l.length<=1000000000) (hx:st.ev x=.d (dS l)) (hd:G3 ⟨d,.convert S D x,ty,pos,af,gd⟩ st=true):
 I7 P ⟨d,.convert S D x,ty,pos,af,gd⟩ st (.d (.sl 1 (dBy l))) .no:=fun st2 ha=>
 OpS.value (ha.dst hd) fun _ _ g a w h=>by
  have h1:=h.eval x
  rw[ha.ev x (by simp[Op.operands]),hx]at h1
  have h1:a.eval x=.string ⟨l.toArray⟩:=DRep.val_eq h1
  have hsz:(ByteArray.mk l.toArray).size=l.length:=by simp[ByteArray.size]
  have hrun:=run_bytes_of_string (P:=P) w S D E ⟨l.toArray⟩ hS hD hE
  obtain⟨cap,hcap⟩:=H1 (grownCap w (ByteArray.mk l.toArray).size 0 E)
  have hge:(ByteArray.mk l.toArray).size<=cap:=by rw[hcap];exact grownCap_ge _ _ _ _
  rw[<-hcap]at hrun
  have hb:Below w.heap.size w (w.drew.alloc (.cells (bytesRow ⟨l.toArray⟩ cap) E ((bytesRow ⟨l.toArray⟩ cap).size,(bytesRow ⟨l.toArray⟩ cap).size+1))):=
   ⟨rfl,rfl,rfl,by simp,fun k hk=>Below.heap_alloc w.drew _ k hk⟩
  refine⟨.slice (some ⟨w.heap.size,0,none⟩) (ByteArray.mk l.toArray).size cap,_,by simp only[execOp,h1,Sem.run_bind,hrun,C1,Sem.run_pure],hb,?_⟩
  have hheap:(w.drew.alloc (.cells (bytesRow ⟨l.toArray⟩ cap) E ((bytesRow ⟨l.toArray⟩ cap).size,(bytesRow ⟨l.toArray⟩ cap).size+1))).heap[w.heap.size]? = some (.cells (bytesRow ⟨l.toArray⟩ cap) E ((bytesRow ⟨l.toArray⟩ cap).size,(bytesRow ⟨l.toArray⟩ cap).size+1)):=heap_alloc_new w.drew _
  have hlen:(dBy l).length=l.length:=by simp
  have hcell:∀ (j:Nat) b,l[j]? = some b->(bytesRow ⟨l.toArray⟩ cap)[j]? = some (.int .u8 b.toNat):=fun j b hj=>by
   have hlt:=(A6.1 hj).1
   unfold bytesRow
   rw[Array.getElem?_append_left (by simpa using hlt)]
   simp[hj]
  rw[hsz]
  have:DRep (Fx g) (w.drew.alloc (.cells (bytesRow ⟨l.toArray⟩ cap) E ((bytesRow ⟨l.toArray⟩ cap).size,(bytesRow ⟨l.toArray⟩ cap).size+1))) (.slice (some ⟨w.heap.size,0,none⟩) (dBy l).length cap) (.sl 1 (dBy l)):=by
   refine DRep.of_row (xs:=l.map fun b=>.int .u8 b.toNat) (by omega) (by omega) (fun e he=>by obtain⟨b,-,rfl⟩:=H5.1 he;rfl) (fun _=>⟨w.heap.size,0,rfl,fun j u hj=>⟨?_,?_⟩⟩) (fun u hu=>by obtain⟨b,-,rfl⟩:=H5.1 hu;rfl) fun p q e z he hz=>?_
   . rw[B5,B7]at hj
     obtain⟨b,h2,rfl⟩:=hj
     rw[D0]
     simp only[World.cell?,hheap,Option.isSome_none,Bool.false_eq_true,if_false]
     exact hcell j b h2
   . refine⟨h.f0 _ _ h.base,fun i' hi'=>?_,fun t T n' c' hT hv=>?_⟩
     . have:=(h.blk i' _ hi').2;omega
     . obtain⟨⟨n'',xs,h8⟩,-⟩:=h.toks t T hT
       have:=(h8.lt w.heap.size (by rw[hv];rfl)).2
       omega
   . rw[B5,B7]at he
     obtain⟨b,h2,rfl⟩:=he
     match q,hz with
     | 0,hz=>cases hz;exact⟨_,by rw[Nat.mul_one,Nat.add_zero,B5,h2];rfl,.val _ rfl⟩
     | q+1,hz=>simp at hz
  rwa [hlen]at this
theorem yTb {S D E:Nat} (hl:l.length<=1000000000) (hS:P.underlying S=some .string) (hD:P.underlying D=some (.slice E)) (hE:P.underlying E=some (.int .u8)) (hx:st.ev x=.d (dS l)) (h:YR P sq ops K rest (st.put d (.d (.sl 1 (dBy l))))) (zz:zk ops st ⟨d,.convert S D x,ty,pos,af,gd⟩ .no=true:=by kernel_rfl):
 YR P sq ops K (⟨d,.convert S D x,ty,pos,af,gd⟩::rest) st:=I1 (Ls S D x hS hD hE hl hx (zd zz)) (zo zz) (zw zz) h
end
open Go.RowKit Go.ChangeShapes Go.WideShapes Go.Deep
variable {y x:Operand} {φ:List DV->SV->Prop} {w:World} {ys ds:List DV} {v:Value} {places:List (Nat×Nat)} {qs:List (Nat×List DV)} {l:List (Nat×Operand)} {zs:List Value} {F:Nat->Nat->Prop} {f:FuncId} {g:Gh} {P:Program} {T B i off:Nat} {ts:Array TypeId} {w0:Cx} {a:Act} {e:Option Nat} {kd:IntKind} {t:TypeId} {m:Int} {r:SV} {c:DV}
inductive Sh where
 | i (k:IntKind)
 | s
 | b
 | sl (e:Sh)
 | un
 | pr (f r:Sh)
@[reducible] def Dat:Sh->Type
 | .i _=>Int
 | .s=>List UInt8
 | .b=>Bool
 | .sl e=>List (Dat e)
 | .un=>Unit
 | .pr f r=>Dat f×Dat r
@[reducible] def Sh.k:Sh->Nat
 | .un=>0
 | .pr f r=>f.k+r.k
 | _=>1
@[reducible] def Dat.cs:(sh:Sh)->Dat sh->List DV
 | .i k,(n:Int)=>[.val (.int k n)]
 | .s,(l:List UInt8)=>[dS l]
 | .b,(b:Bool)=>[.val (.bool b)]
 | .sl e,(l:List (Dat e))=>[.sl e.k (l.map (Dat.cs e))]
 | .un,_=>[]
 | .pr f r,d=>Dat.cs f d.1++Dat.cs r d.2
@[reducible] def Dat.dv (sh:Sh) (d:Dat sh):DV:=match sh,d with
 | .i k,(n:Int)=>.val (.int k n)
 | .s,(l:List UInt8)=>dS l
 | .b,(b:Bool)=>.val (.bool b)
 | .sl e,(l:List (Dat e))=>.sl e.k (l.map (Dat.cs e))
 | .un,_=>.agg []
 | .pr f r,d=>.agg (Dat.cs (.pr f r) d)
def Dat.ok:(sh:Sh)->Dat sh->Prop
 | .i k,(n:Int)=>(Lit.int k n).wf=true
 | .s,(l:List UInt8)=>l.length<=maxLen
 | .b,_=>True
 | .sl e,(l:List (Dat e))=>l.length<=maxLen ∧ ∀ x∈l,Dat.ok e x
 | .un,_=>True
 | .pr f r,d=>Dat.ok f d.1∧Dat.ok r d.2
theorem CR:(sh:Sh)->(d:Dat sh)->(Dat.cs sh d).length=sh.k
 | .i _,_=>rfl
 | .s,_=>rfl
 | .b,_=>rfl
 | .sl _,_=>rfl
 | .un,_=>rfl
 | .pr f r,d=>by show(Dat.cs f d.1++Dat.cs r d.2).length=f.k+r.k;rw[D1,CR f,CR r]
def intB (P:Program) (t:TypeId) (k:IntKind):Bool:=match P.underlying t with|some (.int k')=>decide (k'=k)|_=>false
def Az (P:Program):Sh->TypeId ⊕ (List Field×Nat)->Bool
 | .i k,.inl t=>(match P.underlying t with|some (.int k')=>decide (k'=k)|_=>false)&&Nat.beq (P.cellsOf t) 1
 | .s,.inl t=>(match P.underlying t with|some .string=>true|_=>false)&&Nat.beq (P.cellsOf t) 1
 | .b,.inl t=>(match P.underlying t with|some .bool=>true|_=>false)&&Nat.beq (P.cellsOf t) 1
 | .sl e,.inl t=>(match P.underlying t with|some (.slice u)=>Az P e (.inl u)&&Nat.blt 0 e.k|_=>false)&&Nat.beq (P.cellsOf t) 1
 | .pr f r,.inl t=>(match P.underlying t with
  | some (.struct fs)=>(match fs.toList with|fd::fs'=>Nat.beq fd.offset 0&&Az P f (.inl fd.type)&&Az P r (.inr (fs',f.k)) | []=>false)
  | _=>false)&&Nat.beq (P.cellsOf t) (f.k+r.k)
 | .pr f r,.inr (fd::fs',off)=>Nat.beq fd.offset off&&Az P f (.inl fd.type)&&Az P r (.inr (fs',off+f.k))
 | .un,.inr ([],_)=>true
 | _,_=>false
theorem GC {sh:Sh} (h:Az P sh (.inl t)=true):P.cellsOf t=sh.k:=by
 cases sh<;>simp only[Az,C6]at h<;>first|exact E5 h.2|cases h
section
variable {H:Type} {enc:TypeId×Value->H} {base:Nat} {spare:Nat->Bool} {held:Bool}
abbrev TT:Nat->Nat->Prop:=fun _ _=>True
theorem Ae {x:DV} (h1:v.oneCell'=true) (h:DRep TT w v x):Reps TT w [v] [x]:=
 ⟨rfl,fun u hu=>by rw[List.mem_singleton.1 hu];exact h1,fun i u y hu hy=>by
  cases i with
  | zero=>cases hu;cases hy;exact h
  | succ i=>simp at hu⟩
theorem GP {vs us:List Value} {xs:List DV} (h:Reps TT w vs xs) (k:Reps TT w us ys):Reps TT w (vs++us) (xs++ys):=by
 refine⟨by simp[h.len,k.len],fun v hv=>?_,fun i v x hv hx=>?_⟩
 . rcases List.mem_append.1 hv with e|e
   . exact h.one v e
   . exact k.one v e
 . by_cases hi:i<vs.length
   . rw[E4 hi]at hv
     rw[E4 (by rw[<-h.len];exact hi)]at hx
     exact h.rep i v x hv hx
   . rw[E6 (by omega)]at hv
     rw[E6 (by rw[<-h.len];omega),<-h.len]at hx
     exact k.rep _ v x hv hx
theorem trod_sh (sh:Sh):(∀ t fuel (cs:List Value) x,Az P sh (.inl t)=true->DataW.trod enc P w base spare held fuel t cs=some x->∃ d:Dat sh,Dat.ok sh d∧Reps TT w cs (Dat.cs sh d)) ∧
 ∀ fs off (cs:List Value),Az P sh (.inr (fs,off))=true->(∀ f∈fs,∃ n x,DataW.trod enc P w base spare held n f.type ((cs.drop f.offset).take (P.cellsOf f.type))=some x)->cs.length=off+sh.k->∃ d:Dat sh,Dat.ok sh d∧Reps TT w (cs.drop off) (Dat.cs sh d):=by
 induction sh with
 | i k=>
  refine⟨fun t fuel cs x ht h=>?_,fun fs off cs ht=>by simp[Az]at ht⟩
  simp only[Az,C6]at ht
  have hu:P.underlying t=some (.int k):=by
   revert ht
   cases e:P.underlying t with
   | none=>simp
   | some u=>cases u<;>simp;rintro rfl;simp
  obtain⟨n,rfl,-,hw⟩:=DataW.trod_int hu h
  exact⟨n,hw,Ae O (.val _ O)⟩
 | s=>
  refine⟨fun t fuel cs x ht h=>?_,fun fs off cs ht=>by simp[Az]at ht⟩
  simp only[Az,C6]at ht
  have hu:P.underlying t=some .string:=by
   revert ht
   cases e:P.underlying t with
   | none=>simp
   | some u=>cases u<;>simp
  obtain⟨s,rfl,-,hs⟩:=DataW.trod_string hu h
  refine⟨s.data.toList,by simpa[Dat.ok]using hs,Ae rfl ?_⟩
  show DRep TT w (.string s) (.val (.string ⟨s.data.toList.toArray⟩))
  exact .val _ O
 | b=>
  refine⟨fun t fuel cs x ht h=>?_,fun fs off cs ht=>by simp[Az]at ht⟩
  simp only[Az,C6]at ht
  have hu:P.underlying t=some .bool:=by
   revert ht
   cases e:P.underlying t with
   | none=>simp
   | some u=>cases u<;>simp
  obtain⟨b,rfl,-⟩:=DataW.trod_bool hu h
  exact⟨b,C8,Ae O (.val _ O)⟩
 | sl e ih=>
  refine⟨fun t fuel cs x ht h=>?_,fun fs off cs ht=>by simp[Az]at ht⟩
  simp only[Az,C6]at ht
  obtain⟨u,hu,hte,hk⟩:∃ u,P.underlying t=some (.slice u)∧Az P e (.inl u)=true∧Nat.blt 0 e.k=true:=by
   revert ht
   cases e':P.underlying t with
   | none=>simp
   | some u=>
    cases u with
    | slice u=>exact fun h=>by simp only[C6]at h;exact⟨_,O,h.1.1,h.1.2⟩
    | _=>simp
  have hk:0<e.k:=B0 hk
  have hce:=GC hte
  rcases open_slice hu h with⟨rfl,-⟩|⟨a,len,cap,m,n,D,Pl,rfl,hb,hl,hm,hmm,-,hx⟩
  . exact⟨([]:List (Dat e)),⟨D4 _,fun x hx=>by cases hx⟩,Ae rfl DRep.nil⟩
  . have hlm:len<=m:=by rw[hmm];split<;>omega
    have each:∀ i,i<len->∃ q:List Value×Option (Dat e),∃ d,q.2=some d∧(∀ j,j<e.k->w.cell? (a.add (i*e.k+j))=q.1[j]?)∧q.1.length=e.k∧Dat.ok e d∧Reps TT w q.1 (Dat.cs e d):=fun i hi=>by
     obtain⟨cs',h1,h2⟩:=hx i (by omega)
     obtain⟨d,h3,h4⟩:=ih.1 u n cs' _ hte h2
     rw[hce]at h1
     obtain⟨-,h5,h6⟩:=World.cells?_some h1
     refine⟨(cs',some d),d,O,fun j hj=>?_,h5,h3,h4⟩
     rw[<-h6 j hj]
     congr 1
     unfold Addr.add
     split<;>split<;>split<;>simp_all<;>omega
    obtain⟨q,hq⟩:=choose_lt each
    have each2:∀ i,i<len->∃ d:Dat e,(q i).2=some d:=fun i hi=>by obtain⟨d,h1,-⟩:=hq i hi;exact⟨d,h1⟩
    obtain⟨ds,hds⟩:∃ ds:List (Dat e),ds.length=len ∧ ∀ (i:Nat) d,ds[i]? = some d->(q i).2=some d:=by
     have:∀ l,l<=len->∃ ds:List (Dat e),ds.length=l ∧ ∀ (i:Nat) d,ds[i]? = some d->(q i).2=some d:=by
      intro l
      induction l with
      | zero=>exact fun _=>⟨[],O,fun i d hd=>by simp at hd⟩
      | succ l ihl=>
       intro hl'
       obtain⟨ds,h1,h2⟩:=ihl (by omega)
       obtain⟨d,hd⟩:=each2 l (by omega)
       refine⟨ds++[d],by simp[h1],fun i d' hi=>?_⟩
       by_cases hil:i<l
       . rw[E4 (by omega)]at hi
         exact h2 i d' hi
       . rw[E6 (by omega)]at hi
         have hz:i-ds.length=0:=by
          have:=(A6.1 hi).1
          simp at this
          omega
         rw[hz]at hi
         simp at hi
         obtain rfl:i=l:=by omega
         rw[hd,hi]
     exact this len (D6 _)
    have hat:∀ (i:Nat) d,ds[i]? = some d->i<len∧(∀ j,j<e.k->w.cell? (a.add (i*e.k+j))=(q i).1[j]?)∧(q i).1.length=e.k∧Dat.ok e d∧Reps TT w (q i).1 (Dat.cs e d):=fun i d hi=>by
     have hil:i<len:=by rw[<-hds.1];exact(A6.1 hi).1
     obtain⟨d',h1,h2⟩:=hq i hil
     have:=hds.2 i d hi
     rw[h1]at this
     cases this
     exact⟨hil,h2⟩
    refine⟨ds,⟨by rw[hds.1];exact E3 hl hm,fun d hd=>?_⟩,Ae O ?_⟩
    . obtain⟨i,hi,rfl⟩:=List.getElem_of_mem hd
      exact(hat i _ (A4 hi)).2.2.2.1
    . have hspot:0<len->∃ b off,a=⟨b,off,none⟩:=fun h0=>by
       obtain⟨d,hd⟩:∃ d,ds[0]? = some d:=⟨_,A4 (by omega)⟩
       obtain⟨-,h2,h3,-⟩:=hat 0 d hd
       have h4:=h2 0 hk
       rw[A4 (by omega)]at h4
       obtain⟨b,off,spot⟩:=a
       have hsp:=World.cell?_spot h4
       have:spot=none:=by simpa[Addr.add]using hsp
       exact⟨b,off,by rw[this]⟩
      refine .sl (fun i j=>((q i).1[j]?).getD default) (by rw[D3,hds.1]) hl (by unfold maxLen at hm;omega) (fun x hx=>?_) (fun h0=>?_) (fun i j hi hj=>?_) fun i j ce x hce' hx'=>?_
      . obtain⟨d,-,rfl⟩:=H5.1 hx
        exact CR e d
      . obtain⟨b,off,rfl⟩:=hspot h0
        refine⟨b,off,O,fun i j hi hj=>⟨?_,C8⟩⟩
        obtain⟨d,hd⟩:∃ d,ds[i]? = some d:=⟨_,A4 (by omega)⟩
        obtain⟨-,h2,h3,-⟩:=hat i d hd
        have h4:=h2 j hj
        have e1:(⟨b,off,none⟩:Addr).add (i*e.k+j)=⟨b,off+i*e.k+j,none⟩:=by unfold Addr.add;split<;>simp_all[Nat.add_assoc]
        rw[e1]at h4
        rw[h4,A4 (by omega)]
        rfl
      . obtain⟨d,hd⟩:∃ d,ds[i]? = some d:=⟨_,A4 (by omega)⟩
        obtain⟨-,h2,h3,-,h5⟩:=hat i d hd
        rw[A4 (by omega)]
        exact h5.one _ (List.getElem_mem _)
      . rw[B5,B7]at hce'
        obtain⟨d,hd,rfl⟩:=hce'
        obtain⟨-,h2,h3,-,h5⟩:=hat i d hd
        have hj:j<(q i).1.length:=by rw[h5.len];exact(A6.1 hx').1
        rw[A4 hj]
        exact h5.rep j _ x (A4 hj) hx'
 | un=>
  refine⟨fun t fuel cs x ht h=>by simp[Az]at ht,fun fs off cs ht hf hl=>⟨(),C8,?_⟩⟩
  have:cs.drop off=[]:=List.drop_eq_nil_of_le (by simp[Sh.k]at hl;omega)
  rw[this]
  exact⟨rfl,fun v hv=>(by cases hv),fun i v x hv=>(by simp at hv)⟩
 | pr f r ihf ihr=>
  have main:∀ fd fs' off (cs:List Value),fd.offset=off->Az P f (.inl fd.type)=true->Az P r (.inr (fs',off+f.k))=true->(∀ g∈fd::fs',∃ n x,DataW.trod enc P w base spare held n g.type ((cs.drop g.offset).take (P.cellsOf g.type))=some x)->cs.length=off+(f.k+r.k)->∃ d:Dat (.pr f r),Dat.ok (.pr f r) d∧Reps TT w (cs.drop off) (Dat.cs (.pr f r) d):=fun fd fs' off cs ho h1 h2 hf hl=>by
   obtain⟨n,x,h3⟩:=hf fd (by simp)
   rw[ho,GC h1]at h3
   obtain⟨d1,h4,h5⟩:=ihf.1 _ _ _ _ h1 h3
   obtain⟨d2,h6,h7⟩:=ihr.2 fs' (off+f.k) cs h2 (fun g hg=>hf g (by simp[hg])) (by omega)
   refine⟨(d1,d2),⟨h4,h6⟩,?_⟩
   have:cs.drop off=(cs.drop off).take f.k++cs.drop (off+f.k):=by rw[<-List.drop_drop,List.take_append_drop]
   rw[this]
   exact GP h5 h7
  refine⟨fun t fuel cs x ht h=>?_,fun fs off cs ht hf hl=>?_⟩
  . simp only[Az,C6]at ht
    obtain⟨hs,hc⟩:=ht
    have hc:=E5 hc
    obtain⟨fs,hu,hs⟩:∃ fs,P.underlying t=some (.struct fs)∧(match fs.toList with|fd::fs'=>Nat.beq fd.offset 0&&Az P f (.inl fd.type)&&Az P r (.inr (fs',f.k)) | []=>false)=true:=by
     revert hs
     cases e':P.underlying t with
     | none=>simp
     | some u=>
      cases u with
      | struct fs=>exact fun h=>⟨_,O,h⟩
      | _=>simp
    obtain⟨xs,n,-,-,hl,hlen,hf⟩:=DataW.trod_struct hu h
    have hfs:∀ g∈fs.toList,∃ n x,DataW.trod enc P w base spare held n g.type ((cs.drop g.offset).take (P.cellsOf g.type))=some x:=fun g hg=>by
     obtain⟨i,hi,rfl⟩:=List.getElem_of_mem hg
     have hi':i<fs.size:=by simpa using hi
     have:=hf i fs[i] (Array.getElem?_eq_getElem hi')
     rw[A4 (by omega)]at this
     exact⟨n,_,this⟩
    cases hfl:fs.toList with
    | nil=>rw[hfl]at hs;simp at hs
    | cons fd fs'=>
     rw[hfl]at hs hfs
     simp only[C6]at hs
     obtain⟨d,h1,h2⟩:=main fd fs' 0 cs (E5 hs.1.1) hs.1.2 (by rw[D0];exact hs.2) hfs (by rw[hl,hc,D0])
     exact⟨d,h1,by simpa using h2⟩
  . cases fs with
    | nil=>simp[Az]at ht
    | cons fd fs'=>
     simp only[Az,C6]at ht
     exact main fd fs' off cs (E5 ht.1.1) ht.1.2 ht.2 hf hl
theorem FQ {sh:Sh} {b0:Nat} {d:DataW H} {p:List MemPlace} (ht:Az P sh (.inl t)=true) (hv:Value.okWide P w .any b0 t v) (h:DataW.Trod enc P w base spare held t v d p):∃ x:Dat sh,Dat.ok sh x∧DRep TT w v (Dat.dv sh x):=by
 obtain⟨fuel,hf⟩:=h
 obtain⟨x,h1,h2⟩:=(trod_sh sh).1 t fuel _ _ ht hf
 refine⟨x,h1,?_⟩
 cases sh with
 | un=>simp[Az]at ht
 | pr f r=>
  simp only[Az,C6]at ht
  obtain⟨fs,hu⟩:∃ fs,P.underlying t=some (.struct fs):=by
   revert ht
   cases e':P.underlying t with
   | none=>simp
   | some u=>cases u<;>simp
  obtain⟨cs,rfl,-⟩:=okWide_struct hu hv
  have h3:Reps TT w cs.toList (Dat.cs (.pr f r) x):=h2
  have:=DRep.agg h3.len h3.one h3.rep
  simpa using this
 | _=>
  have hl:=h2.len
  have hlen:v.cells.toList.length=1:=by rw[hl];rfl
  have hv1:v.cells.toList=[v]:=by
   cases v<;>first|rfl|skip
   rename_i cs
   exfalso
   obtain⟨y,hy⟩:=List.length_eq_one_iff.1 hlen
   have hcs:P.underlying t≠none:=fun e=>by simp[Az,e]at ht
   simp only[Value.cells]at hy
   revert hv
   unfold Value.okWide
   cases e':P.underlying t with
   | none=>exact F9 e' hcs
   | some u=>cases u<;>first|(simp[Az,e']at ht;done)|(intro hv;simp[Cell.okWide,Cell.ok,e']at hv)
  rw[hv1]at h2
  exact h2.rep 0 v _ O O
end
section
variable {sq:Bool} {ops:Array Oper} {K:PS->Prop} {rest:List Oper} {st:PS} {d:Option Nat} {op:Op} {ty:TypeId} {pos:String} {af:Array Edge} {gd:Option (Nat×Bool)} {q:Nat×Bool}
theorem AW {f:Nat} {l:List Operand} {args:List SV} {bs bn:List (Nat×List SV)} {tt tn:List (Nat×Nat)} [hB:HasBody P f] (hc:Md P f args bs tt r bn tn) (hx:st.ev x=.fb f i off) (ha:.bx i off::l.map st.ev=args) (hbs:Fe st bs) (hts:Fd st tt)
 (h:YR P true ops K rest ((st.puts bn tn).put e r)) (hbk:bn.map (·.1)=bs.map (·.1):=by rfl) (htk:tn.map (·.1)=tt.map (·.1):=by rfl) (hfit:fitX args bs tt bn=true:=by rfl) (hd:G3 ⟨e,.call { callee:=.value x,args:=l.toArray,argTypes:=ts },ty,pos,af,gd⟩ st=true:=by kernel_rfl)
 (hw:st.want ops ⟨e,.call { callee:=.value x,args:=l.toArray,argTypes:=ts },ty,pos,af,gd⟩=some true:=by rfl):
 YR P true ops K (⟨e,.call { callee:=.value x,args:=l.toArray,argTypes:=ts },ty,pos,af,gd⟩::rest) st:=by
 refine .any O fun B w0 Q hQ g a w hr=>?_
 have hxe:=hr.eval x
 rw[hx]at hxe
 obtain⟨b,q1,q2⟩:=hxe
 have M3:=callX hr hc hbs hts hbk htk hfit (vals:=.pointer (some ⟨b,off,none⟩)::l.map a.eval) (by rw[<-ha];simp) (fun j v y hv hy=>by
  rw[<-ha]at hy
  cases j with
  | zero=>simp at hv hy;subst hv hy;exact⟨b,q1,O⟩
  | succ j=>
   rw[List.getElem?_cons_succ,B5,B7]at hy hv
   obtain⟨z,h1,rfl⟩:=hy
   obtain⟨z',h2,rfl⟩:=hv
   rw[h1]at h2
   cases h2
   exact hr.eval z)
 have hrun:(execOp a.eval ⟨e,.call { callee:=.value x,args:=l.toArray,argTypes:=ts },ty,pos,af,gd⟩).run P w=.ok (.enter f (.pointer (some ⟨b,off,none⟩)::l.map a.eval).toArray) w:=by
  simp only[execOp,resolve,q2,Deferred.ofValue,Sem.run_bind,Sem.run_pure,C1,invoke]
  rw[hB.run]
  simp
 unfold wpList
 rw[C2 (H9 hr hw)]
 refine .inl ?_
 unfold Oper.wp
 rw[hrun]
 show Calls P f _ w _
 refine M3.mono ?_
 rintro e' w' ⟨v,G,rfl,h3,h4⟩
 exact h.sound hQ (h4.put h3 _ (F5 (st:=st) hd))
theorem Ll (f:FuncId) (x:Operand) (h:st.ev x=.bx i off) (hd:G3 ⟨d,.makeFunc (.func f) #[x] #[],ty,pos,af,gd⟩ st=true):
 I7 P ⟨d,.makeFunc (.func f) #[x] #[],ty,pos,af,gd⟩ st (.fb f i off) .no:=fun st2 ha=>
 OpS.value (ha.dst hd) fun _ _ g a w hr=>by
  have h1:=hr.eval x
  rw[ha.ev x (by simp[Op.operands]),h]at h1
  obtain⟨b,q1,q2⟩:=h1
  refine⟨.func (.func f) #[.pointer (some ⟨b,off,none⟩)] #[],w,?_,Below.refl _ _,b,q1,O⟩
  simp[execOp,Instr.makeFunc,q2]
theorem yCmb {f:Nat} (hx:st.ev x=.bx i off) (h:YR P sq ops K rest (st.put d (.fb f i off))) (zz:zk ops st ⟨d,.makeFunc (.func f) #[x] #[],ty,pos,af,gd⟩ .no=true:=by kernel_rfl):
 YR P sq ops K (⟨d,.makeFunc (.func f) #[x] #[],ty,pos,af,gd⟩::rest) st:=I1 (Ll f x hx (zd zz)) (zo zz) (zw zz) h
inductive ToD (st:PS):SV->DV->Prop
 | d {x:SV} {y:DV} (h:toD x=some y):ToD st x y
 | bs {i n E k:Nat} {cs:List SV} {ds:List DV} {es:List (List DV)} (hlt:i<500000) (hi:st.bget i=some cs) (hds:P5 cs=some ds) (hn:ds.length=n*k) (hes:J4 k n ds=es):ToD st (.bs i n E k) (.sl k es)
theorem ToD.rep (hr:Rep B w0 g st a w) {x:SV} {y:DV} (h:ToD st x y) (hv:SRep g w v x):DRep (FxB g) w v y:=by
 cases h with
 | d h=>exact(hv.toD h).mono (Kp.same fun _ _ hf=>.inl hf)
 | bs hlt hi hds hn hes=>
  subst hes
  exact BA hr hlt hi hds hn hv (fun b o hb=>.inr ⟨_,hb⟩) (Kp.same fun _ _ hf=>.inl hf)
inductive ToDs (st:PS):List SV->List DV->Prop
 | nil:ToDs st [] []
 | cons {x:SV} {y:DV} {l:List SV} {ys:List DV} (h:ToD st x y) (hl:ToDs st l ys):ToDs st (x::l) (y::ys)
theorem ToDs.get {l:List SV} (h:ToDs st l ys):l.length=ys.length ∧ ∀ (j:Nat) x y,l[j]? = some x->ys[j]? = some y->ToD st x y:=by
 induction h with
 | nil=>exact⟨rfl,fun j x y hj=>by simp at hj⟩
 | cons h _ ih=>
  refine⟨by simp[ih.1],fun j x y hx hy=>?_⟩
  cases j with
  | zero=>simp at hx hy;subst hx hy;exact h
  | succ j=>exact ih.2 j x y (by simpa using hx) (by simpa using hy)
inductive BoxD (st:PS):List Nat->List (List DV)->Prop
 | nil:BoxD st [] []
 | cons {c:Nat} {cs:List SV} {ds:List DV} {l:List Nat} {css:List (List DV)} (hlt:c<500000) (hc:st.bget c=some cs) (hd:ToDs st cs ds) (hl:BoxD st l css):BoxD st (c::l) (ds::css)
theorem BoxD.get {l:List Nat} {css:List (List DV)} (h:BoxD st l css):l.length=css.length ∧ ∀ (j:Nat) c ds,l[j]? = some c->css[j]? = some ds->c<500000 ∧ ∃ cs,st.bget c=some cs∧ToDs st cs ds:=by
 induction h with
 | nil=>exact⟨rfl,fun j x y hj=>by simp at hj⟩
 | cons hlt hc hd _ ih=>
  refine⟨by simp[ih.1],fun j x y hx hy=>?_⟩
  cases j with
  | zero=>simp at hx hy;subst hx hy;exact⟨hlt,_,hc,hd⟩
  | succ j=>exact ih.2 j x y (by simpa using hx) (by simpa using hy)
inductive ArgG (P:Program) (st:PS):List SV->List DV->Prop
 | nil:ArgG P st [] []
 | d {x:SV} {y:DV} {l:List SV} {ys:List DV} (h:ToD st x y) (hl:ArgG P st l ys):ArgG P st (x::l) (y::ys)
 | fn {f:FuncId} {caps:List Nat} {css:List (List DV)} {φ:List DV->SV->Prop} {l:List SV} {ys:List DV} (hB:HasBody P f) (hcs:BoxD st caps css)
  (hc:∀ xs r,φ xs r->PCalls P f (xs++css.map .ref) r) (hl:ArgG P st l ys):ArgG P st (.fn f caps::l) (dF P φ::ys)
theorem LQ {c b:Nat} {cs:List SV} (hr:Rep B w0 g st a w) (hlt:c<500000) (hc:st.bget c=some cs) (hd:ToDs st cs ds) (hb:g.bl c=some b):DRep (FxB g) w (.pointer (some ⟨b,0,none⟩)) (.ref ds):=by
 obtain⟨b',xs,T,h1,h2,h3,h4,h5⟩:=hr.boxes c cs hc hlt
 rw[hb]at h1
 cases h1
 obtain⟨h6,h7⟩:=hd.get
 refine .ref (fun j=>(xs[j]?).getD undef) (fun j hj=>?_) (fun j x hx=>?_)
 . have hlt:j<xs.size:=by omega
   refine⟨?_,.inr ⟨c,hb⟩,?_⟩
   . simp[World.cell?,h2,hlt]
   . simp only[Array.getElem?_eq_getElem hlt,Option.getD_some];exact h5 j _ (by omega) (Array.getElem?_eq_getElem hlt)
 . have hjl:j<cs.length:=by rw[h6];exact(A6.1 hx).1
   obtain⟨u,h10,h11⟩:=h4 j _ (A4 hjl)
   simp only[h10,Option.getD_some]
   exact(h7 j _ x (A4 hjl) hx).rep hr h11
theorem MW {l:List SV} (hr:Rep B w0 g st a w) (h:ArgG P st l ys):
 ∀ vals:List Value,vals.length=l.length->(∀ (i:Nat) v x,vals[i]? = some v->l[i]? = some x->SRep g w v x)->l.length=ys.length ∧ ∀ (i:Nat) v y,vals[i]? = some v->ys[i]? = some y->DRep (FxB g) w v y:=by
 induction h with
 | nil=>exact fun vals hl _=>⟨rfl,fun i v x hv hx=>by simp at hx⟩
 | @d x y l ys h _ ih=>
  intro vals hl hv
  match vals,hl with
  | v::vals,hl=>
   obtain⟨h1,h2⟩:=ih vals (by simpa using hl) (fun i v' x' hv' hx'=>hv (i+1) v' x' (by simpa using hv') (by simpa using hx'))
   refine⟨by simp[h1],fun i v' y' hv' hy'=>?_⟩
   cases i with
   | zero=>simp at hv' hy';subst hv' hy';exact h.rep hr (hv 0 v x O O)
   | succ i=>exact h2 i v' y' (by simpa using hv') (by simpa using hy')
 | @fn f caps css φ l ys hB hcs hc _ ih=>
  intro vals hl hv
  match vals,hl with
  | v::vals,hl=>
   obtain⟨h1,h2⟩:=ih vals (by simpa using hl) (fun i v' x' hv' hx'=>hv (i+1) v' x' (by simpa using hv') (by simpa using hx'))
   refine⟨by simp[h1],fun i v' y' hv' hy'=>?_⟩
   cases i with
   | succ i=>exact h2 i v' y' (by simpa using hv') (by simpa using hy')
   | zero=>
    simp at hv' hy'
    subst hv' hy'
    obtain⟨bs,q1,q2,q3⟩:=hv 0 v (.fn f caps) rfl rfl
    obtain⟨q4,q5⟩:=hcs.get
    refine DRep.of_beh ⟨f,bs.map fun b=>Value.pointer (some ⟨b,0,none⟩),q1,hB.run,fun F' w' hk xs r vals hφ hl hv hgo=>?_⟩
    refine hc xs r hφ F' w' (vals++bs.map fun b=>Value.pointer (some ⟨b,0,none⟩)) (by simp[hl,q2,q4]) (fun j u y hu hy=>?_) hgo
    by_cases hj:j<xs.length
    . rw[E4 (by omega)]at hu hy
      exact hv j u y hu hy
    . rw[E6 (by omega)]at hu hy
      rw[hl]at hu
      rw[B5,B7]at hu hy
      obtain⟨b,h6,rfl⟩:=hu
      obtain⟨ds,h7,rfl⟩:=hy
      have hlt:j-xs.length<caps.length:=by rw[q4];exact(A6.1 h7).1
      obtain⟨h8a,cs,h8,h9⟩:=q5 _ _ ds (A4 hlt) h7
      exact(LQ hr h8a h8 h9 (q3 _ b _ h6 (A4 hlt))).mono hk
end
section
variable {sq:Bool} {ops:Array Oper} {K:PS->Prop} {rest:List Oper} {st:PS} {d:Option Nat} {op:Op} {ty:TypeId} {pos:String} {af:Array Edge} {gd:Option (Nat×Bool)} {q:Nat×Bool}
theorem T7 {n E k:Nat} (hx:st.ev y=.bs i n E k) (h:YR P sq ops K rest (st.put d (.bs i n E k))) (zz:zk ops st ⟨d,.move y,ty,pos,af,gd⟩ .no=true:=by kernel_rfl):YR P sq ops K (⟨d,.move y,ty,pos,af,gd⟩::rest) st:=I1 (lm (x:=.bs i n E k) hx (zd zz)) (zo zz) (zw zz) h
theorem En {n E k:Nat} (hx:st.ev y=.bs i n E k) (h:YR P sq ops K rest (st.put d (.bs i n E k))) (zz:zk ops st ⟨d,.assign y,ty,pos,af,gd⟩ .no=true:=by kernel_rfl):YR P sq ops K (⟨d,.assign y,ty,pos,af,gd⟩::rest) st:=I1 (la (x:=.bs i n E k) hx (zd zz)) (zo zz) (zw zz) h
theorem yLw {i' n' E' k':Nat} {cs:List SV} [AggOf P T false 1] (hx:st.ev y=.bx i off) (hi:st.bget i=some cs) (hc:cs[off]? = some (.bs i' n' E' k')) (h:YR P sq ops K rest (st.put d (.bs i' n' E' k'))) (zz:zk ops st ⟨d,.load T y,ty,pos,af,gd⟩ .no=true:=by kernel_rfl) (h5:Nat.blt i 500000=true:=by rfl):YR P sq ops K (⟨d,.load T y,ty,pos,af,gd⟩::rest) st:=I1 (Cw T y (B0 h5) hx hi hc (zd zz)) (zo zz) (zw zz) h
theorem ySw {i' n' E' k':Nat} {z:Operand} {cs cs':List SV} [AggOf P T false 1] (hz:st.ev z=.bx i off) (hi:st.bget i=some cs) (hy:st.ev y=.bs i' n' E' k') (hcs:cs.set off (.bs i' n' E' k')=cs') (h:YR P sq ops K rest ((st.bput i cs').put d .any)) (hle:Nat.blt off cs.length=true:=by kernel_rfl) (zz:zk ops st ⟨d,.store T z y,ty,pos,af,gd⟩ (.box i cs')=true:=by kernel_rfl) (h5:Nat.blt i 500000=true:=by rfl):YR P sq ops K (⟨d,.store T z y,ty,pos,af,gd⟩::rest) st:=by subst hcs;exact Bv (DO (x:=.bs i' n' E' k') (B0 h5) hz hi hy O (B0 hle) (zd zz)) (zo zz) (zw zz) h
theorem Ic (hx:st.ev y=.mb i) (h:YR P sq ops K rest (st.put d (.mb i))) (zz:zk ops st ⟨d,.move y,ty,pos,af,gd⟩ .no=true:=by kernel_rfl):YR P sq ops K (⟨d,.move y,ty,pos,af,gd⟩::rest) st:=I1 (lm (x:=.mb i) hx (zd zz)) (zo zz) (zw zz) h
theorem yAm (hx:st.ev y=.mb i) (h:YR P sq ops K rest (st.put d (.mb i))) (zz:zk ops st ⟨d,.assign y,ty,pos,af,gd⟩ .no=true:=by kernel_rfl):YR P sq ops K (⟨d,.assign y,ty,pos,af,gd⟩::rest) st:=I1 (la (x:=.mb i) hx (zd zz)) (zo zz) (zw zz) h
theorem Ft {f o:Nat} (hx:st.ev y=.fb f i o) (h:YR P sq ops K rest (st.put d (.fb f i o))) (zz:zk ops st ⟨d,.move y,ty,pos,af,gd⟩ .no=true:=by kernel_rfl):YR P sq ops K (⟨d,.move y,ty,pos,af,gd⟩::rest) st:=I1 (lm (x:=.fb f i o) hx (zd zz)) (zo zz) (zw zz) h
theorem yAg {f o:Nat} (hx:st.ev y=.fb f i o) (h:YR P sq ops K rest (st.put d (.fb f i o))) (zz:zk ops st ⟨d,.assign y,ty,pos,af,gd⟩ .no=true:=by kernel_rfl):YR P sq ops K (⟨d,.assign y,ty,pos,af,gd⟩::rest) st:=I1 (la (x:=.fb f i o) hx (zd zz)) (zo zz) (zw zz) h
end
class ArrOf (P:Program) (T:TypeId) (n:outParam Nat) (E:outParam TypeId) (k:outParam Nat):Prop where
 und:∀ w,(underlying T).run P w=.ok (.array n E) w
 size:∀ w,(Go.sizeOf E).run P w=.ok k w
theorem EY {p q:Nat->Option (Nat×Nat)} (h:∀ i x,p i=some x->q i=some x):∀ (ps:List (Nat×Value)) (cs:Array Value) c,Instr.fill p cs ps=some c->Instr.fill q cs ps=some c
 | [],_,_,hc=>hc
 | (i,v)::ps,cs,c,hc=>by
  unfold Instr.fill at hc ⊢
  cases e:p i with
  | none=>rw[e]at hc;cases hc
  | some x=>
   obtain⟨off,size⟩:=x
   rw[e]at hc
   rw[h i _ e]
   simp only at hc ⊢
   split at hc
   . cases hc
   . rename_i hn
     rw[B8 hn]
     exact EY h ps _ c hc
theorem Cf {E n k:Nat} {z:Value} [hA:ArrOf P T n E k] (hz:∀ w,(zeroValue T).run P w=.ok z w) (hzc:z.cells=zs.toArray) (one:∀ z∈zs,z.oneCell'=true):BuildOf P T ((List.range n).map fun i=>(i*k,k)) zs:=by
 refine⟨fun w parts cells h=>?_,one⟩
 have h2:Instr.fill (fun i=>some (i*k,k)) zs.toArray parts.toList=some cells:=EY (fun i x hx=>by
  have h3:((List.range n).map fun i=>(i*k,k))[i]? = some x:=by simpa using hx
  rw[B5,B7]at h3
  obtain⟨j,hj,rfl⟩:=h3
  have:=(A6.1 hj).2
  simp at this
  rw[<-this]) _ _ _ h
 unfold Instr.build
 simp only[Sem.run_bind,hz,C1,hA.und,hA.size,hzc,h2,Sem.run_pure]
section
variable {sq:Bool} {ops:Array Oper} {K:PS->Prop} {rest:List Oper} {st:PS} {d:Option Nat} {op:Op} {ty:TypeId} {pos:String} {af:Array Edge} {gd:Option (Nat×Bool)} {q:Nat×Bool}
theorem KC (T:TypeId) (x y:Operand) {cs:List DV} {n E:Nat} [hA:ArrOf P T n E 1] [hE:AggOf P E false 1] (hx:st.ev x=.d (.agg cs)) (hy:st.ev y=.d (.val (.int kd m))) (h0:0<=m) (hm:m<n) (hc:cs[m.toNat]? = some c) (hd:G3 ⟨d,.index T x y,ty,pos,af,gd⟩ st=true):
 I7 P ⟨d,.index T x y,ty,pos,af,gd⟩ st (.d c) .no:=fun st2 ha=>
 OpS.value (ha.dst hd) fun _ _ g a w h=>by
  have h1:=h.eval x
  rw[ha.ev x (by simp[Op.operands]),hx]at h1
  have h2:=h.eval y
  rw[ha.ev y (by simp[Op.operands]),hy]at h2
  generalize e:DV.agg cs=z at h1
  generalize hv:a.eval x=v at h1
  cases h1 with
  | val=>cases e
  | sl=>cases e
  | ref=>cases e
  | abs=>cases e
  | mp=>cases e
  | @agg xs cs' hl h3 h4=>
   cases e
   have hlt:m.toNat<xs.length:=by rw[hl];exact(A6.1 hc).1
   refine⟨xs[m.toNat],w,?_,Below.refl _ _,h4 _ _ c (A4 hlt) hc⟩
   have hn:0<=m∧m<(n:Int):=⟨h0,hm⟩
   simp only[execOp,hv,DRep.val_eq h2,Instr.index,asIntOf,Sem.run_bind,Sem.run_pure,C1,hA.und,hn,and_self,if_true,hA.size,Nat.mul_one,part,hE.run]
   simp[hlt]
theorem yIa {cs:List DV} {n E:Nat} [ArrOf P T n E 1] [AggOf P E false 1] (h0:0<=m) (hm:m<n) (hc:cs[m.toNat]? = some c) (hx:st.ev x=.d (.agg cs)) (hy:st.ev y=.d (.val (.int kd m))) (h:YR P sq ops K rest (st.put d (.d c))) (zz:zk ops st ⟨d,.index T x y,ty,pos,af,gd⟩ .no=true:=by kernel_rfl):
 YR P sq ops K (⟨d,.index T x y,ty,pos,af,gd⟩::rest) st:=I1 (KC T x y hx hy h0 hm hc (zd zz)) (zo zz) (zw zz) h
theorem app_one {vals:List Value} {xs:List DV} {x:DV} (hl:vals.length=xs.length) (hv:∀ (i:Nat) v x,vals[i]? = some v->xs[i]? = some x->DRep F w v x) (h:DRep F w v x):∀ (j:Nat) u y,(vals++[v])[j]? = some u->(xs++[x])[j]? = some y->DRep F w u y:=by
 intro j u y hu hy
 by_cases hj:j<xs.length
 . rw[E4 (by omega)]at hu hy
   exact hv j u y hu hy
 . rw[E6 (by omega)]at hu hy
   rw[hl]at hu
   cases e:j-xs.length with
   | zero=>rw[e]at hu hy;simp at hu hy;subst hu hy;exact h
   | succ n=>rw[e]at hu;simp at hu
theorem Lv {α:Type} {l:List α} {c:Nat} (h:l.length=[c].length):∃ b,l=[b]:=by
 match l,h with
 | [b],_=>exact⟨b,O⟩
theorem fn_beh (hB:HasBody P f) (hc:∀ xs r,φ xs r->PCalls P f xs r) (h:SRep g w v (.fn f [])):DRep (Fx g) w v (dF P φ):=by
 obtain⟨bs,h1,h2,-⟩:=h
 have:bs=[]:=List.eq_nil_of_length_eq_zero (by simpa using h2)
 subst this
 refine DRep.of_beh ⟨f,[],h1,hB.run,fun F' w' hk xs r vals hφ hl hv hgo=>?_⟩
 rw[List.append_nil]
 exact hc xs r hφ F' w' vals hl hv hgo
theorem cap_beh {p:Value} (hB:HasBody P f) (hc:∀ xs r,φ xs r->PCalls P f (xs++[.ref ds]) r) (h:DRep F w p (.ref ds)):DRep F w (.func (.func f) #[] [p].toArray) (dF P φ):=
 DRep.of_beh ⟨f,[p],rfl,hB.run,fun F' w' hk xs r vals hφ hl hv hgo=>hc xs r hφ F' w' (vals++[p]) (by rw[D1,D1,hl];rfl) (app_one hl hv (h.mono hk)) hgo⟩
variable {Q:Exit->PS->Prop} {c:Code}
theorem pw_fn1 (s i:Nat) (φ:List DV->SV->Prop) {cs:List SV} [hB:HasBody P f] (hc:∀ xs r,φ xs r->PCalls P f (xs++[.ref ds]) r) (hi:st.bget i=some cs) (hds:P5 cs=some ds) (hs:st.get s=.fn f [i]) (h:PW P B w0 c Q ((st.kill i).put (some s) (.d (dF P φ)))) (hlt:Nat.blt i 500000=true:=by rfl):PW P B w0 c Q st:=fun g a w hr=>by
 have hlt5:i<500000:=B0 hlt
 clear hlt
 obtain⟨ev,hr'⟩:=hr.kill i
 have hv:=hr.slots s
 rw[hs]at hv
 obtain⟨bs,h1,h2,h3⟩:=hv
 obtain⟨b,rfl⟩:∃ b,bs=[b]:=Lv h2
 have hb:=h3 0 b i rfl rfl
 have href:DRep (Fx (g.delb i)) w (.pointer (some ⟨b,0,none⟩)) (.ref ds):=by
  obtain⟨b',xs,T,q1,q2,q3,q4,q5⟩:=hr.boxes i cs hi hlt5
  rw[hb]at q1
  cases q1
  obtain⟨t1,t2⟩:=R0 hds
  refine .ref (fun j=>(xs[j]?).getD undef) (fun j hj=>?_) fun j x hx=>?_
  . obtain⟨u,hu⟩:∃ u,xs[j]? = some u:=⟨_,Array.getElem?_eq_getElem (by omega)⟩
    refine⟨?_,⟨(hr.blk i b hb).1 _,fun k hk=>?_,fun t T n' c' hT hTv=>?_⟩,?_⟩
    . rw[hu,Ac,Jp q2,D0,hu];rfl
    . obtain⟨h5,h6⟩:=Gh.delb_bl hk
      exact h6 (hr.inj k i b h5 hb)
    . exact F9 hb ((hr.toks t T hT).2 i b (by rw[hTv];rfl))
    . rw[hu];exact q5 j u (by omega) hu
  . obtain⟨c0,t3,t4⟩:=t2 j x hx
    obtain⟨u,t5,t6⟩:=q4 j c0 t3
    rw[t5]
    exact(t6.toD t4).mono ev.fx
 have hd:DRep (Fx (g.delb i)) w (a.tmps.getD s undef) (dF P φ):=by rw[h1];exact cap_beh hB hc href
 refine h _ a w { hr' with lim:=hr'.lim,size:=hr'.size,boxes:=hr'.boxes,maps:=hr'.maps,dom:=hr'.dom,tdom:=hr'.tdom,tlen:=hr'.tlen,glob:=hr'.glob,slots:=fun j=>?_ }
 rw[O5]
 by_cases e:j=s
 . rw[C2 e,e];exact hd
 . rw[B8 e];exact hr'.slots j
inductive PartF (P:Program) (st:PS):List (Nat×Operand)->List (Nat×List DV)->Prop
 | nil:PartF P st [] []
 | d {i:Nat} {x:Operand} {y:List DV} {l:List (Nat×Operand)} {ys:List (Nat×List DV)} (h:partD (st.ev x)=some y) (hl:PartF P st l ys):PartF P st ((i,x)::l) ((i,y)::ys)
 | fn {i:Nat} {x:Operand} {f:FuncId} {φ:List DV->SV->Prop} {l:List (Nat×Operand)} {ys:List (Nat×List DV)} (hB:HasBody P f) (hc:∀ xs r,φ xs r->PCalls P f xs r) (h:st.ev x=.fn f []) (hl:PartF P st l ys):PartF P st ((i,x)::l) ((i,[dF P φ])::ys)
theorem PartF.congr {st2:PS} {ys:List (Nat×List DV)} (h:PartF P st l ys) (h1:∀ p∈l,st2.ev p.2=st.ev p.2):PartF P st2 l ys:=by
 induction h with
 | nil=>exact .nil
 | @d i x y l ys h _ ih=>exact .d (by rw[h1 (i,x) (by simp)];exact h) (ih fun p hp=>h1 p (by simp[hp]))
 | @fn i x f φ l ys hB hc h _ ih=>exact .fn hB hc (by rw[h1 (i,x) (by simp)];exact h) (ih fun p hp=>h1 p (by simp[hp]))
theorem PartF.get {ys:List (Nat×List DV)} (h:PartF P st l ys) (hr:Rep B w0 g st a w):l.length=ys.length ∧ ∀ (j:Nat) p q,l[j]? = some p->ys[j]? = some q->p.1=q.1∧Reps (Fx g) w (a.eval p.2).cells.toList q.2:=by
 induction h with
 | nil=>exact⟨rfl,fun j p q hp=>by simp at hp⟩
 | @d i x y l ys h _ ih=>
  refine⟨by simp[ih.1],fun j p q hp hq=>?_⟩
  cases j with
  | zero=>simp at hp hq;subst hp hq;exact⟨rfl,(hr.eval x).partD h⟩
  | succ j=>exact ih.2 j p q (by simpa using hp) (by simpa using hq)
 | @fn i x f φ l ys hB hc h _ ih=>
  refine⟨by simp[ih.1],fun j p q hp hq=>?_⟩
  cases j with
  | zero=>
   simp at hp hq
   subst hp hq
   have hv:=hr.eval x
   rw[h]at hv
   have hd:=fn_beh hB hc hv
   obtain⟨bs,h1,-⟩:=hv
   refine⟨rfl,?_⟩
   simp only[h1]at hd ⊢
   refine⟨rfl,fun u hu=>?_,fun k u y hu hy=>?_⟩
   . simp[Value.cells]at hu;subst hu;rfl
   . cases k with
     | zero=>simp[Value.cells]at hu hy;subst hu hy;exact hd
     | succ k=>simp at hy
  | succ j=>exact ih.2 j p q (by simpa using hp) (by simpa using hq)
theorem KD (T:TypeId) (ps:List (Nat×Operand)) [hB:BuildOf P T places zs] (hq:PartF P st ps qs) (hf:AO (places.toArray[·]?) (zs.map .val) qs=some ys) (hd:G3 ⟨d,.build T ps.toArray,ty,pos,af,gd⟩ st=true):
 I7 P ⟨d,.build T ps.toArray,ty,pos,af,gd⟩ st (.d (.agg ys)) .no:=fun st2 ha=>
 OpS.value (ha.dst hd) fun _ _ g a w h=>by
  have hq2:PartF P st2 ps qs:=hq.congr fun p hp=>ha.ev p.2 (by
   simp only[Op.operands,List.mem_toArray,H5]
   exact⟨p,hp,O⟩)
  obtain⟨h1,h2⟩:=hq2.get h
  obtain⟨us,h3,h4⟩:=CO (F:=Fx g) (w:=w) (ps.map fun p=>(p.1,a.eval p.2)) qs zs.toArray (zs.map .val) ys (by simp[h1]) (fun i p q hp hq'=>by
   rw[B5,B7]at hp
   obtain⟨p',hp',rfl⟩:=hp
   exact h2 i p' q hp' hq') ⟨by simp,by simpa using hB.one,fun i v x hv hx=>by
    rw[B5]at hx
    have hv':zs[i]? = some v:=by simpa using hv
    rw[hv']at hx
    cases hx
    exact DRep.val v (hB.one v (B2 hv'))⟩ hf
  refine⟨.agg us,w,?_,Below.refl _ _,?_⟩
  . simp only[execOp,Sem.run_bind,List.map_toArray]
    rw[hB.run w _ us (by simpa using h3)]
    rfl
  . have:us=us.toList.toArray:=by simp
    rw[this]
    exact DRep.agg h4.len h4.one h4.rep
theorem yGf {ps:List (Nat×Operand)} [BuildOf P T places zs] (hq:PartF P st ps qs) (hf:AO (places.toArray[·]?) (zs.map .val) qs=some ys) (h:YR P sq ops K rest (st.put d (.d (.agg ys)))) (zz:zk ops st ⟨d,.build T ps.toArray,ty,pos,af,gd⟩ .no=true:=by kernel_rfl):
 YR P sq ops K (⟨d,.build T ps.toArray,ty,pos,af,gd⟩::rest) st:=I1 (KD T ps hq hf (zd zz)) (zo zz) (zw zz) h
theorem yCgv {l:List Operand} (hc:φ ys r) (hx:st.ev x=.d (dF P φ)) (ha:ArgG P st (l.map st.ev) ys) (hp:FM r=true) (h:YR P true ops K rest (st.put e r)) (hd:G3 ⟨e,.call { callee:=.value x,args:=l.toArray,argTypes:=ts },ty,pos,af,gd⟩ st=true:=by kernel_rfl)
 (hw:st.want ops ⟨e,.call { callee:=.value x,args:=l.toArray,argTypes:=ts },ty,pos,af,gd⟩=some true:=by rfl):
 YR P true ops K (⟨e,.call { callee:=.value x,args:=l.toArray,argTypes:=ts },ty,pos,af,gd⟩::rest) st:=by
 refine .any O fun B w0 Q hQ g a w hr=>?_
 obtain⟨h1,h2⟩:=MW hr ha (l.map a.eval) (by simp) (fun i v x hv hx=>by
  rw[B5,B7]at hv hx
  obtain⟨z,h1,rfl⟩:=hv
  obtain⟨z',h2,rfl⟩:=hx
  rw[h1]at h2
  cases h2
  exact hr.eval z)
 have hxe:=hr.eval x
 rw[hx]at hxe
 obtain⟨f,caps,hv,hB,hb⟩:=DRep.beh hxe
 have M3:=hb (FxB g) w (Kp.same fun b o hf=>.inl hf) ys r (l.map a.eval) hc (by simpa using h1) h2 (hr.gok.mono (Kp.same fun b o hf=>.inl hf))
 have hrun:(execOp a.eval ⟨e,.call { callee:=.value x,args:=l.toArray,argTypes:=ts },ty,pos,af,gd⟩).run P w=.ok (.enter f (l.map a.eval++caps).toArray) w:=by
  simp only[execOp,resolve,hv,Deferred.ofValue,Sem.run_bind,Sem.run_pure,C1,invoke]
  rw[hB]
  simp
 unfold wpList
 rw[C2 (H9 hr hw)]
 refine .inl ?_
 unfold Oper.wp
 rw[hrun]
 show Calls P f _ w _
 refine M3.mono ?_
 rintro e' w' ⟨v,rfl,h3,h4⟩
 exact h.sound hQ ((hr.grow h4).put (h3.plain hp) _ (F5 (st:=st) hd))
end
instance:AggOf Tryz.prog 3 false 1:=⟨fun _=>by kernel_rfl,fun _=>by kernel_rfl⟩
instance:UndI Tryz.prog 3 .i64:=⟨fun _=>by kernel_rfl⟩
instance:AggOf Tryz.prog 4 false 1:=⟨fun _=>by kernel_rfl,fun _=>by kernel_rfl⟩
instance:AggOf Tryz.prog 5 false 1:=⟨fun _=>by kernel_rfl,fun _=>by kernel_rfl⟩
instance:UndI Tryz.prog 5 .u8:=⟨fun _=>by kernel_rfl⟩
instance:AggOf Tryz.prog 9 false 1:=⟨fun _=>by kernel_rfl,fun _=>by kernel_rfl⟩
instance:UndS Tryz.prog 9:=⟨fun _=>by kernel_rfl⟩
instance:AggOf Tryz.prog 22 false 1:=⟨fun _=>by kernel_rfl,fun _=>by kernel_rfl⟩
instance:AggOf Tryz.prog 23 false 1:=⟨fun _=>by kernel_rfl,fun _=>by kernel_rfl⟩
instance:SliceOf Tryz.prog 23 55 2:=⟨fun _=>by kernel_rfl,fun _=>by kernel_rfl⟩
theorem Tryz.inf23:(Tryz.prog.info? 55).map (fun i=>(i.zero,i.size,i.bytes))=some (some (Value.agg #[.string ⟨#[]⟩,.string ⟨#[]⟩]),2,32):=by kernel_rfl
instance:AppOf Tryz.prog 23 55 2 32:=R9 (z:=Value.agg #[.string ⟨#[]⟩,.string ⟨#[]⟩]) (by kernel_rfl) Tryz.inf23 rfl
instance:LitOf Tryz.prog 23 55 2 [.string ⟨#[]⟩,.string ⟨#[]⟩]:=⟨fun _=>by kernel_rfl,fun _=>by kernel_rfl,fun _=>⟨Value.agg #[.string ⟨#[]⟩,.string ⟨#[]⟩],by kernel_rfl,rfl⟩,rfl,by simp[Value.oneCell']⟩
instance:AggOf Tryz.prog 24 false 1:=⟨fun _=>by kernel_rfl,fun _=>by kernel_rfl⟩
instance:SliceOf Tryz.prog 24 44 5:=⟨fun _=>by kernel_rfl,fun _=>by kernel_rfl⟩
instance:LitOf Tryz.prog 24 44 5 [.string ⟨#[]⟩,.int .i64 0,.string ⟨#[]⟩,.string ⟨#[]⟩,.string ⟨#[]⟩]:=⟨fun _=>by kernel_rfl,fun _=>by kernel_rfl,fun _=>⟨Value.agg #[.string ⟨#[]⟩,.int .i64 0,.string ⟨#[]⟩,.string ⟨#[]⟩,.string ⟨#[]⟩],by kernel_rfl,rfl⟩,rfl,by simp[Value.oneCell']⟩
instance:AggOf Tryz.prog 26 true 3:=⟨fun _=>by kernel_rfl,fun _=>by kernel_rfl⟩
instance:ZeroOf Tryz.prog 26 [.int .i64 0,.slice none 0 0,.slice none 0 0]:=⟨fun _=>⟨Value.agg #[.int .i64 0,.slice none 0 0,.slice none 0 0],by kernel_rfl,rfl⟩,by simp[Value.oneCell']⟩
instance:FieldOf Tryz.prog 26 0 0 22:=⟨fun _ _=>by kernel_rfl,fun _ _=>by kernel_rfl⟩
instance:FieldOf Tryz.prog 26 1 1 23:=⟨fun _ _=>by kernel_rfl,fun _ _=>by kernel_rfl⟩
instance:FieldOf Tryz.prog 26 2 2 24:=⟨fun _ _=>by kernel_rfl,fun _ _=>by kernel_rfl⟩
instance:BuildOf Tryz.prog 26 [(0,1),(1,1),(2,1)] [.int .i64 0,.slice none 0 0,.slice none 0 0]:=U3 (z:=Value.agg #[.int .i64 0,.slice none 0 0,.slice none 0 0]) (fs:=Tryz.prog.fieldsOf 26) (fun _=>by kernel_rfl) rfl (fun _=>by kernel_rfl) (fun _=>by kernel_rfl) (by simp[Value.oneCell'])
instance:SliceOf Tryz.prog 29 37 2:=⟨fun _=>by kernel_rfl,fun _=>by kernel_rfl⟩
theorem Tryz.inf29:(Tryz.prog.info? 37).map (fun i=>(i.zero,i.size,i.bytes))=some (some (Value.agg #[.int .i64 0,.int .i64 0]),2,16):=by kernel_rfl
instance:AppOf Tryz.prog 29 37 2 16:=R9 (z:=Value.agg #[.int .i64 0,.int .i64 0]) (by kernel_rfl) Tryz.inf29 rfl
instance:LitOf Tryz.prog 29 37 2 [.int .i64 0,.int .i64 0]:=⟨fun _=>by kernel_rfl,fun _=>by kernel_rfl,fun _=>⟨Value.agg #[.int .i64 0,.int .i64 0],by kernel_rfl,rfl⟩,rfl,by simp[Value.oneCell']⟩
instance:AggOf Tryz.prog 33 false 1:=⟨fun _=>by kernel_rfl,fun _=>by kernel_rfl⟩
instance:SliceOf Tryz.prog 33 41 4:=⟨fun _=>by kernel_rfl,fun _=>by kernel_rfl⟩
theorem Tryz.inf33:(Tryz.prog.info? 41).map (fun i=>(i.zero,i.size,i.bytes))=some (some (Value.agg #[.int .i64 0,.string ⟨#[]⟩,.string ⟨#[]⟩,.string ⟨#[]⟩]),4,56):=by kernel_rfl
instance:AppOf Tryz.prog 33 41 4 56:=R9 (z:=Value.agg #[.int .i64 0,.string ⟨#[]⟩,.string ⟨#[]⟩,.string ⟨#[]⟩]) (by kernel_rfl) Tryz.inf33 rfl
instance:LitOf Tryz.prog 33 41 4 [.int .i64 0,.string ⟨#[]⟩,.string ⟨#[]⟩,.string ⟨#[]⟩]:=⟨fun _=>by kernel_rfl,fun _=>by kernel_rfl,fun _=>⟨Value.agg #[.int .i64 0,.string ⟨#[]⟩,.string ⟨#[]⟩,.string ⟨#[]⟩],by kernel_rfl,rfl⟩,rfl,by simp[Value.oneCell']⟩
instance:AggOf Tryz.prog 37 true 2:=⟨fun _=>by kernel_rfl,fun _=>by kernel_rfl⟩
instance:ArrOf Tryz.prog 37 2 3 1:=⟨fun _=>by kernel_rfl,fun _=>by kernel_rfl⟩
instance:BuildOf Tryz.prog 37 ((List.range 2).map fun i=>(i*1,1)) [.int .i64 0,.int .i64 0]:=Cf (z:=Value.agg #[.int .i64 0,.int .i64 0]) (fun _=>by kernel_rfl) rfl (by simp[Value.oneCell'])
instance:AggOf Tryz.prog 39 false 1:=⟨fun _=>by kernel_rfl,fun _=>by kernel_rfl⟩
instance:UndS Tryz.prog 39:=⟨fun _=>by kernel_rfl⟩
instance:AggOf Tryz.prog 41 true 4:=⟨fun _=>by kernel_rfl,fun _=>by kernel_rfl⟩
instance:ZeroOf Tryz.prog 41 [.int .i64 0,.string ⟨#[]⟩,.string ⟨#[]⟩,.string ⟨#[]⟩]:=⟨fun _=>⟨Value.agg #[.int .i64 0,.string ⟨#[]⟩,.string ⟨#[]⟩,.string ⟨#[]⟩],by kernel_rfl,rfl⟩,by simp[Value.oneCell']⟩
instance:FieldOf Tryz.prog 41 1 1 9:=⟨fun _ _=>by kernel_rfl,fun _ _=>by kernel_rfl⟩
instance:FieldOf Tryz.prog 41 2 2 39:=⟨fun _ _=>by kernel_rfl,fun _ _=>by kernel_rfl⟩
instance:FieldOf Tryz.prog 41 3 3 39:=⟨fun _ _=>by kernel_rfl,fun _ _=>by kernel_rfl⟩
instance:BuildOf Tryz.prog 41 [(0,1),(1,1),(2,1),(3,1)] [.int .i64 0,.string ⟨#[]⟩,.string ⟨#[]⟩,.string ⟨#[]⟩]:=U3 (z:=Value.agg #[.int .i64 0,.string ⟨#[]⟩,.string ⟨#[]⟩,.string ⟨#[]⟩]) (fs:=Tryz.prog.fieldsOf 41) (fun _=>by kernel_rfl) rfl (fun _=>by kernel_rfl) (fun _=>by kernel_rfl) (by simp[Value.oneCell'])
instance:AggOf Tryz.prog 44 true 5:=⟨fun _=>by kernel_rfl,fun _=>by kernel_rfl⟩
instance:ZeroOf Tryz.prog 44 [.string ⟨#[]⟩,.int .i64 0,.string ⟨#[]⟩,.string ⟨#[]⟩,.string ⟨#[]⟩]:=⟨fun _=>⟨Value.agg #[.string ⟨#[]⟩,.int .i64 0,.string ⟨#[]⟩,.string ⟨#[]⟩,.string ⟨#[]⟩],by kernel_rfl,rfl⟩,by simp[Value.oneCell']⟩
instance:FieldOf Tryz.prog 44 0 0 9:=⟨fun _ _=>by kernel_rfl,fun _ _=>by kernel_rfl⟩
instance:FieldOf Tryz.prog 44 1 1 22:=⟨fun _ _=>by kernel_rfl,fun _ _=>by kernel_rfl⟩
instance:FieldOf Tryz.prog 44 2 2 9:=⟨fun _ _=>by kernel_rfl,fun _ _=>by kernel_rfl⟩
instance:FieldOf Tryz.prog 44 3 3 39:=⟨fun _ _=>by kernel_rfl,fun _ _=>by kernel_rfl⟩
instance:FieldOf Tryz.prog 44 4 4 39:=⟨fun _ _=>by kernel_rfl,fun _ _=>by kernel_rfl⟩
instance:BuildOf Tryz.prog 44 [(0,1),(1,1),(2,1),(3,1),(4,1)] [.string ⟨#[]⟩,.int .i64 0,.string ⟨#[]⟩,.string ⟨#[]⟩,.string ⟨#[]⟩]:=U3 (z:=Value.agg #[.string ⟨#[]⟩,.int .i64 0,.string ⟨#[]⟩,.string ⟨#[]⟩,.string ⟨#[]⟩]) (fs:=Tryz.prog.fieldsOf 44) (fun _=>by kernel_rfl) rfl (fun _=>by kernel_rfl) (fun _=>by kernel_rfl) (by simp[Value.oneCell'])
instance:SliceOf Tryz.prog 49 3 1:=⟨fun _=>by kernel_rfl,fun _=>by kernel_rfl⟩
theorem Tryz.inf49:(Tryz.prog.info? 3).map (fun i=>(i.zero,i.size,i.bytes))=some (some ((.int .i64 0:Value)),1,8):=by kernel_rfl
instance:AppOf Tryz.prog 49 3 1 8:=R9 (z:=(.int .i64 0:Value)) (by kernel_rfl) Tryz.inf49 rfl
instance:LitOf Tryz.prog 49 3 1 [.int .i64 0]:=⟨fun _=>by kernel_rfl,fun _=>by kernel_rfl,fun _=>⟨(.int .i64 0:Value),by kernel_rfl,rfl⟩,rfl,by simp[Value.oneCell']⟩
instance:AggOf Tryz.prog 55 true 2:=⟨fun _=>by kernel_rfl,fun _=>by kernel_rfl⟩
instance:ZeroOf Tryz.prog 55 [.string ⟨#[]⟩,.string ⟨#[]⟩]:=⟨fun _=>⟨Value.agg #[.string ⟨#[]⟩,.string ⟨#[]⟩],by kernel_rfl,rfl⟩,by simp[Value.oneCell']⟩
instance:FieldOf Tryz.prog 55 0 0 9:=⟨fun _ _=>by kernel_rfl,fun _ _=>by kernel_rfl⟩
instance:FieldOf Tryz.prog 55 1 1 39:=⟨fun _ _=>by kernel_rfl,fun _ _=>by kernel_rfl⟩
instance:BuildOf Tryz.prog 55 [(0,1),(1,1)] [.string ⟨#[]⟩,.string ⟨#[]⟩]:=U3 (z:=Value.agg #[.string ⟨#[]⟩,.string ⟨#[]⟩]) (fs:=Tryz.prog.fieldsOf 55) (fun _=>by kernel_rfl) rfl (fun _=>by kernel_rfl) (fun _=>by kernel_rfl) (by simp[Value.oneCell'])
instance:SliceOf Tryz.prog 62 9 1:=⟨fun _=>by kernel_rfl,fun _=>by kernel_rfl⟩
theorem Tryz.inf62:(Tryz.prog.info? 9).map (fun i=>(i.zero,i.size,i.bytes))=some (some ((.string ⟨#[]⟩:Value)),1,16):=by kernel_rfl
instance:AppOf Tryz.prog 62 9 1 16:=R9 (z:=(.string ⟨#[]⟩:Value)) (by kernel_rfl) Tryz.inf62 rfl
instance:LitOf Tryz.prog 62 9 1 [.string ⟨#[]⟩]:=⟨fun _=>by kernel_rfl,fun _=>by kernel_rfl,fun _=>⟨(.string ⟨#[]⟩:Value),by kernel_rfl,rfl⟩,rfl,by simp[Value.oneCell']⟩
instance:AggOf Tryz.prog 73 false 1:=⟨fun _=>by kernel_rfl,fun _=>by kernel_rfl⟩
instance:ZeroOf Tryz.prog 73 [.slice none 0 0]:=⟨fun _=>⟨(.slice none 0 0:Value),by kernel_rfl,rfl⟩,by simp[Value.oneCell']⟩
instance:SliceOf Tryz.prog 73 4 1:=⟨fun _=>by kernel_rfl,fun _=>by kernel_rfl⟩
theorem Tryz.inf73:(Tryz.prog.info? 4).map (fun i=>(i.zero,i.size,i.bytes))=some (some ((.bool false:Value)),1,1):=by kernel_rfl
instance:AppOf Tryz.prog 73 4 1 1:=R9 (z:=(.bool false:Value)) (by kernel_rfl) Tryz.inf73 rfl
instance:LitOf Tryz.prog 73 4 1 [.bool false]:=⟨fun _=>by kernel_rfl,fun _=>by kernel_rfl,fun _=>⟨(.bool false:Value),by kernel_rfl,rfl⟩,rfl,by simp[Value.oneCell']⟩
instance:ZeroOf Tryz.prog 78 [.slice none 0 0]:=⟨fun _=>⟨Value.agg #[.slice none 0 0],by kernel_rfl,rfl⟩,by simp[Value.oneCell']⟩
instance:FieldOf Tryz.prog 78 0 0 33:=⟨fun _ _=>by kernel_rfl,fun _ _=>by kernel_rfl⟩
instance:SliceOf Tryz.prog 88 33 1:=⟨fun _=>by kernel_rfl,fun _=>by kernel_rfl⟩
instance:LitOf Tryz.prog 88 33 1 [.slice none 0 0]:=⟨fun _=>by kernel_rfl,fun _=>by kernel_rfl,fun _=>⟨(.slice none 0 0:Value),by kernel_rfl,rfl⟩,rfl,by simp[Value.oneCell']⟩
instance:AggOf Tryz.prog 91 false 1:=⟨fun _=>by kernel_rfl,fun _=>by kernel_rfl⟩
instance:SliceOf Tryz.prog 91 130 1:=⟨fun _=>by kernel_rfl,fun _=>by kernel_rfl⟩
theorem Tryz.inf91:(Tryz.prog.info? 130).map (fun i=>(i.zero,i.size,i.bytes))=some (some ((.int .u64 0:Value)),1,8):=by kernel_rfl
instance:AppOf Tryz.prog 91 130 1 8:=R9 (z:=(.int .u64 0:Value)) (by kernel_rfl) Tryz.inf91 rfl
instance:LitOf Tryz.prog 91 130 1 [.int .u64 0]:=⟨fun _=>by kernel_rfl,fun _=>by kernel_rfl,fun _=>⟨(.int .u64 0:Value),by kernel_rfl,rfl⟩,rfl,by simp[Value.oneCell']⟩
instance:AggOf Tryz.prog 93 true 2:=⟨fun _=>by kernel_rfl,fun _=>by kernel_rfl⟩
instance:ZeroOf Tryz.prog 93 [.bool false,.slice none 0 0]:=⟨fun _=>⟨Value.agg #[.bool false,.slice none 0 0],by kernel_rfl,rfl⟩,by simp[Value.oneCell']⟩
instance:FieldOf Tryz.prog 93 0 0 4:=⟨fun _ _=>by kernel_rfl,fun _ _=>by kernel_rfl⟩
instance:FieldOf Tryz.prog 93 1 1 91:=⟨fun _ _=>by kernel_rfl,fun _ _=>by kernel_rfl⟩
instance:BuildOf Tryz.prog 93 [(0,1),(1,1)] [.bool false,.slice none 0 0]:=U3 (z:=Value.agg #[.bool false,.slice none 0 0]) (fs:=Tryz.prog.fieldsOf 93) (fun _=>by kernel_rfl) rfl (fun _=>by kernel_rfl) (fun _=>by kernel_rfl) (by simp[Value.oneCell'])
instance:AggOf Tryz.prog 110 false 1:=⟨fun _=>by kernel_rfl,fun _=>by kernel_rfl⟩
instance:AggOf Tryz.prog 112 true 2:=⟨fun _=>by kernel_rfl,fun _=>by kernel_rfl⟩
instance:ZeroOf Tryz.prog 112 [.nilFunc,.nilFunc]:=⟨fun _=>⟨Value.agg #[.nilFunc,.nilFunc],by kernel_rfl,rfl⟩,by simp[Value.oneCell']⟩
instance:ArrOf Tryz.prog 112 2 110 1:=⟨fun _=>by kernel_rfl,fun _=>by kernel_rfl⟩
instance:BuildOf Tryz.prog 112 ((List.range 2).map fun i=>(i*1,1)) [.nilFunc,.nilFunc]:=Cf (z:=Value.agg #[.nilFunc,.nilFunc]) (fun _=>by kernel_rfl) rfl (by simp[Value.oneCell'])
instance:SliceOf Tryz.prog 121 23 1:=⟨fun _=>by kernel_rfl,fun _=>by kernel_rfl⟩
instance:LitOf Tryz.prog 121 23 1 [.slice none 0 0]:=⟨fun _=>by kernel_rfl,fun _=>by kernel_rfl,fun _=>⟨(.slice none 0 0:Value),by kernel_rfl,rfl⟩,rfl,by simp[Value.oneCell']⟩
instance:AggOf Tryz.prog 130 false 1:=⟨fun _=>by kernel_rfl,fun _=>by kernel_rfl⟩
instance:AggOf Tryz.prog 136 false 1:=⟨fun _=>by kernel_rfl,fun _=>by kernel_rfl⟩
instance:AggOf Tryz.prog 137 false 1:=⟨fun _=>by kernel_rfl,fun _=>by kernel_rfl⟩
instance:SliceOf Tryz.prog 137 5 1:=⟨fun _=>by kernel_rfl,fun _=>by kernel_rfl⟩
theorem Tryz.inf137:(Tryz.prog.info? 5).map (fun i=>(i.zero,i.size,i.bytes))=some (some ((.int .u8 0:Value)),1,1):=by kernel_rfl
instance:AppOf Tryz.prog 137 5 1 1:=R9 (z:=(.int .u8 0:Value)) (by kernel_rfl) Tryz.inf137 rfl
instance:LitOf Tryz.prog 137 5 1 [.int .u8 0]:=⟨fun _=>by kernel_rfl,fun _=>by kernel_rfl,fun _=>⟨(.int .u8 0:Value),by kernel_rfl,rfl⟩,rfl,by simp[Value.oneCell']⟩
instance:ZeroOf Tryz.prog 139 [.pointer none,.slice none 0 0]:=⟨fun _=>⟨Value.agg #[.pointer none,.slice none 0 0],by kernel_rfl,rfl⟩,by simp[Value.oneCell']⟩
instance:FieldOf Tryz.prog 139 0 0 136:=⟨fun _ _=>by kernel_rfl,fun _ _=>by kernel_rfl⟩
instance:FieldOf Tryz.prog 139 1 1 137:=⟨fun _ _=>by kernel_rfl,fun _ _=>by kernel_rfl⟩
instance:SliceOf Tryz.prog 215 39 1:=⟨fun _=>by kernel_rfl,fun _=>by kernel_rfl⟩
instance:LitOf Tryz.prog 215 39 1 [.string ⟨#[]⟩]:=⟨fun _=>by kernel_rfl,fun _=>by kernel_rfl,fun _=>⟨(.string ⟨#[]⟩:Value),by kernel_rfl,rfl⟩,rfl,by simp[Value.oneCell']⟩
abbrev HZ:=HasBody Tryz.prog
theorem hB (h:∀ w args,(callFunc f args).run P w=.ok (.enter f args) w:=by exact fun _ _=>by kernel_rfl):HasBody P f:=⟨h⟩
instance:HZ 10:=hB
instance:HZ 11:=hB
instance:HZ 12:=hB
instance:HZ 14:=hB
instance:HZ 16:=hB
instance:HZ 18:=hB
instance:HZ 19:=hB
instance:HZ 22:=hB
instance:HZ 24:=hB
instance:HZ 26:=hB
instance:HZ 27:=hB
instance:HZ 31:=hB
instance:HZ 35:=hB
instance:HZ 37:=hB
instance:HZ 38:=hB
instance:HZ 39:=hB
instance:HZ 40:=hB
instance:HZ 41:=hB
instance:HZ 44:=hB
instance:HZ 45:=hB
instance:HZ 48:=hB
instance:HZ 49:=hB
instance:HZ 50:=hB
instance:HZ 51:=hB
instance:HZ 52:=hB
instance:HZ 53:=hB
instance:HZ 54:=hB
instance:HZ 55:=hB
instance:HZ 56:=hB
instance:HZ 57:=hB
instance:HZ 58:=hB
instance:HZ 59:=hB
instance:HZ 62:=hB
instance:HZ 65:=hB
instance:HZ 66:=hB
instance:HZ 67:=hB
instance:HZ 68:=hB
instance:HZ 69:=hB
instance:HZ 70:=hB
instance:HZ 71:=hB
instance:HZ 73:=hB
instance:HZ 74:=hB
instance:HZ 80:=hB
instance:HZ 83:=hB
instance:HZ 84:=hB
instance:HZ 85:=hB
instance:HZ 86:=hB
instance:HZ 87:=hB
instance:HZ 88:=hB
instance:HZ 89:=hB
instance:HZ 90:=hB
instance:HZ 91:=hB
instance:HZ 92:=hB
instance:HZ 93:=hB
instance:HZ 94:=hB
instance:HZ 98:=hB
instance:HZ 99:=hB
instance:HZ 100:=hB
instance:HZ 101:=hB
instance:HZ 102:=hB
instance:HZ 116:=hB
instance:HZ 117:=hB
instance:HZ 118:=hB
instance:HZ 119:=hB
instance:HZ 120:=hB
instance:HZ 122:=hB
instance:HZ 123:=hB
instance:HZ 128:=hB
instance:HZ 141:=hB
instance:HZ 142:=hB
instance:HZ 150:=hB
instance:HZ 171:=hB
instance:HZ 179:=hB
instance:HZ 180:=hB
instance:HZ 196:=hB
theorem Tryz.mixed:Tryz.prog.follows .mixedOrders=true:=by kernel_rfl
end Go.Proofs.YtdkpmnefoobipaaGreatDoor.Px
namespace Go.Proofs.YtdkpmnefoobipaaGreatDoor
variable {d n:Nat} {b:UInt8}
abbrev F4:=List UInt8
def S7 (b:UInt8):Bool:=decide (48<=b.toNat)&&decide (b.toNat<=57)
def dv (b:UInt8):Nat:=b.toNat-48
def H0 (l:F4):Nat:=l.foldl (fun n b=>10*n+dv b) 0
def dig (d:Nat):UInt8:=UInt8.ofNat (48+d)
def AP (n:Nat):F4:=if _:n=0 then []else AP (n / 10)++[dig (n % 10)]
termination_by n
decreasing_by exact Nat.div_lt_self (by omega) (by omega)
def G8 (z:Int):F4:=if z<0 then 45::AP z.natAbs else AP z.natAbs
def AM (a:F4):F4:=if a.head? = some 45 then a.tail else a
def K4 (a:F4):F4×Bool:=if (AM a).all S7 then ((AM a).dropWhile (· == 48),decide (a.head? = some 45) && !((AM a).dropWhile (· == 48)).isEmpty)else ([],false)
theorem DP {α:Type} {p:List α->Prop} (h0:p []) (h1:∀ l b,p l->p (l++[b])) (l:List α):p l:=by
 have:∀ r:List α,p r.reverse:=by
  intro r
  induction r with
  | nil=>simpa using h0
  | cons b r ih=>rw[List.reverse_cons];exact h1 _ _ ih
 simpa using this l.reverse
def val (a:F4):Int:=if (K4 a).2 then -(H0 (K4 a).1:Int)else H0 (K4 a).1
theorem Ao (h:d<10):(dig d).toNat=48+d:=by
 unfold dig
 rw[UInt8.toNat_ofNat']
 omega
theorem isD_dig (h:d<10):S7 (dig d)=true:=by
 unfold S7
 rw[Ao h]
 simp
 omega
theorem dv_dig (h:d<10):dv (dig d)=d:=by
 unfold dv
 rw[Ao h]
 omega
theorem MP (h:S7 b=true):dv b<10:=by
 simp[S7]at h
 unfold dv
 omega
theorem IF (h:S7 b=true):dig (dv b)=b:=by
 simp[S7]at h
 apply UInt8.toNat_inj.1
 rw[Ao (by unfold dv;omega)]
 unfold dv
 omega
theorem Q5 (l:F4) (b:UInt8):H0 (l++[b])=10*H0 l+dv b:=by simp[H0]
theorem FT (l r:F4):H0 (l++r)=H0 l*10 ^ r.length+H0 r:=by
 induction r using DP with
 | h0=>simp[H0]
 | h1 r b ih=>
  rw[<-E8,Q5,ih,Q5,D1,List.length_singleton,Nat.pow_succ]
  rw[Nat.mul_add,<-Nat.mul_assoc,Nat.mul_comm 10 (H0 l),Nat.mul_assoc (H0 l) 10,Nat.mul_comm 10 (10 ^ r.length)]
  omega
theorem K3:AP 0=[]:=by rw[AP];simp
theorem V0 (h:n≠0):AP n=AP (n / 10)++[dig (n % 10)]:=by rw[AP];simp[h]
theorem CH (n:Nat):H0 (AP n)=n:=by
 induction n using Nat.strongRecOn with
 | _ n ih=>
  by_cases h:n=0
  . subst h;rw[K3];rfl
  . rw[V0 h,Q5,ih (n / 10) (Nat.div_lt_self (by omega) (by omega)),dv_dig (Nat.mod_lt _ (by omega))]
    omega
theorem Fn (n:Nat):(AP n).all S7=true:=by
 induction n using Nat.strongRecOn with
 | _ n ih=>
  by_cases h:n=0
  . subst h;rw[K3];rfl
  . rw[V0 h,List.all_append,ih (n / 10) (Nat.div_lt_self (by omega) (by omega))]
    simp[isD_dig (Nat.mod_lt n (by omega:0<10))]
theorem JW:AP n=[]↔n=0:=by
 constructor
 . intro h
   have:=CH n
   rw[h]at this
   exact this.symm
 . rintro rfl;exact K3
theorem Gw (n:Nat):(AP n).head? ≠ some 48:=by
 induction n using Nat.strongRecOn with
 | _ n ih=>
  by_cases h:n=0
  . subst h;rw[K3];simp
  . rw[V0 h]
    by_cases h':n / 10=0
    . rw[h',K3]
      have hlt:n<10:=by omega
      rw[Nat.mod_eq_of_lt hlt]
      simp only[List.nil_append,List.head?_cons,ne_eq,Option.some.injEq]
      intro e
      have:=H4 UInt8.toNat e
      rw[Ao hlt]at this
      simp at this
      omega
    . have h1:=ih (n / 10) (Nat.div_lt_self (by omega) (by omega))
      have h2:AP (n / 10)≠[]:=fun e=>h' (JW.1 e)
      match hd:AP (n / 10),h2,h1 with
      | x::l,_,h1=>simpa using h1
theorem CP {l:F4} (h:l.all S7=true) (h0:l.head? ≠ some 48):AP (H0 l)=l:=by
 induction l using DP with
 | h0=>exact K3
 | h1 l b ih=>
  rw[List.all_append,C6]at h
  have hb:S7 b=true:=by simpa using h.2
  have hlt:=MP hb
  by_cases hl:l=[]
  . subst hl
    have hne:dv b≠0:=fun e=>by
     apply h0
     have:=IF hb
     rw[e]at this
     simp[<-this,dig]
    rw[Q5]
    have e1:10*H0 []+dv b=dv b:=by simp[H0]
    show AP (10*H0 []+dv b)=[b]
    rw[e1,V0 hne,Nat.div_eq_of_lt hlt,K3,Nat.mod_eq_of_lt hlt,IF hb]
    rfl
  . have h0':l.head? ≠ some 48:=by
     match l,hl with
     | x::l,_=>simpa using h0
    have ih':=ih h.1 h0'
    have hne:H0 l≠0:=fun e=>by rw[e,K3]at ih';exact hl ih'.symm
    rw[Q5,V0 (by omega)]
    have e1:(10*H0 l+dv b) / 10=H0 l:=by omega
    have e2:(10*H0 l+dv b) % 10=dv b:=by omega
    rw[e1,e2,ih',IF hb]
theorem ID (l:F4):(l.dropWhile (· == 48)).head? ≠ some 48:=by
 induction l with
 | nil=>simp
 | cons x l ih=>
  rw[List.dropWhile_cons]
  split
  . exact ih
  . rename_i h;simpa using h
theorem KM {l:F4} (h:l.all S7=true):(l.dropWhile (· == 48)).all S7=true:=by
 rw[E7]at h ⊢
 exact fun x hx=>h x ((List.dropWhile_sublist _).mem hx)
theorem Gu {l:F4} (h:l.head? ≠ some 48):l.dropWhile (· == 48)=l:=by
 match l,h with
 | [],_=>rfl
 | x::l,h=>rw[List.dropWhile_cons,B8 (by simpa using h)]
theorem Bn (a:F4):(K4 a).1.all S7=true:=by
 unfold K4
 split
 . rename_i h;exact KM h
 . rfl
theorem Dp (a:F4):(K4 a).1.head? ≠ some 48:=by
 unfold K4
 split
 . exact ID _
 . simp
theorem JV {a:F4} (h:(K4 a).2=true):(K4 a).1≠[]:=by
 unfold K4 at h ⊢
 split at h
 . rename_i h1
   rw[C2 h1]
   simp only[C6,Bool.not_eq_true',List.isEmpty_eq_false_iff]at h
   exact h.2
 . cases h
theorem EU (a:F4):H0 (K4 a).1=(val a).natAbs:=by unfold val;split<;>omega
theorem dec_dgs (a:F4):AP (val a).natAbs=(K4 a).1:=by rw[<-EU];exact CP (Bn a) (Dp a)
theorem neg_dgs (a:F4):(K4 a).2=decide (val a<0):=by
 cases h:(K4 a).2 with
 | true=>
  have h1:=JV h
  have h2:H0 (K4 a).1≠0:=fun e=>h1 (by rw[<-CP (Bn a) (Dp a),e,K3])
  unfold val
  rw[C2 h]
  simp
  omega
 | false=>
  unfold val
  rw[B8 (by rw[h];simp)]
  simp
theorem CT (a:F4):G8 (val a)=if (K4 a).2 then 45::(K4 a).1 else (K4 a).1:=by
 unfold G8
 rw[dec_dgs,neg_dgs]
 by_cases h:val a<0<;>simp[h]
theorem head45 (n:Nat):(AP n).head? ≠ some 45:=by
 intro h
 have h1:=Fn n
 match hd:AP n,h,h1 with
 | x::l,h,h1=>
  simp at h
  subst h
  simp[S7]at h1
theorem KO (z:Int):K4 (G8 z)=(AP z.natAbs,decide (z<0)):=by
 by_cases h:z<0
 . have h1:G8 z=45::AP z.natAbs:=by rw[G8,C2 h]
   have h2:AP z.natAbs≠[]:=fun e=>by have:=JW.1 e;omega
   unfold K4
   rw[h1]
   simp only[AM,List.head?_cons,if_true,List.tail_cons,Fn,Gu (Gw _),h,decide_true,Bool.true_and]
   cases hd:AP z.natAbs with
   | nil=>exact F9 hd h2
   | cons x l=>rfl
 . have h1:G8 z=AP z.natAbs:=by rw[G8,B8 h]
   unfold K4
   rw[h1]
   simp only[AM,head45,if_false,Fn,if_true,Gu (Gw _),h,decide_false,Bool.false_and]
theorem M7 (z:Int):val (G8 z)=z:=by
 unfold val
 rw[KO]
 simp only[CH,decide_eq_true_eq]
 split<;>omega
def HV (a:F4):Bool:=decide (G8 (val a)=a)
theorem BI:G8 0=[]:=by simp[G8,K3]
abbrev ltS (a b:F4):Bool:=Go.Op.bytesLess a b
theorem Bb (a b:UInt8) (x y:F4):ltS (a::x) (b::y)=(decide (a<b)||(a==b&&ltS x y)):=rfl
theorem N3 (a:F4):ltS a a=false:=by
 induction a with
 | nil=>rfl
 | cons x a ih=>
  rw[Bb,ih,Bool.and_false,Bool.or_false]
  exact C3 (UInt8.lt_irrefl x)
theorem Z3 {a b c:F4} (h:ltS a b=true) (k:ltS b c=true):ltS a c=true:=by
 induction a generalizing b c with
 | nil=>
  cases b with
  | nil=>cases h
  | cons y b=>cases c with
   | nil=>cases k
   | cons z c=>rfl
 | cons x a ih=>
  cases b with
  | nil=>cases h
  | cons y b=>
   cases c with
   | nil=>cases k
   | cons z c=>
    rw[Bb]at h k ⊢
    simp only[Bool.or_eq_true,decide_eq_true_eq,C6,beq_iff_eq]at h k ⊢
    rcases h with h|⟨rfl,h⟩
    . rcases k with k|⟨rfl,k⟩
      . exact .inl (UInt8.lt_trans h k)
      . exact .inl h
    . rcases k with k|⟨rfl,k⟩
      . exact .inl k
      . exact .inr ⟨rfl,ih h k⟩
theorem N7 (a b:F4):ltS a b=true∨a=b∨ltS b a=true:=by
 induction a generalizing b with
 | nil=>cases b with
  | nil=>exact .inr (.inl O)
  | cons y b=>exact .inl O
 | cons x a ih=>
  cases b with
  | nil=>exact .inr (.inr O)
  | cons y b=>
   rw[Bb,Bb]
   simp only[Bool.or_eq_true,decide_eq_true_eq,C6,beq_iff_eq]
   rcases Decidable.em (x<y)with h|h
   . exact .inl (.inl h)
   . rcases Decidable.em (y<x)with k|k
     . exact .inr (.inr (.inl k))
     . have e:x=y:=by
        apply UInt8.toNat_inj.1
        rw[UInt8.lt_iff_toNat_lt]at h k
        omega
       subst e
       rcases ih b with i|rfl|i
       . exact .inl (.inr ⟨rfl,i⟩)
       . exact .inr (.inl O)
       . exact .inr (.inr (.inr ⟨rfl,i⟩))
theorem O7 {a b:F4} (h:ltS a b=true):ltS b a=false:=by
 cases k:ltS b a with
 | false=>rfl
 | true=>have:=Z3 h k;rw[N3]at this;cases this
theorem Hs {a b:F4} (h:ltS a b=true):a≠b:=fun e=>by rw[e,N3]at h;cases h
theorem leS_not (a b:F4):(ltS a b||a==b) = !ltS b a:=by
 rcases N7 a b with h|rfl|h
 . rw[h,O7 h];rfl
 . rw[N3];simp
 . rw[h,O7 h]
   have:(a==b)=false:=by simpa using fun e:a=b=>Hs h e.symm
   rw[this];rfl
def BJ:List F4->Prop
 | []=>True
 | x::l=>(∀ y∈l,ltS x y=true)∧BJ l
theorem HH {l r:List F4}:BJ (l++r)↔BJ l∧BJ r ∧ ∀ x∈l,∀ y∈r,ltS x y=true:=by
 induction l with
 | nil=>simp[BJ]
 | cons x l ih=>
  simp only[List.cons_append,BJ,ih,List.mem_append,List.mem_cons]
  constructor
  . rintro⟨h1,h2,h3,h4⟩
    exact⟨⟨fun y hy=>h1 y (.inl hy),h2⟩,h3,fun z hz y hy=>hz.elim (fun e=>e ▸ h1 y (.inr hy)) fun e=>h4 z e y hy⟩
  . rintro⟨⟨h1,h2⟩,h3,h4⟩
    exact⟨fun y hy=>hy.elim (fun e=>h1 y e) fun e=>h4 x (.inl O) y e,h2,h3,fun z hz y hy=>h4 z (.inr hz) y hy⟩
theorem MV {l r:List F4} (hl:BJ l) (hr:BJ r) (h:∀ x,x∈l↔x∈r):l=r:=by
 induction l generalizing r with
 | nil=>
  cases r with
  | nil=>rfl
  | cons y r=>exact F9 ((h y).2 (by simp)) (by simp)
 | cons x l ih=>
  cases r with
  | nil=>exact F9 ((h x).1 (by simp)) (by simp)
  | cons y r=>
   have e:x=y:=by
    rcases List.mem_cons.1 ((h x).1 (by simp))with e|e
    . exact e
    . rcases List.mem_cons.1 ((h y).2 (by simp))with e'|e'
      . exact e'.symm
      . have h1:=hr.1 x e
        have h2:=hl.1 y e'
        have:=O7 h1
        rw[h2]at this
        cases this
   subst e
   refine H4 _ (ih hl.2 hr.2 fun z=>?_)
   constructor
   . intro hz
     rcases List.mem_cons.1 ((h z).1 (by simp[hz]))with e|e
     . exact F9 e.symm (Hs (hl.1 z hz))
     . exact e
   . intro hz
     rcases List.mem_cons.1 ((h z).2 (by simp[hz]))with e|e
     . exact F9 e.symm (Hs (hr.1 z hz))
     . exact e
def Df (x:F4):List F4->List F4
 | []=>[x]
 | y::l=>if ltS y x then y::Df x l else if y=x then y::l else x::y::l
def Dw:List F4->List F4
 | []=>[]
 | x::l=>Df x (Dw l)
theorem Gd {x z:F4} {l:List F4}:z∈Df x l↔z=x∨z∈l:=by
 induction l with
 | nil=>simp[Df]
 | cons y l ih=>
  unfold Df
  split
  . simp only[List.mem_cons,ih]
    constructor
    . rintro(h|h|h)<;>simp[h]
    . rintro(h|h|h)<;>simp[h]
  . split
    . rename_i h;subst h;simp
    . simp
theorem ME {x:F4} {l:List F4} (h:BJ l):BJ (Df x l):=by
 induction l with
 | nil=>exact⟨fun y hy=>by simp at hy,C8⟩
 | cons y l ih=>
  unfold Df
  split
  . rename_i h1
    exact⟨fun z hz=>(Gd.1 hz).elim (fun e=>e ▸ h1) fun e=>h.1 z e,ih h.2⟩
  . rename_i h1
    split
    . exact h
    . rename_i h2
      have h3:ltS x y=true:=by
       rcases N7 y x with e|e|e
       . exact F9 e h1
       . exact F9 e h2
       . exact e
      exact⟨fun z hz=>(List.mem_cons.1 hz).elim (fun e=>e ▸ h3) fun e=>Z3 h3 (h.1 z e),h⟩
theorem P9 (l:List F4):BJ (Dw l) ∧ ∀ x,x∈Dw l↔x∈l:=by
 induction l with
 | nil=>exact⟨C8,fun x=>Iff.rfl⟩
 | cons x l ih=>exact⟨ME ih.1,fun z=>by show z∈Df x (Dw l)↔_;rw[Gd,ih.2,List.mem_cons]⟩
theorem uniS_of {l r:List F4} (h:BJ r) (hm:∀ x,x∈r↔x∈l):r=Dw l:=
 MV h (P9 l).1 fun x=>(hm x).trans ((P9 l).2 x).symm
theorem Ge (x:F4) (l:List F4):(Df x l).length<=l.length+1:=by
 induction l with
 | nil=>simp[Df]
 | cons y l ih=>unfold Df;split<;>(try split)<;>simp<;>omega
theorem AZ (l:List F4):(Dw l).length<=l.length:=by
 induction l with
 | nil=>exact D6 _
 | cons x l ih=>exact E3 (Ge x _) (by simp;omega)
open Go.RowKit Px
variable {us:List Value} {P:Program} {f:FuncId}
abbrev dI (n:Int):DV:=.val (.int .i64 n)
theorem L6 {a b:Int} (h:a=b):SVle (.d (dI a)) (.d (dI b)):=.of_eq (H4 (fun n=>SV.d (dI n)) h)
theorem Cs {a b:Nat} (h:a=b):SVle (.d (dI a)) (.d (dI b)):=.of_eq (H4 (fun n:Nat=>SV.d (dI n)) h)
abbrev dU (n:Nat):DV:=.val (.int .u64 n)
abbrev dB (b:Bool):DV:=.val (.bool b)
abbrev dZ (n:Int):List DV:=[dI n]
abbrev dIs (zs:List Int):DV:=.sl 1 (zs.map dZ)
abbrev dC (l:F4):List DV:=[dS l]
abbrev dCs (ls:List F4):DV:=.sl 1 (ls.map dC)
abbrev IK (b:Bool):List DV:=[dB b]
theorem ix {α:Type} (f:α->List DV) (l:List α) (n:Int) (i:Nat) (x:α) (h:n=i) (hx:l[i]? = some x):(l.map f)[n.toNat]? = some (f x):=by
 subst h
 rw[H6,B5,hx];rfl
theorem H2 (n:Int) (h:-9223372036854775808<=n∧n<=9223372036854775807):IntKind.i64.wrap n=n:=IntWalk.i64_in n h
theorem PCalls.of_any {args:List DV} {v:Value} (hv:v=(match us with | [u]=>u|us=>.tuple us.toArray)) (hu:∀ u∈us,u.oneCell'=true)
 (h:∀ (F:Nat->Nat->Prop) (w:World) (vals:List Value),vals.length=args.length->(∀ (i:Nat) v x,vals[i]? = some v->args[i]? = some x->DRep F w v x)->GlobOk F w->Calls P f vals.toArray w fun e w'=>e=.returned v∧Below w.heap.size w w'):PCalls P f args (P2 (us.map .val)):=by
 intro F w vals hl hr hg
 refine(h F w vals hl hr hg).mono ?_
 rintro e w' ⟨rfl,hb⟩
 refine⟨_,O,?_,hb⟩
 subst hv
 match us,hu with
 | [],_=>exact⟨[],O,O,fun i y x hy=>by simp at hy⟩
 | [u],hu=>exact DRep.val u (hu u (by simp))
 | u::u'::us,hu=>
  refine⟨u::u'::us,O,by simp,fun i y x hy hx=>?_⟩
  simp only[<-List.map_cons,B5]at hx
  rw[hy]at hx
  cases hx
  exact DRep.val y (hu y (B2 hy))
theorem BL {F:Nat->Nat->Prop} {w:World} {vals:List Value} (hl:vals.length=(us.map DV.val).length) (hr:∀ (i:Nat) v x,vals[i]? = some v->(us.map DV.val)[i]? = some x->DRep F w v x):vals=us:=by
 apply List.ext_getElem (by simpa using hl)
 intro i h1 h2
 have:=hr i _ _ (A4 h1) (A4 (by simpa using h2))
 simp only[List.getElem_map]at this
 exact DRep.val_eq this
theorem EJ {args:List DV} (hp:PCalls P f args (.d (dB true))) (w:World) (vals:List Value) (hl:vals.length=args.length) (hr:∀ (i:Nat) v x,vals[i]? = some v->args[i]? = some x->DRep (fun _ _=>True) w v x) (hg:GlobOk (fun _ _=>True) w):
 Calls P f vals.toArray w fun e w'=>e=.returned (.bool true)∧Below w.heap.size w w':=
 (hp (fun _ _=>True) w vals hl hr hg).mono fun e w' ⟨v,h1,h2,h3⟩=>by
  have:v=.bool true:=DRep.val_eq h2
  subst this
  exact⟨h1,h3⟩
open Go.ChangeShapes Go.WideShapes Go.ChangeAt Go.RowKit Go.Joins Px
theorem own:ownKnob Tryz.prog.godebug=none:=by kernel_rfl
def pow10:List Int:=[1,10,100,1000,10000,100000,1000000,10000000,100000000,1000000000,10000000000,100000000000,1000000000000,10000000000000,100000000000000,1000000000000000,10000000000000000,100000000000000000,1000000000000000000,10000000000000000000]
theorem gs_eq:gs=[(2,pow10.map fun n=>DV.val (.int .u64 n))]:=rfl
section
variable {H:Type} {enc:TypeId×Value->H}
theorem Gk {W:World} {cs:Array Value} {fuel:Nat} {x:DataW Unit×List MemPlace} {sp:Nat->Bool} {hd:Bool} (hv:W.var? Tryz.prog "internal/strconv.uint64pow10" = some cs) (hx:x.1=.agg (pow10.map fun n=>.lit (.int .u64 n)))
 (h:DataW.trod (fun _=>()) Tryz.prog W 0 sp hd fuel 229 cs.toList=some x):GlobOk (fun _ _=>True) W:=by
 obtain⟨xs,m,-,rfl,hl,hn,hel⟩:=DataW.trod_array Tryz.underlying229 h
 have hc:Tryz.prog.cellsOf 130=1:=by kernel_rfl
 have hc2:Tryz.prog.cellsOf 229=20:=by kernel_rfl
 rw[hc2]at hl
 have hx:xs.map (·.1)=pow10.map fun n=>(.lit (.int .u64 n):DataW Unit):=DataW.agg.inj hx
 have hp:pow10.length=20:=rfl
 have hcs:cs.toList=pow10.map fun n=>Value.int .u64 n:=by
  apply List.ext_getElem?
  intro r
  by_cases hr:r<20
  . have hE:=hel r hr
    rw[hc,Nat.mul_one,A4 (by omega)]at hE
    obtain⟨z,e1,e2,-⟩:=DataW.trod_int Tryz.underlying130 hE
    have e4:(xs.map (·.1))[r]? = (pow10.map fun n=>(.lit (.int .u64 n):DataW Unit))[r]?:=by rw[hx]
    rw[B5,B5,A4 (by omega:r<xs.length),A4 (by omega:r<pow10.length),e2]at e4
    simp only[Option.map_some,Option.some.injEq,DataW.lit.injEq,Lit.int.injEq,true_and]at e4
    have h0:((cs.toList.drop r).take 1)[0]? = some (.int .u64 z):=by rw[e1];rfl
    have h1:cs.toList[r]? = some (.int .u64 z):=by simpa using h0
    rw[h1,B5,A4 (by omega:r<pow10.length),e4]
    rfl
  . rw[E9 (by omega),E9 (by simp[hp];omega)]
 have hg:Tryz.prog.globalNamed "internal/strconv.uint64pow10" = some 2:=by kernel_rfl
 have hcell:=World.var?_cell hg hv
 obtain⟨T,z,hheap⟩:∃ T z,W.heap[2]? = some (.cells cs T z):=by
  simp only[World.var?,hg,Option.bind_some]at hv
  split at hv
  . rename_i a b c hh;cases hv;exact⟨_,_,hh⟩
  . cases hv
 intro q ds hq
 rw[gs_eq]at hq
 simp only[F8]at hq
 cases hb:Nat.beq 2 q with
 | false=>rw[hb]at hq;cases hq
 | true=>
  have e:=E5 hb
  subst e
  rw[hb]at hq
  cases hq
  refine⟨.ref (fun j=>(pow10.map fun n=>Value.int .u64 n)[j]?.getD default) (fun j hj=>?_) (fun j x hj=>?_),pow10.map fun n=>Value.int .u64 n,by rw[List.map_map];rfl,T,z,?_⟩
  . rw[D3]at hj
    have e1:(pow10.map fun n=>Value.int .u64 n)[j]? = some (Value.int .u64 pow10[j]):=by rw[B5,A4 hj];rfl
    refine⟨?_,C8,?_⟩
    . rw[D0,hcell j,<-Array.getElem?_toList,hcs,e1];rfl
    . rw[e1];rfl
  . rw[B5,B7]at hj
    obtain⟨n,hn,rfl⟩:=hj
    have e1:(pow10.map fun n=>Value.int .u64 n)[j]? = some (Value.int .u64 n):=by rw[B5,hn];rfl
    rw[e1]
    exact .val _ O
  . rw[hheap,<-hcs]
theorem laidOut:laidOutB Tryz.prog=true:=by kernel_rfl
theorem At {W W':World} (hb:Below W.heap.size W W'):∀ (ts:List TypeId) (vs:List Value) (ds:List (DataW H)) (ps:List MemPlace),(∀ t∈ts,Tryz.prog.readableRec t=true∧t<Tryz.prog.types.size)->(∀ x∈ps,x.block<W.heap.size) →
 DataW.TrodAll enc Tryz.prog W 0 (fun _=>true) true ts vs ds ps->DataW.TrodAll enc Tryz.prog W' 0 (fun b=>decide (b<W.heap.size)) true ts vs ds ps
 | [],vs,ds,ps,_,_,h=>by
  obtain⟨rfl,rfl,rfl⟩:=trodAll_nil h
  exact trodAll_mk0
 | t::ts,vs,ds,ps,ht,hlt,h=>by
  obtain⟨v,vs',d,ds',p,q,rfl,rfl,rfl,h1,h2⟩:=trodAll_cons h
  exact trodAll_cons_mk (Below.trod laidOut (ht t (by simp)).1 (ht t (by simp)).2 h1 hb fun x hx=>hlt x (by simp[hx]))
   (At hb ts vs' ds' q (fun t' ht'=>ht t' (by simp[ht'])) (fun x hx=>hlt x (by simp[hx])) h2)
theorem Lz {f:Func} {s:ChangeSpec} {W W':World} {args:Array Value} {ds:List (DataW H)} {before:List MemPlace} (hW:DataW.Whole enc Tryz.prog f.params.toList s.vars false W args.toList ds [] before) (hv:s.vars=[])
 (hres:f.resultTypes = #[4]) (hfn:s.fn H (ds++[])={ results:=[.lit (.bool true)],args:=ds }) (hread:∀ t∈f.params.toList,Tryz.prog.readableRec t=true∧t<Tryz.prog.types.size) (hb:Below W.heap.size W W'):
 s.post enc Tryz.prog f false true false false W args (.bool true) W':=by
 have hW':=hW
 obtain⟨p,q,hA,hV,rfl,hfz,hnd⟩:=hW
 rw[hv]at hV
 obtain⟨-,rfl⟩:=trodVars_none hV
 have hlt:∀ x∈p,x.block<W.heap.size:=fun x hx=>hW'.lt x (by simp[hx])
 refine⟨ds,[],p++[],[],p,[],hW',?_,?_,?_,hb.frame _,fun h=>by cases h⟩
 . rw[hfn,hres]
   exact trodAll_mk1 (shut_bool Tryz.underlying4 _)
 . rw[hfn]
   exact At hb _ _ _ _ hread hlt hA
 . rw[hfn,hv]
   rfl
end
end Go.Proofs.YtdkpmnefoobipaaGreatDoor
namespace Go.Proofs
open Go.Shelf
def Tryz.sortStr_ren:Go.Shelf.Ren:=⟨fun|54=>49|64=>82|65=>81|78=>114|79=>115|80=>105|81=>106|82=>107|83=>108|84=>109|85=>110|61=>111|86=>112|87=>113|93=>144|89=>145|90=>146|94=>147|95=>148|69=>149|97=>181|n=>n,fun|25=>62|26=>9|3=>3|51=>125|0=>0|67=>160|69=>130|4=>4|61=>152|60=>151|44=>157|5=>5|9=>9|75=>183|79=>187|83=>216|84=>217|n=>n,fun|n=>n⟩
theorem Tryz.sortStr:Go.Proofs.SlLaysN.n54 Tryz.prog Tryz.sortStr_ren:={
 mixed:=by kernel_rfl
 f54:=⟨Tryz.f49.name,by decide,Tryz.func49.trans K8⟩
 f61:=⟨Tryz.f111.name,by decide,Tryz.func111.trans K8⟩
 f64:=Tryz.func82.trans K8
 f65:=⟨Tryz.f81.name,by decide,Tryz.func81.trans K8⟩
 f69:=⟨Tryz.f149.name,by decide,Tryz.func149.trans K8⟩
 f78:=Tryz.func114.trans K8
 f79:=Tryz.func115.trans K8
 f80:=⟨Tryz.f105.name,by decide,Tryz.func105.trans K8⟩
 f81:=⟨Tryz.f106.name,by decide,Tryz.func106.trans K8⟩
 f82:=⟨Tryz.f107.name,by decide,Tryz.func107.trans K8⟩
 f83:=⟨Tryz.f108.name,by decide,Tryz.func108.trans K8⟩
 f84:=⟨Tryz.f109.name,by decide,Tryz.func109.trans K8⟩
 f85:=⟨Tryz.f110.name,by decide,Tryz.func110.trans K8⟩
 f86:=⟨Tryz.f112.name,by decide,Tryz.func112.trans K8⟩
 f87:=⟨Tryz.f113.name,by decide,Tryz.func113.trans K8⟩
 f89:=Tryz.func145.trans K8
 f90:=Tryz.func146.trans K8
 f93:=⟨Tryz.f144.name,by decide,Tryz.func144.trans K8⟩
 f94:=⟨Tryz.f147.name,by decide,Tryz.func147.trans K8⟩
 f95:=⟨Tryz.f148.name,by decide,Tryz.func148.trans K8⟩
 f97:=⟨Tryz.f181.name,by decide,Tryz.func181.trans K8⟩
 t0:=Tryz.underlying0
 a0:=Tryz.isAgg0
 z0:=Tryz.sizeOf0
 v0:=Tryz.zeroValue0
 t3:=Tryz.underlying3
 a3:=Tryz.isAgg3
 z3:=Tryz.sizeOf3
 v3:=Tryz.zeroValue3
 t4:=Tryz.underlying4
 a4:=Tryz.isAgg4
 z4:=Tryz.sizeOf4
 v4:=Tryz.zeroValue4
 t5:=Tryz.underlying5
 a5:=Tryz.isAgg5
 z5:=Tryz.sizeOf5
 v5:=Tryz.zeroValue5
 t9:=Tryz.underlying9
 a9:=Tryz.isAgg9
 z9:=Tryz.sizeOf9
 v9:=Tryz.zeroValue9
 t25:=Tryz.underlying62
 a25:=Tryz.isAgg62
 z25:=Tryz.sizeOf62
 v25:=Tryz.zeroValue62
 t26:=Tryz.underlying9
 a26:=Tryz.isAgg9
 z26:=Tryz.sizeOf9
 v26:=Tryz.zeroValue9
 t44:=Tryz.underlying157
 a44:=Tryz.isAgg157
 z44:=Tryz.sizeOf157
 v44:=Tryz.zeroValue157
 t51:=Tryz.underlying125
 a51:=Tryz.isAgg125
 z51:=Tryz.sizeOf125
 v51:=Tryz.zeroValue125
 t60:=Tryz.underlying151
 a60:=Tryz.isAgg151
 z60:=Tryz.sizeOf151
 v60:=Tryz.zeroValue151
 t61:=Tryz.underlying152
 a61:=Tryz.isAgg152
 z61:=Tryz.sizeOf152
 v61:=Tryz.zeroValue152
 t67:=Tryz.underlying160
 a67:=Tryz.isAgg160
 z67:=Tryz.sizeOf160
 v67:=Tryz.zeroValue160
 t69:=Tryz.underlying130
 a69:=Tryz.isAgg130
 z69:=Tryz.sizeOf130
 v69:=Tryz.zeroValue130
 t75:=Tryz.underlying183
 a75:=Tryz.isAgg183
 z75:=Tryz.sizeOf183
 v75:=Tryz.zeroValue183
 t79:=Tryz.underlying187
 a79:=Tryz.isAgg187
 z79:=Tryz.sizeOf187
 v79:=Tryz.zeroValue187
 t83:=Tryz.underlying216
 a83:=Tryz.isAgg216
 z83:=Tryz.sizeOf216
 v83:=Tryz.zeroValue216
 t84:=Tryz.underlying217
 a84:=Tryz.isAgg217
 z84:=Tryz.sizeOf217
 v84:=Tryz.zeroValue217 }
def Tryz.compStr_ren:Go.Shelf.Ren:=⟨fun|43=>50|n=>n,fun|22=>62|23=>9|3=>3|4=>4|0=>0|n=>n,fun|n=>n⟩
theorem Tryz.compStr:Go.Proofs.SlLaysE.n43 Tryz.prog Tryz.compStr_ren:={
 mixed:=by kernel_rfl
 f43:=⟨Tryz.f50.name,by decide,Tryz.func50.trans K8⟩
 t0:=Tryz.underlying0
 a0:=Tryz.isAgg0
 z0:=Tryz.sizeOf0
 v0:=Tryz.zeroValue0
 t3:=Tryz.underlying3
 a3:=Tryz.isAgg3
 z3:=Tryz.sizeOf3
 v3:=Tryz.zeroValue3
 t4:=Tryz.underlying4
 a4:=Tryz.isAgg4
 z4:=Tryz.sizeOf4
 v4:=Tryz.zeroValue4
 t22:=Tryz.underlying62
 a22:=Tryz.isAgg62
 z22:=Tryz.sizeOf62
 v22:=Tryz.zeroValue62
 a23:=Tryz.isAgg9
 z23:=Tryz.sizeOf9 }
def Tryz.trim_ren:Go.Shelf.Ren:=⟨fun|160=>118|232=>152|231=>151|227=>153|234=>155|233=>154|236=>157|235=>156|228=>182|271=>185|151=>184|197=>183|120=>199|152=>198|260=>197|137=>202|119=>203|224=>204|225=>205|217=>206|266=>207|n=>n,fun|9=>9|4=>4|3=>3|5=>5|117=>192|116=>191|0=>0|124=>195|21=>21|105=>220|46=>125|119=>239|139=>242|138=>241|n=>n,fun|3=>4|4=>5|n=>n⟩
theorem Tryz.trim:Go.Proofs.Lays.n160 Tryz.prog Tryz.trim_ren:={
 mixed:=by kernel_rfl
 f119:=Tryz.func203.trans K8
 f120:=Tryz.func199.trans K8
 f137:=Tryz.func202.trans K8
 f151:=Tryz.func184.trans K8
 f152:=Tryz.func198.trans K8
 f160:=Tryz.func118.trans K8
 f197:=Tryz.func183.trans K8
 f217:=Tryz.func206.trans K8
 f224:=Tryz.func204.trans K8
 f225:=Tryz.func205.trans K8
 f227:=Tryz.func153.trans K8
 f228:=Tryz.func182.trans K8
 f231:=Tryz.func151.trans K8
 f232:=Tryz.func152.trans K8
 f233:=Tryz.func154.trans K8
 f234:=Tryz.func155.trans K8
 f235:=Tryz.func156.trans K8
 f236:=Tryz.func157.trans K8
 f260:=Tryz.func197.trans K8
 f266:=Tryz.func207.trans K8
 f271:=Tryz.func185.trans K8
 t0:=Tryz.underlying0
 a0:=Tryz.isAgg0
 z0:=Tryz.sizeOf0
 v0:=Tryz.zeroValue0
 t3:=Tryz.underlying3
 a3:=Tryz.isAgg3
 z3:=Tryz.sizeOf3
 v3:=Tryz.zeroValue3
 t4:=Tryz.underlying4
 a4:=Tryz.isAgg4
 z4:=Tryz.sizeOf4
 v4:=Tryz.zeroValue4
 t5:=Tryz.underlying5
 a5:=Tryz.isAgg5
 z5:=Tryz.sizeOf5
 v5:=Tryz.zeroValue5
 t9:=Tryz.underlying9
 a9:=Tryz.isAgg9
 z9:=Tryz.sizeOf9
 v9:=Tryz.zeroValue9
 t21:=Tryz.underlying21
 a21:=Tryz.isAgg21
 z21:=Tryz.sizeOf21
 v21:=Tryz.zeroValue21
 t46:=Tryz.underlying125
 a46:=Tryz.isAgg125
 z46:=Tryz.sizeOf125
 v46:=Tryz.zeroValue125
 t105:=Tryz.underlying220
 a105:=Tryz.isAgg220
 z105:=Tryz.sizeOf220
 v105:=Tryz.zeroValue220
 t116:=Tryz.underlying191
 a116:=Tryz.isAgg191
 z116:=Tryz.sizeOf191
 t117:=Tryz.underlying192
 a117:=Tryz.isAgg192
 z117:=Tryz.sizeOf192
 v117:=Tryz.zeroValue192
 t119:=Tryz.underlying239
 a119:=Tryz.isAgg239
 z119:=Tryz.sizeOf239
 t124:=Tryz.underlying195
 a124:=Tryz.isAgg195
 z124:=Tryz.sizeOf195
 v124:=Tryz.zeroValue195
 t138:=Tryz.underlying241
 a138:=Tryz.isAgg241
 z138:=Tryz.sizeOf241
 v138:=Tryz.zeroValue241
 t139:=Tryz.underlying242
 a139:=Tryz.isAgg242
 z139:=Tryz.sizeOf242
 v139:=Tryz.zeroValue242
 g3:=by kernel_rfl
 g4:=by kernel_rfl }
def Tryz.trimLeft_ren:Go.Shelf.Ren:=⟨fun|161=>119|231=>151|227=>153|233=>154|235=>156|228=>182|197=>183|151=>184|260=>197|152=>198|137=>202|119=>203|224=>204|225=>205|217=>206|266=>207|n=>n,fun|9=>9|4=>4|3=>3|5=>5|117=>192|116=>191|0=>0|124=>195|105=>220|21=>21|119=>239|46=>125|139=>242|138=>241|n=>n,fun|3=>4|4=>5|n=>n⟩
theorem Tryz.trimLeft:Go.Proofs.Lays.n161 Tryz.prog Tryz.trimLeft_ren:={
 mixed:=by kernel_rfl
 f119:=Tryz.func203.trans K8
 f137:=Tryz.func202.trans K8
 f151:=Tryz.func184.trans K8
 f152:=Tryz.func198.trans K8
 f161:=Tryz.func119.trans K8
 f197:=Tryz.func183.trans K8
 f217:=Tryz.func206.trans K8
 f224:=Tryz.func204.trans K8
 f225:=Tryz.func205.trans K8
 f227:=Tryz.func153.trans K8
 f228:=Tryz.func182.trans K8
 f231:=Tryz.func151.trans K8
 f233:=Tryz.func154.trans K8
 f235:=Tryz.func156.trans K8
 f260:=Tryz.func197.trans K8
 f266:=Tryz.func207.trans K8
 t0:=Tryz.underlying0
 a0:=Tryz.isAgg0
 z0:=Tryz.sizeOf0
 v0:=Tryz.zeroValue0
 t3:=Tryz.underlying3
 a3:=Tryz.isAgg3
 z3:=Tryz.sizeOf3
 v3:=Tryz.zeroValue3
 t4:=Tryz.underlying4
 a4:=Tryz.isAgg4
 z4:=Tryz.sizeOf4
 v4:=Tryz.zeroValue4
 t5:=Tryz.underlying5
 a5:=Tryz.isAgg5
 z5:=Tryz.sizeOf5
 v5:=Tryz.zeroValue5
 t9:=Tryz.underlying9
 a9:=Tryz.isAgg9
 z9:=Tryz.sizeOf9
 v9:=Tryz.zeroValue9
 t21:=Tryz.underlying21
 a21:=Tryz.isAgg21
 z21:=Tryz.sizeOf21
 v21:=Tryz.zeroValue21
 t46:=Tryz.underlying125
 a46:=Tryz.isAgg125
 z46:=Tryz.sizeOf125
 v46:=Tryz.zeroValue125
 t105:=Tryz.underlying220
 a105:=Tryz.isAgg220
 z105:=Tryz.sizeOf220
 v105:=Tryz.zeroValue220
 t116:=Tryz.underlying191
 a116:=Tryz.isAgg191
 z116:=Tryz.sizeOf191
 t117:=Tryz.underlying192
 a117:=Tryz.isAgg192
 z117:=Tryz.sizeOf192
 v117:=Tryz.zeroValue192
 t119:=Tryz.underlying239
 a119:=Tryz.isAgg239
 z119:=Tryz.sizeOf239
 t124:=Tryz.underlying195
 a124:=Tryz.isAgg195
 z124:=Tryz.sizeOf195
 v124:=Tryz.zeroValue195
 t138:=Tryz.underlying241
 a138:=Tryz.isAgg241
 z138:=Tryz.sizeOf241
 v138:=Tryz.zeroValue241
 t139:=Tryz.underlying242
 a139:=Tryz.isAgg242
 z139:=Tryz.sizeOf242
 v139:=Tryz.zeroValue242
 g3:=by kernel_rfl
 g4:=by kernel_rfl }
def Tryz.itoa_ren:Go.Shelf.Ren:=⟨fun|171=>74|243=>103|246=>143|283=>165|284=>166|285=>167|286=>168|129=>115|317=>188|318=>189|319=>190|320=>191|337=>200|338=>201|n=>n,fun|3=>3|9=>9|2=>2|4=>4|171=>203|0=>0|53=>130|37=>137|5=>5|173=>205|212=>229|51=>160|20=>20|213=>230|46=>125|232=>246|233=>247|n=>n,fun|17=>2|18=>6|19=>7|n=>n⟩
theorem Tryz.itoa:Go.Proofs.LaysM.n171 Tryz.prog Tryz.itoa_ren:={
 mixed:=by kernel_rfl
 f129:=Tryz.func115.trans K8
 f171:=Tryz.func74.trans K8
 f243:=Tryz.func103.trans K8
 f246:=Tryz.func143.trans K8
 f283:=Tryz.func165.trans K8
 f284:=Tryz.func166.trans K8
 f285:=Tryz.func167.trans K8
 f286:=Tryz.func168.trans K8
 f317:=Tryz.func188.trans K8
 f318:=Tryz.func189.trans K8
 f319:=Tryz.func190.trans K8
 f320:=Tryz.func191.trans K8
 f337:=Tryz.func200.trans K8
 f338:=Tryz.func201.trans K8
 t0:=Tryz.underlying0
 a0:=Tryz.isAgg0
 z0:=Tryz.sizeOf0
 v0:=Tryz.zeroValue0
 t2:=Tryz.underlying2
 a2:=Tryz.isAgg2
 z2:=Tryz.sizeOf2
 v2:=Tryz.zeroValue2
 t3:=Tryz.underlying3
 a3:=Tryz.isAgg3
 z3:=Tryz.sizeOf3
 v3:=Tryz.zeroValue3
 t4:=Tryz.underlying4
 a4:=Tryz.isAgg4
 z4:=Tryz.sizeOf4
 v4:=Tryz.zeroValue4
 t5:=Tryz.underlying5
 a5:=Tryz.isAgg5
 z5:=Tryz.sizeOf5
 v5:=Tryz.zeroValue5
 t9:=Tryz.underlying9
 a9:=Tryz.isAgg9
 z9:=Tryz.sizeOf9
 v9:=Tryz.zeroValue9
 t20:=Tryz.underlying20
 a20:=Tryz.isAgg20
 z20:=Tryz.sizeOf20
 v20:=Tryz.zeroValue20
 t37:=Tryz.underlying137
 a37:=Tryz.isAgg137
 z37:=Tryz.sizeOf137
 v37:=Tryz.zeroValue137
 t46:=Tryz.underlying125
 a46:=Tryz.isAgg125
 z46:=Tryz.sizeOf125
 v46:=Tryz.zeroValue125
 t51:=Tryz.underlying160
 a51:=Tryz.isAgg160
 z51:=Tryz.sizeOf160
 v51:=Tryz.zeroValue160
 t53:=Tryz.underlying130
 a53:=Tryz.isAgg130
 z53:=Tryz.sizeOf130
 v53:=Tryz.zeroValue130
 t171:=Tryz.underlying203
 a171:=Tryz.isAgg203
 z171:=Tryz.sizeOf203
 v171:=Tryz.zeroValue203
 t173:=Tryz.underlying205
 a173:=Tryz.isAgg205
 z173:=Tryz.sizeOf205
 v173:=Tryz.zeroValue205
 t212:=Tryz.underlying229
 a212:=Tryz.isAgg229
 z212:=Tryz.sizeOf229
 v212:=Tryz.zeroValue229
 t213:=Tryz.underlying230
 a213:=Tryz.isAgg230
 z213:=Tryz.sizeOf230
 t232:=Tryz.underlying246
 a232:=Tryz.isAgg246
 z232:=Tryz.sizeOf246
 v232:=Tryz.zeroValue246
 t233:=Tryz.underlying247
 a233:=Tryz.isAgg247
 z233:=Tryz.sizeOf247
 v233:=Tryz.zeroValue247
 g17:=by kernel_rfl
 g18:=by kernel_rfl
 g19:=by kernel_rfl
 i0:=by kernel_rfl
 i2:=by kernel_rfl
 i3:=by kernel_rfl
 i4:=by kernel_rfl
 i5:=by kernel_rfl
 i9:=by kernel_rfl
 i20:=by kernel_rfl
 i37:=by kernel_rfl
 i46:=by kernel_rfl
 i51:=by kernel_rfl
 i53:=by kernel_rfl
 i171:=by kernel_rfl
 i173:=by kernel_rfl
 i212:=by kernel_rfl
 i232:=by kernel_rfl
 i233:=by kernel_rfl
 m17:=by kernel_rfl
 m18:=by kernel_rfl
 m19:=by kernel_rfl }
end Go.Proofs
namespace Go.Proofs.YtdkpmnefoobipaaGreatDoor
open Go.RowKit Px
variable {tk:List Bool} {p:UInt8->Bool} {i n:Nat} {f:Nat->Int} {days:Int} {x b:UInt8}
def AH (s p:F4):Bool:=decide (p.length<=s.length)&&(s.take p.length==p)
theorem CX (s p:F4):PCalls Tryz.prog 171 [dS s,dS p] (.d (dB (AH s p))):=by
 refine L7 Tryz.func171 O Tryz.ntmps171 Tryz.results171 fun B w0=>?_
 by_cases h:p.length<=s.length
 . have t1:decide ((s.length:Int) ≥ (p.length:Int))=true:=by simpa using h
   refine B4 (C9 O (yQ (B4 (B1 O (P4 O (B1 O (P4 O (yB O O O O (B1 O ?_)))))))))
   rw[t1]
   refine B1 O (B1 O (P4 O ?_));refine yS0h (l':=s.take p.length) (by omega) (by omega) (by simp) O O ?_;refine B1 O (L8 O O (J7 O O (C9 O (yQ (C4 ?_)))))
   exact K9 _ (.tmp O .nil) (by simp[AH,h,P2])
 . have t1:decide ((s.length:Int) ≥ (p.length:Int))=false:=by simpa using h
   refine B4 (C9 O (yQ (B4 (B1 O (P4 O (B1 O (P4 O (yB O O O O (B1 O ?_)))))))))
   rw[t1]
   refine yO O (yO O (yO O (yO O (yO O (yO O (I6 O O (C9 O (yQ (C4 ?_)))))))))
   exact K9 _ (.tmp O .nil) (by simp[AH,h,P2])
theorem GA (s p:F4):PCalls Tryz.prog 150 [dS s,dS p] (.tup [dS (if AH s p then s.drop p.length else s),dB (AH s p)]):=by
 have c1:=CX s p
 refine L7 Tryz.func150 O Tryz.ntmps150 Tryz.results150 fun B w0=>?_
 cases h:AH s p with
 | false=>
  rw[h]at c1
  refine B4 (C9 O (C9 O (yQ (A5 (B4 (B1 O (B1 O (yC (c1) O O (yU O O O ?_)))))))));refine yQ (E0 O (B4 (B1 O (C9 O (C9 O (yQ (C4 (A8 ?_))))))))
  exact Cu O O O
 | true=>
  rw[h]at c1
  have hl:p.length<=s.length:=by simp[AH]at h;exact h.1
  refine B4 (C9 O (C9 O (yQ (A5 (B4 (B1 O (B1 O (yC (c1) O O (yU O O O ?_)))))))));refine yQ (B9 O (A7 (B4 (B1 O (B1 O (P4 O ?_))))));refine Ke (l':=s.drop p.length) (by omega) (by omega) (by simp) O O ?_;refine C9 O (C9 O (yQ (C4 ?_)))
  exact Cu O O O
theorem Hg (s p:F4):PCalls Tryz.prog 117 [dS s,dS p] (.tup [dS (if AH s p then s.drop p.length else s),dB (AH s p)]):=by
 have c1:=GA s p
 refine L7 Tryz.func117 O Tryz.ntmps117 Tryz.results117 fun B w0=>?_
 refine B4 (C9 O (C9 O (yQ (B4 (B1 O (B1 O (yC (c1) O O (yX O O (yX O O ?_)))))))));refine C9 O (C9 O (yQ (C4 ?_)))
 exact Cu O O O
theorem BF (a:F4):AH a [45]=decide (a.head? = some 45)∧(if AH a [45]then a.drop 1 else a)=AM a:=by
 cases a with
 | nil=>exact⟨rfl,O⟩
 | cons x a=>
  by_cases h:x=45
  . subst h;exact⟨by simp[AH],by simp[AH,AM]⟩
  . have:AH (x::a) [45]=false:=by simp[AH,h]
    rw[this]
    exact⟨by simpa using h,by simp[AM,h]⟩
theorem Jf (a:F4):PCalls Tryz.prog 117 [dS a,dS [45]] (.tup [dS (AM a),dB (decide (a.head? = some 45))]):=by
 have h:=Hg a [45]
 rw[show([45]:F4).length=1 from rfl,(BF a).2,(BF a).1]at h
 exact h
def cs10:F4:=[48,49,50,51,52,53,54,55,56,57]
theorem Gz (b:UInt8):cs10.contains b=S7 b:=by
 have h:∀ n,n<256->cs10.contains (UInt8.ofNat n)=S7 (UInt8.ofNat n):=by decide +kernel
 have:=h b.toNat b.toNat_lt
 simpa using this
theorem LE (l:F4):Lib.trimLeftS l cs10=l.dropWhile S7:=by
 have hp:(fun b=>cs10.contains b)=S7:=funext Gz
 show l.dropWhile (fun b=>cs10.contains b)=_
 rw[hp]
theorem LD (l:F4):Lib.trimRightS l cs10=(l.reverse.dropWhile S7).reverse:=by
 have hp:(fun b=>cs10.contains b)=S7:=funext Gz
 show(l.reverse.dropWhile (fun b=>cs10.contains b)).reverse=_
 rw[hp]
theorem Eb {l:F4}:l.dropWhile p=[]↔l.all p=true:=by
 induction l with
 | nil=>simp
 | cons x l ih=>
  rw[List.dropWhile_cons,List.all_cons,C6,<-ih]
  cases p x<;>simp
theorem IE {l r:F4} (h:l.dropWhile p=x::r):p x=false:=by
 induction l with
 | nil=>cases h
 | cons y l ih=>
  rw[List.dropWhile_cons]at h
  split at h
  . exact ih h
  . rename_i hy
    cases h
    simpa using hy
theorem Jh (l:F4):((Lib.trimS l cs10)==[])=l.all S7:=by
 have h0:Lib.trimS l cs10=Lib.trimLeftS (Lib.trimRightS l cs10) cs10:=rfl
 rw[Bool.eq_iff_iff,beq_iff_eq,h0,LE,LD,Eb,List.all_reverse]
 rw[<-List.all_reverse (l:=l),<-Eb (l:=l.reverse)]
 constructor
 . intro h
   cases hd:l.reverse.dropWhile S7 with
   | nil=>rfl
   | cons x r=>
    have:=IE hd
    rw[hd]at h
    simp[this]at h
 . intro h;rw[h];rfl
theorem BX (v:Value) (h:v.oneCell'=true):∀ u∈[v],u.oneCell'=true:=fun u hu=>by rw[List.mem_singleton.1 hu];exact h
theorem wTrim (s:F4) (hs:s.length<=9223372036854775807):PCalls Tryz.prog 118 [dS s,dS cs10] (.d (dS (Lib.trimS s cs10))):=
 PCalls.of_plain (us:=[vS (Lib.trimS s cs10)]) (vs:=[vS s,vS cs10]) rfl (BX _ rfl) fun w=>by
  have:=Any.strings_Trim_laid Tryz.trim (by kernel_rfl) ⟨s.toArray⟩ ⟨cs10.toArray⟩ w (show s.toArray.size<=9223372036854775807 by rw[List.size_toArray];exact hs) (by decide) (ascii_of_all (by decide))
  exact this
theorem Ha (s:F4):PCalls Tryz.prog 119 [dS s,dS [48]] (.d (dS (s.dropWhile (· == 48)))):=
 PCalls.of_plain (us:=[vS (s.dropWhile (· == 48))]) (vs:=[vS s,vS [48]]) rfl (BX _ rfl) fun w=>by
  have:=Any.strings_TrimLeft_laid Tryz.trimLeft (by kernel_rfl) ⟨s.toArray⟩ ⟨([48]:F4).toArray⟩ w (by decide) (ascii_of_all (by decide))
  have e:Lib.trimLeftS s [48]=s.dropWhile (· == 48):=by
   have hp:(fun b=>([48]:F4).contains b)=fun b=>b==48:=funext fun b=>Bool.eq_iff_iff.2 (by simp)
   show s.dropWhile (fun b=>([48]:F4).contains b)=_
   rw[hp]
  have e2:Lib.trimLeftS (ByteArray.mk s.toArray).data.toList (ByteArray.mk ([48]:F4).toArray).data.toList=s.dropWhile (· == 48):=e
  rw[e2]at this
  exact this
theorem Et (a:F4) (ha:a.length<=9223372036854775807):PCalls Tryz.prog 86 [dS a] (.tup [dS (K4 a).1,dB (K4 a).2]):=by
 have c1:=Jf a
 have hb:(AM a).length<=9223372036854775807:=by
  unfold AM
  split
  . rw[List.length_tail];omega
  . exact ha
 have c2:=wTrim (AM a) hb
 have t1:=Jh (AM a)
 obtain⟨u,hu⟩:=H1 (Lib.trimS (AM a) cs10)
 rw[<-hu]at c2 t1
 have c3:=Ha (AM a)
 have hd:K4 a=if (AM a).all S7 then ((AM a).dropWhile (· == 48),decide (a.head? = some 45) && !((AM a).dropWhile (· == 48)).isEmpty)else ([],false):=rfl
 obtain⟨h,hh⟩:=H1 (decide (a.head? = some 45))
 obtain⟨b,hb2⟩:=H1 (AM a)
 obtain⟨z,hz⟩:=H1 ((AM a).dropWhile (· == 48))
 rw[<-hz]at c3 hd
 rw[<-hh]at c1 hd
 rw[<-hb2]at c1 c2 c3 t1 hd
 refine L7 Tryz.func86 O Tryz.ntmps86 Tryz.results86 fun B w0=>?_
 cases ht:b.all S7 with
 | false=>
  rw[ht]at t1
  rw[hd,ht]
  refine B4 (C9 O (C9 O (yQ (B4 (B1 O (yC (c1) O O (Aw O (yX O O (yX O O ?_)))))))));refine C9 O (C9 O (yQ (A5 (B4 (B1 O (yC (c2) O O (K6 O O (yQ (B6 ?_)))))))))
  rw[t1]
  refine E0 O (B4 (C9 O (C9 O (yQ (C4 (A8 ?_))))))
  exact Cu O O O
 | true=>
  rw[ht]at t1
  rw[hd,ht]
  refine B4 (C9 O (C9 O (yQ (B4 (B1 O (yC (c1) O O (Aw O (yX O O (yX O O ?_)))))))));refine C9 O (C9 O (yQ (A5 (B4 (B1 O (yC (c2) O O (K6 O O (yQ (B6 ?_)))))))))
  rw[t1]
  cases h with
  | false=>
   refine B9 O (A7 (B4 (B1 O (yC (c3) O O (C9 O (yQ (B4 (B1 O (B1 O ?_)))))))));refine B1 O (yO O (yO O (I6 O O (C9 O (C9 O (yQ (C4 ?_)))))))
   exact Cu O O O
  | true=>
   refine B9 O (A7 (B4 (B1 O (yC (c3) O O (C9 O (yQ (B4 (B1 O (B1 O ?_)))))))));refine B1 O (B1 O (K6 O O (J7 O O (C9 O (C9 O (yQ (C4 ?_)))))))
   exact K9 _ (.tmp rfl (.tmp rfl .nil)) (by cases z<;>rfl)
theorem Ee (a:F4):(G8 (val a)).length<=a.length:=by
 rw[CT]
 have h1:(K4 a).1.length<=(AM a).length:=by
  unfold K4
  split
  . exact(List.dropWhile_sublist _).length_le
  . exact D4 _
 cases h:(K4 a).2 with
 | false=>
  have:(AM a).length<=a.length:=by unfold AM;split<;>simp
  simpa using E3 h1 this
 | true=>
  have h2:a.head? = some 45:=by
   unfold K4 at h
   split at h
   . simp at h;exact h.1
   . cases h
  cases a with
  | nil=>cases h2
  | cons x l=>
   simp[AM]at h1 h2
   subst h2
   simpa using h1
theorem DK (a:F4) (ha:a.length<=1000000000):PCalls Tryz.prog 73 [dS a] (.d (dS (G8 (val a)))):=by
 have c1:=Et a (by omega)
 have hc:=CT a
 have hl:=Ee a
 obtain⟨z,hz⟩:=H1 (G8 (val a))
 rw[<-hz]at hc hl ⊢
 obtain⟨⟨x,y⟩,hd⟩:=H1 (K4 a)
 rw[<-hd]at c1 hc
 refine L7 Tryz.func73 O Tryz.ntmps73 Tryz.results73 fun B w0=>?_
 cases y with
 | false=>
  refine B4 (C9 O (yQ (B4 (B1 O (yC (c1) O O (Aw O (yX O O (yX O O (C9 O ?_)))))))));refine C9 O (yQ (A5 (B4 (B1 O (yQ (B9 O (A7 (B4 (B1 O ?_)))))))));refine C9 O (yQ (C4 ?_))
  exact K9 _ (.tmp O .nil) (by rw[hc];rfl)
 | true=>
  have hx:x.length+1<=1000000000:=by rw[hc]at hl;simp at hl;omega
  refine B4 (C9 O (yQ (B4 (B1 O (yC (c1) O O (Aw O (yX O O (yX O O (C9 O ?_)))))))));refine C9 O (yQ (A5 (B4 (B1 O (yQ (E0 O (B3 (B1 O ?_))))))));refine yBsa (l1:=[45]) (l2:=x) (by simp;omega) O O ?_;refine C9 O (yQ (B4 (B1 O (C9 O (yQ (C4 ?_))))))
  exact K9 _ (.tmp O .nil) (by rw[hc];rfl)
theorem wCheck (a:F4) (ha:a.length<=1000000000):PCalls Tryz.prog 179 [dS a] (.d (dI (if HV a then 0 else 1))):=by
 have c1:=DK a ha
 have hi:HV a=(a==G8 (val a)):=by
  unfold HV
  rw[Bool.eq_iff_iff,decide_eq_true_eq,beq_iff_eq]
  exact eq_comm
 obtain⟨z,hz⟩:=H1 (G8 (val a))
 rw[<-hz]at hi c1
 refine L7 Tryz.func179 O Tryz.ntmps179 Tryz.results179 fun B w0=>?_
 rw[hi]
 cases h:(a==z) with
 | true=>
  refine B4 (C9 O (yQ (A5 (B4 (B1 O (B1 O (yC (c1) O O (K6 O O (yQ ?_)))))))));refine B6 ?_
  rw[h]
  refine B9 O (A7 (B4 (C9 O (yQ (C4 ?_)))))
  exact J2 O O
 | false=>
  refine B4 (C9 O (yQ (A5 (B4 (B1 O (B1 O (yC (c1) O O (K6 O O (yQ ?_)))))))));refine B6 ?_
  rw[h]
  refine E0 O (B4 (C9 O (yQ (C4 (A8 ?_)))))
  exact J2 O O
theorem Am (b:UInt8):S7 b=true↔48<=b.toNat∧b.toNat<=57:=by simp[S7]
theorem S0 {l:F4} (hx:l[i]? = some x) (h:(l.take i).all p=true) (hp:p x=true):(l.take (i+1)).all p=true:=by
 rw[G7,hx,List.all_append,h];simp[hp]
theorem Ar {l:F4} (hx:l[i]? = some x) (hp:p x=false):l.all p=false:=by
 rw[Bool.eq_false_iff]
 intro h
 rw[E7]at h
 have:=h x (B2 hx)
 rw[hp]at this
 cases this
theorem Kk (a:F4) (ha:a.length<=9223372036854775806):PCalls Tryz.prog 128 [dS a] (.tup [dS (K4 a).1,dB (K4 a).2]):=by
 have hd:K4 a=if (AM a).all S7 then ((AM a).dropWhile (· == 48),decide (a.head? = some 45) && !((AM a).dropWhile (· == 48)).isEmpty)else ([],false):=rfl
 have hb:(AM a).length<=9223372036854775806:=by
  unfold AM
  split
  . rw[List.length_tail];omega
  . exact ha
 obtain⟨r,hr⟩:=H1 (K4 a)
 rw[<-hr]at hd ⊢
 obtain⟨n,hn⟩:=H1 (decide (a.head? = some 45))
 rw[<-hn]at hd
 refine L7 Tryz.func128 O Tryz.ntmps128 Tryz.results128 fun B w0=>?_
 cases a with
 | nil=>
  have e1:n=false:=hn
  have e2:r=([],false):=by rw[hd,e1];rfl
  subst e1
  rw[e2]
  refine B4 (C9 O (C9 O (yQ (B4 (B1 O (C9 O (yQ (B4 (B1 O ?_)))))))));refine P4 O (yB O O O O (B1 O (yO O (yO O (yO O (I6 O O (C9 O (yQ (A5 ?_)))))))));refine B4 (B1 O (yQ (B9 O (A7 (A5 (B4 (C9 O (yQ (A9 ?_)))))))));refine G6 (fun i:Nat=>⟨52,[(4,.d (dS [])),(5,.d (dB false)),(6,.d (dI i))],[],[]⟩) (fun i=>i=0) (fun i=>0-i) 0 O ⟨rfl,⟨.refl _,.refl _,.refl _,C8⟩,C8,C8,O⟩ ?_
  rintro i rfl
  refine A5 (B4 (B1 O (B1 O (P4 O (yB O O O O (yQ (B9 O (F6 (A5 ?_)))))))));refine A9 ?_;refine G6 (fun i:Nat=>⟨52,[(4,.d (dS [])),(5,.d (dB false))],[],[]⟩) (fun i=>i=0) (fun i=>0-i) 0 O ⟨rfl,⟨.refl _,.refl _,C8⟩,C8,C8,O⟩ ?_
  rintro i rfl
  refine A5 (B4 (B1 O (P4 O (yB O O O O (B1 O (yO O (yO O (yO O (I6 O O ?_)))))))));refine yQ (B9 O (F6 (B4 (B1 O (B1 O (B1 O (yO O (yO O (yO O ?_)))))))));refine I6 O O (C9 O (C9 O (yQ (C4 ?_))))
  exact Cu O O O
 | cons x l=>
  have hpos:decide (((x::l:F4).length:Int) > 0)=true:=by simp
  have hx0:(x::l:F4)[(0:Int).toNat]? = some x:=rfl
  have hsg:((x.toNat:Int)==45)=n:=by
   rw[hn,Bool.eq_iff_iff]
   simp only[beq_iff_eq,List.head?_cons,Option.some.injEq,decide_eq_true_eq]
   constructor
   . intro h;apply UInt8.toNat_inj.1;simp;omega
   . rintro rfl;rfl
  obtain⟨b,hbb⟩:=H1 (AM (x::l))
  rw[<-hbb]at hd hb
  have hbn:b=if n then l else x::l:=by
   rw[hbb,hn]
   simp[AM]
  refine B4 (C9 O (C9 O (yQ (B4 (B1 O (C9 O (yQ (B4 (B1 O ?_)))))))));refine P4 O (yB O O O O (B1 O ?_))
  rw[hpos]
  refine B1 O (DI hx0 (by omega) O O (yB O O O O (J7 O O (C9 O (yQ (A5 (B4 (B1 O (yQ ?_)))))))));refine B6 ?_
  rw[hsg]
  cases n with
  | true=>
   have hl1:b=l:=by simpa using hbn
   refine E0 O (B3 (B1 O ?_));refine Ke (l':=b) (by omega) (by simp;omega) (by rw[hl1];rfl) rfl rfl ?_;refine C9 O (yQ (A5 (B4 (C9 O (yQ (A9 ?_))))));refine G6 (fun i:Nat=>⟨52,[(4,.d (dS b)),(5,.d (dB true)),(6,.d (dI i))],[],[]⟩) (fun i=>i<=b.length∧(b.take i).all S7=true) (fun i=>b.length-i) 0 ⟨D4 _,O⟩ ⟨rfl,⟨.refl _,.refl _,.refl _,C8⟩,C8,C8,O⟩ ?_
   rintro i ⟨hi,hal⟩
   refine A5 (B4 (B1 O (B1 O (P4 O (yB O O O O (yQ (B6 ?_)))))));refine H7 O (fun h=>?_) (fun h=>?_)
   . simp at h
     obtain⟨y,hy⟩:=Fr h
     have hy':b[(i:Int).toNat]? = some y:=hy
     have hw:=H2 ((i:Int)+1) (by omega)
     by_cases h1:y.toNat<48
     . have t1:decide ((y.toNat:Int)<48)=true:=by simpa using by omega
       have hf:=Ar hy (p:=S7) (by rw[Bool.eq_false_iff,ne_eq,Am];omega)
       rw[hf]at hd
       rw[hd]
       refine A7 (A5 (A9 (B4 (B1 O (B1 O (DI hy' (by omega) O O (yB O O O O (B1 O ?_))))))))
       rw[t1]
       refine yO O (yO O (yO O (yO O (J7 O O (yQ (E0 O (B4 (C9 O (C9 O ?_)))))))));refine yQ (C4 (C0 (A8 (A8 (C0 (A8 ?_))))))
       exact Cu O O O
     . have t1:decide ((y.toNat:Int)<48)=false:=by simpa using by omega
       by_cases h2:y.toNat > 57
       . have t2:decide ((y.toNat:Int) > 57)=true:=by simpa using by omega
         have hf:=Ar hy (p:=S7) (by rw[Bool.eq_false_iff,ne_eq,Am];omega)
         rw[hf]at hd
         rw[hd]
         refine A7 (A5 (A9 (B4 (B1 O (B1 O (DI hy' (by omega) O O (yB O O O O (B1 O ?_))))))))
         rw[t1]
         refine B1 O (B1 O (DI hy' (by omega) O O (yB O O O O (I6 O O (yQ (B6 ?_))))))
         rw[t2]
         refine E0 O (B4 (C9 O (C9 O (yQ (C4 (C0 (A8 (A8 (C0 ?_)))))))));refine A8 ?_
         exact Cu O O O
       . have t2:decide ((y.toNat:Int) > 57)=false:=by simpa using by omega
         refine A7 (A5 (A9 (B4 (B1 O (B1 O (DI hy' (by omega) O O (yB O O O O (B1 O ?_))))))))
         rw[t1]
         refine B1 O (B1 O (DI hy' (by omega) O O (yB O O O O (I6 O O (yQ (B6 ?_))))))
         rw[t2]
         refine B9 O (A7 (B3 (B1 O (yB O O O O (C9 O (yQ (B6 ?_)))))))
         refine⟨i+1,⟨by omega,S0 hy hal ((Am y).2 (by omega))⟩,by omega,rfl,⟨.refl _,.refl _,L6 hw,C8⟩,C8,C8,rfl⟩
   . simp at h
     have hall:b.all S7=true:=by rw[D9 (by omega)]at hal;exact hal
     rw[hall]at hd
     have hd2:r=(b.dropWhile (· == 48),!(b.dropWhile (· == 48)).isEmpty):=by rw[hd];simp
     refine F6 (A5 (A9 ?_));refine G6 (fun z:F4=>⟨52,[(4,.d (dS z)),(5,.d (dB true))],[],[]⟩) (fun z=>z.dropWhile (· == 48)=b.dropWhile (· == 48)∧z.length<=b.length) (fun z=>z.length) b ⟨rfl,D6 _⟩ ⟨rfl,⟨.refl _,.refl _,C8⟩,C8,C8,O⟩ ?_
     rintro z ⟨hz,hzl⟩
     cases z with
     | nil=>
      rw[<-hz]at hd2
      rw[hd2]
      refine A5 (B4 (B1 O (P4 O (yB O O O O (B1 O (yO O (yO O (yO O (I6 O O ?_)))))))));refine yQ (B9 O (F6 (B4 (B1 O (B1 O (B1 O (B1 O (P4 O (yB O O O O ?_)))))))));refine J7 O O (C9 O (C9 O (yQ (C4 ?_))))
      exact Cu O O O
     | cons y z=>
      have hp2:decide (((y::z:F4).length:Int) > 0)=true:=by simp
      have hy0:(y::z:F4)[(0:Int).toNat]? = some y:=rfl
      by_cases h0:y=48
      . subst h0
        refine A5 (B4 (B1 O (P4 O (yB O O O O (B1 O ?_)))))
        rw[hp2]
        refine B1 O (DI hy0 (by omega) O O (yB O O O O (J7 O O (yQ (E0 O (A7 (A9 (B3 (B1 O ?_)))))))));refine Ke (l':=z) (by omega) (by simp;omega) O O O ?_;refine C9 O (yQ (LU (B6 ?_)))
        refine⟨z,⟨by rw[<-hz];rfl,by simp at hzl;omega⟩,by simp,rfl,⟨.refl _,.refl _,C8⟩,C8,C8,rfl⟩
      . have t0:((y.toNat:Int)==48)=false:=by
         rw[Bool.eq_false_iff]
         intro e
         apply h0
         apply UInt8.toNat_inj.1
         simp at e ⊢
         omega
        have hz2:(y::z:F4).dropWhile (· == 48)=y::z:=by rw[List.dropWhile_cons,B8 (by simpa using h0)]
        rw[<-hz,hz2]at hd2
        rw[hd2]
        refine A5 (B4 (B1 O (P4 O (yB O O O O (B1 O ?_)))))
        rw[hp2]
        refine B1 O (DI hy0 (by omega) O O (yB O O O O (J7 O O (yQ (B6 ?_)))))
        rw[t0]
        refine B9 O (F6 (B4 (B1 O (B1 O (B1 O (B1 O (P4 O (yB O O O O (J7 O O ?_)))))))));refine C9 O (C9 O (yQ (C4 ?_)))
        rw[hp2]
        skip
        exact Cu O O O
  | false=>
   have hl1:b=x::l:=by simpa using hbn
   rw[<-hl1]
   refine B9 O (A7 (A5 (B4 (C9 O (yQ (A9 ?_))))));refine G6 (fun i:Nat=>⟨52,[(4,.d (dS b)),(5,.d (dB false)),(6,.d (dI i))],[],[]⟩) (fun i=>i<=b.length∧(b.take i).all S7=true) (fun i=>b.length-i) 0 ⟨D4 _,O⟩ ⟨rfl,⟨.refl _,.refl _,.refl _,C8⟩,C8,C8,O⟩ ?_
   rintro i ⟨hi,hal⟩
   refine A5 (B4 (B1 O (B1 O (P4 O (yB O O O O (yQ (B6 ?_)))))));refine H7 O (fun h=>?_) (fun h=>?_)
   . simp at h
     obtain⟨y,hy⟩:=Fr h
     have hy':b[(i:Int).toNat]? = some y:=hy
     have hw:=H2 ((i:Int)+1) (by omega)
     by_cases h1:y.toNat<48
     . have t1:decide ((y.toNat:Int)<48)=true:=by simpa using by omega
       have hf:=Ar hy (p:=S7) (by rw[Bool.eq_false_iff,ne_eq,Am];omega)
       rw[hf]at hd
       rw[hd]
       refine A7 (A5 (A9 (B4 (B1 O (B1 O (DI hy' (by omega) O O (yB O O O O (B1 O ?_))))))))
       rw[t1]
       refine yO O (yO O (yO O (yO O (J7 O O (yQ (E0 O (B4 (C9 O (C9 O ?_)))))))));refine yQ (C4 (C0 (A8 (A8 (C0 (A8 ?_))))))
       exact Cu O O O
     . have t1:decide ((y.toNat:Int)<48)=false:=by simpa using by omega
       by_cases h2:y.toNat > 57
       . have t2:decide ((y.toNat:Int) > 57)=true:=by simpa using by omega
         have hf:=Ar hy (p:=S7) (by rw[Bool.eq_false_iff,ne_eq,Am];omega)
         rw[hf]at hd
         rw[hd]
         refine A7 (A5 (A9 (B4 (B1 O (B1 O (DI hy' (by omega) O O (yB O O O O (B1 O ?_))))))))
         rw[t1]
         refine B1 O (B1 O (DI hy' (by omega) O O (yB O O O O (I6 O O (yQ (B6 ?_))))))
         rw[t2]
         refine E0 O (B4 (C9 O (C9 O (yQ (C4 (C0 (A8 (A8 (C0 ?_)))))))));refine A8 ?_
         exact Cu O O O
       . have t2:decide ((y.toNat:Int) > 57)=false:=by simpa using by omega
         refine A7 (A5 (A9 (B4 (B1 O (B1 O (DI hy' (by omega) O O (yB O O O O (B1 O ?_))))))))
         rw[t1]
         refine B1 O (B1 O (DI hy' (by omega) O O (yB O O O O (I6 O O (yQ (B6 ?_))))))
         rw[t2]
         refine B9 O (A7 (B3 (B1 O (yB O O O O (C9 O (yQ (B6 ?_)))))))
         refine⟨i+1,⟨by omega,S0 hy hal ((Am y).2 (by omega))⟩,by omega,rfl,⟨.refl _,.refl _,L6 hw,C8⟩,C8,C8,rfl⟩
   . simp at h
     have hall:b.all S7=true:=by rw[D9 (by omega)]at hal;exact hal
     rw[hall]at hd
     have hd2:r=(b.dropWhile (· == 48),false):=by rw[hd];simp
     refine F6 (A5 (A9 ?_));refine G6 (fun z:F4=>⟨52,[(4,.d (dS z)),(5,.d (dB false))],[],[]⟩) (fun z=>z.dropWhile (· == 48)=b.dropWhile (· == 48)∧z.length<=b.length) (fun z=>z.length) b ⟨rfl,D6 _⟩ ⟨rfl,⟨.refl _,.refl _,C8⟩,C8,C8,O⟩ ?_
     rintro z ⟨hz,hzl⟩
     cases z with
     | nil=>
      rw[<-hz]at hd2
      rw[hd2]
      refine A5 (B4 (B1 O (P4 O (yB O O O O (B1 O (yO O (yO O (yO O (I6 O O ?_)))))))));refine yQ (B9 O (F6 (B4 (B1 O (B1 O (B1 O (yO O (yO O (yO O ?_)))))))));refine I6 O O (C9 O (C9 O (yQ (C4 ?_))))
      exact Cu O O O
     | cons y z=>
      have hp2:decide (((y::z:F4).length:Int) > 0)=true:=by simp
      have hy0:(y::z:F4)[(0:Int).toNat]? = some y:=rfl
      by_cases h0:y=48
      . subst h0
        refine A5 (B4 (B1 O (P4 O (yB O O O O (B1 O ?_)))))
        rw[hp2]
        refine B1 O (DI hy0 (by omega) O O (yB O O O O (J7 O O (yQ (E0 O (A7 (A9 (B3 (B1 O ?_)))))))));refine Ke (l':=z) (by omega) (by simp;omega) O O O ?_;refine C9 O (yQ (LU (B6 ?_)))
        refine⟨z,⟨by rw[<-hz];rfl,by simp at hzl;omega⟩,by simp,rfl,⟨.refl _,.refl _,C8⟩,C8,C8,rfl⟩
      . have t0:((y.toNat:Int)==48)=false:=by
         rw[Bool.eq_false_iff]
         intro e
         apply h0
         apply UInt8.toNat_inj.1
         simp at e ⊢
         omega
        have hz2:(y::z:F4).dropWhile (· == 48)=y::z:=by rw[List.dropWhile_cons,B8 (by simpa using h0)]
        rw[<-hz,hz2]at hd2
        rw[hd2]
        refine A5 (B4 (B1 O (P4 O (yB O O O O (B1 O ?_)))))
        rw[hp2]
        refine B1 O (DI hy0 (by omega) O O (yB O O O O (J7 O O (yQ (B6 ?_)))))
        rw[t0]
        refine B9 O (F6 (B4 (B1 O (B1 O (B1 O (yO O (yO O (yO O (I6 O O ?_)))))))));refine C9 O (C9 O (yQ (C4 ?_)))
        exact Cu O O O
theorem Fy (a:F4) (ha:a.length<=1000000000):PCalls Tryz.prog 94 [dS a] (.d (dS (G8 (val a)))):=by
 have c1:=Kk a (by omega)
 have hc:=CT a
 have hl:=Ee a
 obtain⟨z,hz⟩:=H1 (G8 (val a))
 rw[<-hz]at hc hl ⊢
 obtain⟨⟨x,y⟩,hd⟩:=H1 (K4 a)
 rw[<-hd]at c1 hc
 refine L7 Tryz.func94 O Tryz.ntmps94 Tryz.results94 fun B w0=>?_
 cases y with
 | false=>
  refine B4 (C9 O (yQ (B4 (B1 O (yC (c1) O O (Aw O (yX O O (yX O O (C9 O ?_)))))))));refine C9 O (yQ (A5 (B4 (B1 O (yQ (B9 O (A7 (B4 (B1 O ?_)))))))));refine C9 O (yQ (C4 ?_))
  exact K9 _ (.tmp O .nil) (by rw[hc];rfl)
 | true=>
  have hx:x.length+1<=1000000000:=by rw[hc]at hl;simp at hl;omega
  refine B4 (C9 O (yQ (B4 (B1 O (yC (c1) O O (Aw O (yX O O (yX O O (C9 O ?_)))))))));refine C9 O (yQ (A5 (B4 (B1 O (yQ (E0 O (B4 (B1 O ?_))))))));refine yBsa (l1:=[45]) (l2:=x) (by simp;omega) O O ?_;refine C9 O (yQ (C4 (A8 ?_)))
  exact K9 _ (.tmp O .nil) (by rw[hc];rfl)
theorem isC_beq (a:F4):HV a=(G8 (val a)==a):=by
 unfold HV
 rw[Bool.eq_iff_iff,decide_eq_true_eq,beq_iff_eq]
theorem Es (a:F4) (ha:a.length<=1000000000):PCalls Tryz.prog 58 [dS a] (.d (dI (if HV a then 0 else 1))):=by
 have c1:=Fy a ha
 have hi:=isC_beq a
 obtain⟨z,hz⟩:=H1 (G8 (val a))
 rw[<-hz]at hi c1
 refine L7 Tryz.func58 O Tryz.ntmps58 Tryz.results58 fun B w0=>?_
 rw[hi]
 cases h:(z==a) with
 | true=>
  refine B4 (C9 O (yQ (A5 (B4 (B1 O (yC (c1) O O (B1 O (K6 O O ?_))))))));rw[h]
  refine yQ (B9 O (A7 (B4 (C9 O (yQ (C4 ?_))))))
  exact J2 O O
 | false=>
  refine B4 (C9 O (yQ (A5 (B4 (B1 O (yC (c1) O O (B1 O (K6 O O ?_))))))));rw[h]
  refine yQ (E0 O (B4 (C9 O (yQ (C4 (A8 ?_))))))
  exact J2 O O
def ndig (a:F4):Nat:=if a.head? = some 45 then a.length-1 else a.length
theorem Kn (a:F4) (ha:a.length<=1000000000):PCalls Tryz.prog 59 [dS a] (.d (dI (ndig a))):=by
 refine L7 Tryz.func59 O Tryz.ntmps59 Tryz.results59 fun B w0=>?_
 cases a with
 | nil=>
  refine B4 (C9 O (yQ (A5 (B4 (B1 O (P4 O (yB O O O O (B1 O (yO O ?_)))))))));refine yO O (yO O (I6 O O (yQ (B9 O (A7 (B4 (B1 O (P4 O (C9 O ?_)))))))));refine yQ (C4 ?_)
  exact J2 O O
 | cons x l=>
  have hpos:decide (((x::l:F4).length:Int) > 0)=true:=by simp
  have hx0:(x::l:F4)[(0:Int).toNat]? = some x:=rfl
  have hw:IntKind.i64.wrap (((x::l:F4).length:Int)-1)=((l.length:Nat):Int):=by rw[H2 _ (by simp at ha ⊢;omega)];simp
  by_cases h:x=45
  . subst h
    refine B4 (C9 O (yQ (A5 (B4 (B1 O (P4 O (yB O O O O ?_)))))));rw[hpos];refine B1 O (B1 O (DI hx0 (by omega) O O (yB O O O O (J7 O O (yQ (E0 O (B4 (B1 O (P4 O ?_)))))))));refine yB O O O O (C9 O (yQ (C4 (A8 ?_))))
    exact K9 _ (.tmp O .nil) (H4 (fun n=>SV.d (dI n)) (by rw[hw];rfl))
  . have t1:((x.toNat:Int)==45)=false:=by
     rw[Bool.eq_false_iff]
     intro e
     apply h
     apply UInt8.toNat_inj.1
     simp at e ⊢
     omega
    have e:ndig (x::l)=(x::l).length:=by unfold ndig;rw[B8 (by simpa using h)]
    rw[e]
    refine B4 (C9 O (yQ (A5 (B4 (B1 O (P4 O (yB O O O O ?_)))))));rw[hpos];refine B1 O (B1 O (DI hx0 (by omega) O O (yB O O O O ?_)));rw[t1];refine J7 O O (yQ (B9 O (A7 (B4 (B1 O (P4 O (C9 O (yQ (C4 ?_)))))))))
    exact J2 O O
def vD (d:Int):Bool:=decide (-25567<=d)&&decide (d<=84005)
theorem Kg (d:Int):PCalls Tryz.prog 98 [dI d] (.d (dB (vD d))):=by
 refine L7 Tryz.func98 O Tryz.ntmps98 Tryz.results98 fun B w0=>?_
 by_cases h:-25567<=d
 . have t1:decide (d ≥ -25567)=true:=by simpa using h
   refine B4 (C9 O (yQ (B4 (B1 O (yB O O O O ?_)))));rw[t1];refine B1 O (B1 O (yB O O O O (J7 O O (C9 O (yQ (C4 ?_))))))
   exact K9 _ (.tmp O .nil) (by simp[vD,h,P2])
 . have t1:decide (d ≥ -25567)=false:=by simpa using h
   refine B4 (C9 O (yQ (B4 (B1 O (yB O O O O ?_)))));rw[t1];refine B1 O (yO O (yO O (I6 O O (C9 O (yQ (C4 ?_))))))
   exact K9 _ (.tmp O .nil) (by simp[vD,h,P2])
theorem wRDay (d:Int):PCalls Tryz.prog 56 [dI d] (.d (dI (if vD d then 0 else 13))):=by
 refine L7 Tryz.func56 O Tryz.ntmps56 Tryz.results56 fun B w0=>?_
 by_cases h:d < -25567
 . have t1:decide (d < -25567)=true:=by simpa using h
   have e:vD d=false:=by simp[vD];omega
   rw[e]
   refine B4 (C9 O (yQ (A5 (B4 (B1 O (yB O O O O ?_))))));rw[t1];refine B1 O (yO O (yO O (J7 O O (yQ (E0 O (B4 (C9 O (yQ (C4 ?_)))))))));refine A8 ?_
   exact J2 O O
 . have t1:decide (d < -25567)=false:=by simpa using h
   by_cases h2:d > 84005
   . have t2:decide (d > 84005)=true:=by simpa using h2
     have e:vD d=false:=by simp[vD];omega
     rw[e]
     refine B4 (C9 O (yQ (A5 (B4 (B1 O (yB O O O O ?_))))));rw[t1];refine B1 O (B1 O (yB O O O O ?_));rw[t2];refine I6 O O (yQ (E0 O (B4 (C9 O (yQ (C4 (A8 ?_)))))))
     exact J2 O O
   . have t2:decide (d > 84005)=false:=by simpa using h2
     have e:vD d=true:=by simp[vD];omega
     rw[e]
     refine B4 (C9 O (yQ (A5 (B4 (B1 O (yB O O O O ?_))))));rw[t1];refine B1 O (B1 O (yB O O O O ?_));rw[t2];refine I6 O O (yQ (B9 O (A7 (B4 (C9 O (yQ (C4 ?_)))))))
     exact J2 O O
def MD (b:UInt8):Bool:=(decide (97<=b.toNat)&&decide (b.toNat<=122))||S7 b||b==95
def O1 (s:F4):Bool:=decide (1<=s.length)&&decide (s.length<=16)&&s.all MD
theorem JI (h:MD b=true):(decide ((b.toNat:Int)<97)=false∧decide ((b.toNat:Int) > 122)=false)∨(decide ((b.toNat:Int)<97)=true∧decide ((b.toNat:Int)<48)=false∧decide ((b.toNat:Int) > 57)=false) ∨
 (decide ((b.toNat:Int)<97)=true∧decide ((b.toNat:Int)<48)=false∧decide ((b.toNat:Int) > 57)=true∧((b.toNat:Int) != 95)=false):=by
 simp only[MD,S7,Bool.or_eq_true,C6,decide_eq_true_eq,beq_iff_eq]at h
 rcases h with(h|h)|h
 . left;constructor<;>simp<;>omega
 . right;left;refine⟨?_,?_,?_⟩<;>simp<;>omega
 . subst h;right;right;decide
theorem MC (h:MD b=false):(decide ((b.toNat:Int)<97)=false∧decide ((b.toNat:Int) > 122)=true∧decide ((b.toNat:Int)<48)=false∧decide ((b.toNat:Int) > 57)=true∧((b.toNat:Int) != 95)=true) ∨
 (decide ((b.toNat:Int)<97)=true∧decide ((b.toNat:Int)<48)=true∧((b.toNat:Int) != 95)=true)∨(decide ((b.toNat:Int)<97)=true∧decide ((b.toNat:Int)<48)=false∧decide ((b.toNat:Int) > 57)=true∧((b.toNat:Int) != 95)=true):=by
 rw[Bool.eq_false_iff]at h
 simp only[MD,S7,Bool.or_eq_true,C6,decide_eq_true_eq,beq_iff_eq,ne_eq,not_or,not_and]at h
 obtain⟨⟨h1,h2⟩,h3⟩:=h
 have h4:b.toNat≠95:=fun e=>h3 (UInt8.toNat_inj.1 e)
 have h5:((b.toNat:Int) != 95)=true:=by simp;omega
 by_cases k1:b.toNat<97
 . by_cases k2:b.toNat<48
   . right;left;refine⟨?_,?_,h5⟩<;>simp<;>omega
   . right;right;refine⟨?_,?_,?_,h5⟩<;>simp<;>omega
 . left;refine⟨?_,?_,?_,?_,h5⟩<;>simp<;>omega
theorem Hb (s:F4) (hs:s.length<=9223372036854775806):PCalls Tryz.prog 57 [dS s] (.d (dB (O1 s))):=by
 obtain⟨r,hr⟩:=H1 (O1 s)
 rw[<-hr]
 refine L7 Tryz.func57 O Tryz.ntmps57 Tryz.results57 fun B w0=>?_
 refine B4 (C9 O (yQ (A5 (B4 (C9 O (yQ (A9 ?_)))))));refine G6 (fun i:Nat=>⟨40,[(0,.d (dS s)),(3,.d (dI i))],[],[]⟩) (fun i=>i<=s.length∧(s.take i).all MD=true) (fun i=>s.length-i) 0 ⟨D4 _,O⟩ ⟨rfl,⟨.refl _,.refl _,C8⟩,C8,C8,O⟩ ?_
 rintro i ⟨hi,hal⟩
 refine A5 (B4 (B1 O (B1 O (P4 O (yB O O O O (yQ (B6 ?_)))))));refine H7 O (fun h=>?_) (fun h=>?_)
 . simp at h
   obtain⟨y,hy⟩:=Fr h
   have hy':s[(i:Int).toNat]? = some y:=hy
   have hw:=H2 ((i:Int)+1) (by omega)
   cases hN:MD y with
   | true=>
    rcases JI hN with⟨t1,t2⟩|⟨t1,t2,t3⟩|⟨t1,t2,t3,t4⟩
    . refine A7 (A5 (A9 (B4 (B1 O (B1 O (DI hy' (by omega) O O (C9 O (yQ (A5 ?_)))))))))
      refine B3 (B1 O (yB O O O O ?_));rw[t1];refine B1 O (B1 O (yB O O O O ?_));rw[t2];refine I6 O O (B1 O (yO O (yO O (yO O (yO O (yO O (yO O (I6 O O (B1 O ?_)))))))));refine yO O (yO O (I6 O O (yQ (B9 O (A7 (B3 (B1 O (yB O O O O (C9 O ?_)))))))));refine yQ (B6 ?_)
      refine⟨i+1,⟨by omega,S0 hy hal hN⟩,by omega,rfl,⟨.refl _,L6 hw,C8⟩,C8,C8,rfl⟩
    . refine A7 (A5 (A9 (B4 (B1 O (B1 O (DI hy' (by omega) O O (C9 O (yQ (A5 ?_)))))))))
      refine B3 (B1 O (yB O O O O ?_));rw[t1];refine B1 O (yO O (yO O (J7 O O (B1 O (B1 O (yB O O O O ?_))))));rw[t2]
      refine B1 O (B1 O (yB O O O O ?_));rw[t3];refine I6 O O (J7 O O (B1 O (yO O (yO O (I6 O O (yQ (B9 O (A7 (B3 ?_)))))))));refine B1 O (yB O O O O (C9 O (yQ (B6 ?_))))
      refine⟨i+1,⟨by omega,S0 hy hal hN⟩,by omega,rfl,⟨.refl _,L6 hw,C8⟩,C8,C8,rfl⟩
    . refine A7 (A5 (A9 (B4 (B1 O (B1 O (DI hy' (by omega) O O (C9 O (yQ (A5 ?_)))))))))
      refine B3 (B1 O (yB O O O O ?_));rw[t1];refine B1 O (yO O (yO O (J7 O O (B1 O (B1 O (yB O O O O ?_))))));rw[t2]
      refine B1 O (B1 O (yB O O O O ?_));rw[t3];refine I6 O O (J7 O O (B1 O (B1 O (yB O O O O ?_))));rw[t4];refine J7 O O (yQ (B9 O (A7 (B3 (B1 O (yB O O O O (C9 O (yQ (B6 ?_)))))))))
      refine⟨i+1,⟨by omega,S0 hy hal hN⟩,by omega,rfl,⟨.refl _,L6 hw,C8⟩,C8,C8,rfl⟩
   | false=>
    have hf:=Ar hy hN
    have e:r=false:=by rw[hr,O1,hf];simp
    rw[e]
    rcases MC hN with⟨t1,t2,t3,t4,t5⟩|⟨t1,t2,t3⟩|⟨t1,t2,t3,t4⟩
    . refine A7 (A5 (A9 (B4 (B1 O (B1 O (DI hy' (by omega) O O (C9 O (yQ (A5 ?_)))))))))
      refine B3 (B1 O (yB O O O O ?_));rw[t1];refine B1 O (B1 O (yB O O O O ?_));rw[t2];refine I6 O O (B1 O (B1 O (yB O O O O ?_)));rw[t3];refine B1 O (B1 O (yB O O O O ?_));rw[t4];refine I6 O O (J7 O O (B1 O (B1 O (yB O O O O ?_))))
      rw[t5];refine J7 O O ?_;refine yQ ?_;refine E0 O ?_;refine A5 ?_;refine B3 ?_;refine C9 O ?_;refine yQ ?_;refine C4 ?_;refine C0 ?_;refine A8 ?_;refine A8 ?_
      refine C0 ?_;refine A8 ?_
      exact J2 O O
    . refine A7 (A5 (A9 (B4 (B1 O (B1 O (DI hy' (by omega) O O (C9 O (yQ (A5 ?_)))))))))
      refine B3 (B1 O (yB O O O O ?_));rw[t1];refine B1 O (yO O (yO O (J7 O O (B1 O (B1 O (yB O O O O ?_))))));rw[t2]
      refine B1 O (yO O (yO O (J7 O O (J7 O O (B1 O (B1 O (yB O O O O ?_)))))));rw[t3];refine J7 O O (yQ (E0 O (B4 (C9 O (yQ (C4 (C0 (A8 (A8 ?_)))))))));refine C0 (A8 ?_)
      exact J2 O O
    . refine A7 (A5 (A9 (B4 (B1 O (B1 O (DI hy' (by omega) O O (C9 O (yQ (A5 ?_)))))))))
      refine B3 (B1 O (yB O O O O ?_));rw[t1];refine B1 O (yO O (yO O (J7 O O (B1 O (B1 O (yB O O O O ?_))))));rw[t2]
      refine B1 O (B1 O (yB O O O O ?_));rw[t3];refine I6 O O (J7 O O (B1 O (B1 O (yB O O O O ?_))));rw[t4];refine J7 O O (yQ (E0 O (B4 (C9 O (yQ (C4 (C0 (A8 (A8 ?_)))))))));refine C0 (A8 ?_)
      exact J2 O O
 . simp at h
   have hall:s.all MD=true:=by rw[D9 (by omega)]at hal;exact hal
   by_cases h1:1<=s.length
   . have t1:decide ((s.length:Int) ≥ 1)=true:=C5 (by omega)
     refine F6 (B4 (B1 O (P4 O (yB O O O O ?_))));rw[t1];refine B1 O (B1 O (P4 O (yB O O O O (J7 O O (C9 O (yQ (C4 ?_)))))))
     exact K9 _ (.tmp O .nil) (by rw[hr,O1,hall];simp[h1,P2];omega)
   . have t1:decide ((s.length:Int) ≥ 1)=false:=C3 (by omega)
     refine F6 (B4 (B1 O (P4 O (yB O O O O ?_))));rw[t1];refine B1 O (yO O (yO O (yO O (I6 O O (C9 O (yQ (C4 ?_)))))))
     exact K9 _ (.tmp O .nil) (by rw[hr,O1];simp[h1,P2])
theorem dBy_at {s:F4} {y:UInt8} (h:s[i]? = some y):(dBy s)[(i:Int).toNat]? = some [.val (.int .u8 y.toNat)]:=by
 rw[H6,B5,h];rfl
theorem Ko (s:F4):PCalls Tryz.prog 141 [dS s] (.d (dB (O1 s))):=by
 obtain⟨r,hr⟩:=H1 (O1 s)
 rw[<-hr]
 refine L7 Tryz.func141 O Tryz.ntmps141 Tryz.results141 fun B w0=>?_
 by_cases h1:s.length=0
 . have t1:((s.length:Int)==0)=true:=by simp[h1]
   have e:r=false:=by rw[hr,O1,h1];simp
   rw[e]
   refine B4 (C9 O (yQ (A5 (B4 (B1 O (P4 O (yB O O O O ?_)))))));rw[t1];refine B1 O (yO O (yO O (yO O (J7 O O (yQ (E0 O (B4 (C9 O (yQ ?_)))))))));refine C4 (A8 ?_)
   exact J2 O O
 have t1:((s.length:Int)==0)=false:=by simpa using fun e=>h1 (by rw[e];rfl)
 by_cases h2:s.length > 16
 . have t2:decide ((s.length:Int) > 16)=true:=by simpa using by omega
   have e:r=false:=by rw[hr,O1];simp;omega
   rw[e]
   refine B4 (C9 O (yQ (A5 (B4 (B1 O (P4 O (yB O O O O ?_)))))));rw[t1];refine B1 O (B1 O (P4 O (yB O O O O ?_)));rw[t2];refine I6 O O (yQ (E0 O (B4 (C9 O (yQ (C4 (A8 ?_)))))))
   exact J2 O O
 have t2:decide ((s.length:Int) > 16)=false:=by simpa using by omega
 refine B4 (C9 O (yQ (A5 (B4 (B1 O (P4 O (yB O O O O ?_)))))));rw[t1];refine B1 O (B1 O (P4 O (yB O O O O ?_)));rw[t2];refine I6 O O (yQ (B9 O (A7 (A5 (B4 (B1 O ?_))))));refine yTb (by omega) Tryz.underlying9 (by kernel_rfl) Tryz.underlying5 O ?_;refine yN O (B1 O (yQ (A9 ?_)));refine G6 (fun i:Nat=>⟨39,[(14,.d (.sl 1 (dBy s))),(15,.d (dI s.length)),(16,.d (dI i))],[],[]⟩) (fun i=>i<=s.length∧(s.take i).all MD=true) (fun i=>s.length-i) 0 ⟨D4 _,O⟩ ⟨rfl,⟨.refl _,Cs (by simp),.refl _,C8⟩,C8,C8,O⟩ ?_
 rintro i ⟨hi,hal⟩
 refine B4 (yB O O O O (yQ (A5 ?_)));refine H7 O (fun h=>?_) (fun h=>?_)
 . simp at h
   obtain⟨y,hy⟩:=Fr h
   have hy':=dBy_at hy
   have hw:=H2 ((i:Int)+1) (by omega)
   cases hN:MD y with
   | true=>
    rcases JI hN with⟨k1,k2⟩|⟨k1,k2,k3⟩|⟨k1,k2,k3,k4⟩
    . refine A7 (A5 (A9 (B4 (yW hy' (by omega) O O (K7 O O (C9 O (yQ (B4 ?_))))))))
      refine B1 O (yB O O O O ?_);rw[k1];refine B1 O (B1 O (yB O O O O ?_));rw[k2];refine I6 O O (B1 O (yO O (yO O (yO O (yO O (yO O (yO O (I6 O O (B1 O ?_)))))))));refine yO O (yO O (I6 O O (yQ (B9 O (A7 (B3 (yB O O O O (B1 O (yQ ?_)))))))));refine B6 ?_
      refine⟨i+1,⟨by omega,S0 hy hal hN⟩,by omega,rfl,⟨.refl _,.refl _,L6 hw,C8⟩,C8,C8,rfl⟩
    . refine A7 (A5 (A9 (B4 (yW hy' (by omega) O O (K7 O O (C9 O (yQ (B4 ?_))))))))
      refine B1 O (yB O O O O ?_);rw[k1];refine B1 O (yO O (yO O (J7 O O (B1 O (B1 O (yB O O O O ?_))))));rw[k2];refine B1 O (B1 O (yB O O O O ?_));rw[k3];refine I6 O O (J7 O O (B1 O (yO O (yO O (I6 O O (yQ (B9 O (A7 (B3 ?_)))))))));refine yB O O O O (B1 O (yQ (B6 ?_)))
      refine⟨i+1,⟨by omega,S0 hy hal hN⟩,by omega,rfl,⟨.refl _,.refl _,L6 hw,C8⟩,C8,C8,rfl⟩
    . refine A7 (A5 (A9 (B4 (yW hy' (by omega) O O (K7 O O (C9 O (yQ (B4 ?_))))))))
      refine B1 O (yB O O O O ?_);rw[k1];refine B1 O (yO O (yO O (J7 O O (B1 O (B1 O (yB O O O O ?_))))));rw[k2];refine B1 O (B1 O (yB O O O O ?_));rw[k3];refine I6 O O (J7 O O (B1 O (B1 O (yB O O O O ?_))));rw[k4];refine J7 O O (yQ (B9 O (A7 (B3 (yB O O O O (B1 O (yQ (B6 ?_))))))))
      refine⟨i+1,⟨by omega,S0 hy hal hN⟩,by omega,rfl,⟨.refl _,.refl _,L6 hw,C8⟩,C8,C8,rfl⟩
   | false=>
    have hf:=Ar hy hN
    have e:r=false:=by rw[hr,O1,hf];simp
    rw[e]
    rcases MC hN with⟨k1,k2,k3,k4,k5⟩|⟨k1,k2,k3⟩|⟨k1,k2,k3,k4⟩
    . refine A7 (A5 (A9 (B4 (yW hy' (by omega) O O (K7 O O (C9 O (yQ (B4 ?_))))))))
      refine B1 O (yB O O O O ?_);rw[k1];refine B1 O (B1 O (yB O O O O ?_));rw[k2];refine I6 O O (B1 O (B1 O (yB O O O O ?_)))
      rw[k3];refine B1 O ?_;refine B1 O ?_;refine yB O O O O ?_;rw[k4];refine I6 O O ?_;refine J7 O O ?_;refine B1 O ?_;refine B1 O ?_;refine yB O O O O ?_;rw[k5];refine J7 O O ?_
      refine yQ (E0 O (B4 (C9 O (yQ (C4 (C0 (A8 (A8 (C0 ?_)))))))));refine A8 ?_
      exact J2 O O
    . refine A7 (A5 (A9 (B4 (yW hy' (by omega) O O (K7 O O (C9 O (yQ (B4 ?_))))))))
      refine B1 O (yB O O O O ?_);rw[k1];refine B1 O (yO O (yO O (J7 O O (B1 O (B1 O (yB O O O O ?_))))));rw[k2];refine B1 O (yO O (yO O (J7 O O (J7 O O (B1 O (B1 O (yB O O O O ?_)))))));rw[k3];refine J7 O O (yQ (E0 O (B4 (C9 O (yQ (C4 (C0 (A8 (A8 ?_)))))))));refine C0 (A8 ?_)
      exact J2 O O
    . refine A7 (A5 (A9 (B4 (yW hy' (by omega) O O (K7 O O (C9 O (yQ (B4 ?_))))))))
      refine B1 O (yB O O O O ?_);rw[k1];refine B1 O (yO O (yO O (J7 O O (B1 O (B1 O (yB O O O O ?_))))));rw[k2];refine B1 O (B1 O (yB O O O O ?_));rw[k3];refine I6 O O (J7 O O (B1 O (B1 O (yB O O O O ?_))));rw[k4];refine J7 O O (yQ (E0 O (B4 (C9 O (yQ (C4 (C0 (A8 (A8 ?_)))))))));refine C0 (A8 ?_)
      exact J2 O O
 . simp at h
   have hall:s.all MD=true:=by rw[D9 (by omega)]at hal;exact hal
   have e:r=true:=by rw[hr,O1,hall];simp;omega
   rw[e]
   refine F6 (B4 (C9 O (yQ (C4 ?_))))
   exact J2 O O
abbrev Hd:=F4×F4
abbrev Mv:=F4×Int×F4×F4×F4
abbrev dH (h:Hd):List DV:=[dS h.1,dS h.2]
abbrev dM (m:Mv):List DV:=[dS m.1,dI m.2.1,dS m.2.2.1,dS m.2.2.2.1,dS m.2.2.2.2]
structure Stm where
 d:Int
 hs:List Hd
 ms:List Mv
abbrev DF (s:Stm):List DV:=[dI s.d,.sl 2 (s.hs.map dH),.sl 5 (s.ms.map dM)]
def okH (h:Hd):Prop:=h.1.length<=1000000∧h.2.length<=1000000
def okM (m:Mv):Prop:=m.1.length<=1000000∧m.2.2.1.length<=1000000∧m.2.2.2.1.length<=1000000∧m.2.2.2.2.length<=1000000
structure fitS (s:Stm):Prop where
 hl:s.hs.length<=64
 ml:s.ms.length<=1000
 h:∀ h∈s.hs,okH h
 m:∀ m∈s.ms,okM m
def M8 (f:Nat->Int):Nat->Int
 | 0=>0
 | n+1=>if M8 f n≠0 then M8 f n else f n
theorem DC (h0:M8 f i=0) (hi:f i≠0) (n:Nat) (hn:i<n):M8 f n=f i:=by
 induction n with
 | zero=>omega
 | succ n ih=>
  unfold M8
  by_cases e:i=n
  . subst e;rw[B8 (by simp[h0])]
  . have:=ih (by omega)
    rw[this,C2 hi]
theorem P0 (h0:M8 f i=0) (hi:f i=0):M8 f (i+1)=0:=by
 unfold M8
 rw[B8 (by simp[h0])]
 exact hi
theorem KJ:M8 f n=0 ↔ ∀ i,i<n->f i=0:=by
 induction n with
 | zero=>simp[M8]
 | succ n ih=>
  unfold M8
  by_cases h:M8 f n=0
  . rw[B8 (by simp[h])]
    constructor
    . intro e i hi
      by_cases e2:i=n
      . subst e2;exact e
      . exact ih.1 h i (by omega)
    . intro e;exact e n (by omega)
  . rw[C2 h]
    constructor
    . intro e;exact F9 e h
    . intro e;exact ih.2 fun i hi=>e i (by omega)
def BZ (l:List F4):Int:=bif l.all HV then (bif l.any (fun a=>decide (40<ndig a))then 4 else 0)else 1
def MO (p:Option F4) (h:Hd):Int:=
 bif !O1 h.1 then 23 else bif !(BZ [h.2]==0)then BZ [h.2]else bif h.2==[]then 2 else bif (match p with|none=>false|some p=>!ltS p h.1)then 8 else 0
def hE (hs:List Hd) (i:Nat):Int:=match hs[i]? with
 | none=>0
 | some h=>MO (if i=0 then none else (hs[i-1]?).map (·.1)) h
def IB (last:Int) (p:Option Int) (m:Mv):Int:=
 bif !O1 m.1 then 23 else bif !vD m.2.1||decide (last<m.2.1)then 13 else bif !O1 m.2.2.1 then 23 else bif !(BZ [m.2.2.2.1,m.2.2.2.2]==0)then BZ [m.2.2.2.1,m.2.2.2.2]else bif m.2.2.2.1==[]then 2 else
  bif (match p with|none=>false|some p=>decide (m.2.1<p))then 8 else 0
def mE (last:Int) (ms:List Mv) (i:Nat):Int:=match ms[i]? with
 | none=>0
 | some m=>IB last (if i=0 then none else (ms[i-1]?).map (·.2.1)) m
def Dx (s:Stm):Int:=
 bif !vD s.d then 13 else bif !(M8 (hE s.hs) s.hs.length==0)then M8 (hE s.hs) s.hs.length else M8 (mE s.d s.ms) s.ms.length
theorem Ea {α:Type} {l:List α} {x:α} (h:l[i]? = some x):l.drop i=x::l.drop (i+1):=by
 obtain⟨hi,rfl⟩:=A6.1 h
 exact L1 hi
def hld (n:F4):List Hd->Option F4
 | []=>none
 | h::t=>if h.1==n then some h.2 else hld n t
def AU:Option Nat->Int
 | none=>-1
 | some k=>k
def P6 (tk:List Bool) (k:Nat):Bool:=tk[k]?.getD false
def fRf (m:Mv) (tk:List Bool):List Mv->Nat->Option Nat
 | [],_=>none
 | x::l,k=>if !P6 tk k&&(x.1==m.1&&x.2.2.1==m.2.2.1)then some k else fRf m tk l (k+1)
def IV (a b:Int):Int:=max (a-b) (b-a)
def EQ (days:Int) (x m:Mv):Bool:=x.2.2.1==m.2.2.1&&(x.2.2.2.1==m.2.2.2.1&&(x.2.2.2.2==m.2.2.2.2&&decide (IV x.2.1 m.2.1<=days)))
def cB (days:Int) (m:Mv) (tk:List Bool) (l:List Mv):Nat->Option Nat
 | 0=>none
 | k+1=>match l[k]? with
  | none=>cB days m tk l k
  | some x=>if !P6 tk k&&EQ days x m then (match cB days m tk l k with
   | none=>some k
   | some b=>match l[b]? with
    | none=>some b
    | some y=>if IV x.2.1 m.2.1<IV y.2.1 m.2.1 then some k else some b)else cB days m tk l k
theorem Jc {m:Mv} {l:List Mv} {b:Nat} (h:cB days m tk l n=some b):b<n∧b<l.length:=by
 induction n generalizing b with
 | zero=>cases h
 | succ n ih=>
  unfold cB at h
  split at h
  . have:=ih h;omega
  . rename_i x hx
    have hxl:=(A6.1 hx).1
    split at h
    . split at h
      . cases h;omega
      . rename_i c hc
        have:=ih hc
        split at h
        . cases h;omega
        . split at h
          . cases h;omega
          . cases h;omega
    . have:=ih h;omega
theorem Fk {m:Mv} {l:List Mv} {k b:Nat} (h:fRf m tk l k=some b):k<=b∧b<k+l.length:=by
 induction l generalizing k with
 | nil=>cases h
 | cons x l ih=>
  unfold fRf at h
  split at h
  . cases h;simp
  . have:=ih h;simp;omega
abbrev PT:=List (Option Nat)×List Bool
def S5 (f:Mv->List Bool->Option Nat) (ms:List Mv) (s0:PT):Nat->PT
 | 0=>s0
 | i+1=>match ms[i]? with
  | none=>S5 f ms s0 i
  | some m=>if ((S5 f ms s0 i).1[i]?.getD none).isSome then S5 f ms s0 i else match f m (S5 f ms s0 i).2 with
   | none=>S5 f ms s0 i
   | some k=>((S5 f ms s0 i).1.set i (some k),(S5 f ms s0 i).2.set k true)
theorem BP (f:Mv->List Bool->Option Nat) (ms:List Mv) (s0:PT) (i:Nat):(S5 f ms s0 i).1.length=s0.1.length∧(S5 f ms s0 i).2.length=s0.2.length:=by
 induction i with
 | zero=>exact⟨rfl,O⟩
 | succ i ih=>
  unfold S5
  split
  . exact ih
  . split
    . exact ih
    . split
      . exact ih
      . simp[ih]
def byR (ts:List Mv) (m:Mv) (tk:List Bool):Option Nat:=fRf m tk ts 0
def byC (days:Int) (ts:List Mv) (m:Mv) (tk:List Bool):Option Nat:=cB days m tk ts ts.length
def Hn (ms ts:List Mv):PT:=(List.replicate ms.length none,List.replicate ts.length false)
def pt1 (ms ts:List Mv):PT:=S5 (byR ts) ms (Hn ms ts) ms.length
def AR (days:Int) (ms ts:List Mv):PT:=S5 (byC days ts) ms (pt1 ms ts) ms.length
theorem BT (ms ts:List Mv):(pt1 ms ts).1.length=ms.length∧(pt1 ms ts).2.length=ts.length:=by
 have:=BP (byR ts) ms (Hn ms ts) ms.length
 exact⟨this.1.trans (List.length_replicate ..),this.2.trans (List.length_replicate ..)⟩
theorem Cv (days:Int) (ms ts:List Mv):(AR days ms ts).1.length=ms.length∧(AR days ms ts).2.length=ts.length:=by
 have:=BP (byC days ts) ms (pt1 ms ts) ms.length
 rw[(BT ms ts).1,(BT ms ts).2]at this
 exact this
theorem MY (a b:Int):IV a b=IV b a:=by unfold IV;omega
theorem errM_v {last:Int} {p:Option Int} {m:Mv} (h:IB last p m=0):vD m.2.1=true:=by
 unfold IB at h
 cases h1:O1 m.1 with
 | false=>rw[h1]at h;cases h
 | true=>
  cases h2:vD m.2.1 with
  | true=>rfl
  | false=>rw[h1,h2]at h;cases h
theorem Jl {s:Stm} (h:Dx s=0):vD s.d=true∧M8 (hE s.hs) s.hs.length=0∧M8 (mE s.d s.ms) s.ms.length=0:=by
 unfold Dx at h
 cases h1:vD s.d with
 | false=>rw[h1]at h;cases h
 | true=>
  rw[h1]at h
  by_cases h2:M8 (hE s.hs) s.hs.length=0
  . refine⟨rfl,h2,?_⟩
    rw[h2]at h
    exact h
  . have h3:(M8 (hE s.hs) s.hs.length==0)=false:=by simpa using h2
    rw[h3]at h
    exact F9 h h2
theorem EM {s:Stm} (h:Dx s=0):∀ m∈s.ms,vD m.2.1=true:=by
 intro m hm
 obtain⟨i,hi,e⟩:=List.mem_iff_getElem.1 hm
 have h1:=KJ.1 (Jl h).2.2 i hi
 unfold mE at h1
 rw[A4 hi,e]at h1
 exact errM_v h1
def BB (l:List (Option Nat)):Nat->List (Int×Int)
 | 0=>[]
 | i+1=>match l[i]?.getD none with
  | none=>BB l i
  | some k=>BB l i++[((i:Int),(k:Int))]
theorem La (l:List (Option Nat)) (i:Nat):(BB l i).length<=i:=by
 induction i with
 | zero=>exact D6 _
 | succ i ih=>
  unfold BB
  split
  . omega
  . simp;omega
abbrev II (p:Int×Int):List DV:=[dI p.1,dI p.2]
def Kb (p:Nat->Bool) (ts:List Mv) (y:Mv):Nat->Bool
 | 0=>false
 | i+1=>Kb p ts y i||(match ts[i]? with
  | none=>false
  | some x=>p i&&(x.1==y.1&&(x.2.2.1==y.2.2.1&&(x.2.2.2.1==y.2.2.2.1&&x.2.2.2.2==y.2.2.2.2))))
abbrev Bk:=Int×F4×F4×F4
def Kd (x y:Mv):List Bk:=(if x.2.2.2.1==y.2.2.2.1 then []else [(3,x.1,x.2.2.2.1,y.2.2.2.1)]) ++
 ((if x.2.2.2.2==y.2.2.2.2 then []else [(4,x.1,x.2.2.2.2,y.2.2.2.2)])++(if x.2.1==y.2.1 then []else [(5,x.1,G8 x.2.1,G8 y.2.1)]))
def JF (ms ts:List Mv) (pl:List (Option Nat)):Nat->List Bk
 | 0=>[]
 | i+1=>match ms[i]? with
  | none=>JF ms ts pl i
  | some m=>JF ms ts pl i++(match pl[i]?.getD none with
   | none=>[(1,m.1,m.2.2.2.1,[])]
   | some k=>match ts[k]? with
    | none=>[]
    | some x=>Kd m x)
def GU (ts:List Mv) (tk:Nat->Bool):Nat->List Bk
 | 0=>[]
 | k+1=>match ts[k]? with
  | none=>GU ts tk k
  | some x=>if tk k then GU ts tk k else GU ts tk k++[(if Kb tk ts x ts.length then 6 else 2,x.1,[],x.2.2.2.1)]
def Li (ms ts:List Mv) (days:Int):List Bk:=JF ms ts (AR days ms ts).1 ms.length++GU ts (P6 (AR days ms ts).2) ts.length
theorem brP_len (x y:Mv):(Kd x y).length<=3:=by
 unfold Kd
 split<;>split<;>split<;>simp
theorem JE (ms ts:List Mv) (pl:List (Option Nat)) (i:Nat):(JF ms ts pl i).length<=3*i:=by
 induction i with
 | zero=>exact D6 _
 | succ i ih=>
  unfold JF
  cases ms[i]? with
  | none=>simp only;omega
  | some m=>
   simp only
   rw[D1]
   cases pl[i]?.getD none with
   | none=>simp;omega
   | some k=>
    simp only
    cases ts[k]? with
    | none=>simp;omega
    | some x=>
     have:=brP_len m x
     simp only
     omega
theorem JD (ts:List Mv) (tk:Nat->Bool) (k:Nat):(GU ts tk k).length<=k:=by
 induction k with
 | zero=>exact D6 _
 | succ k ih=>
  unfold GU
  split
  . omega
  . split
    . omega
    . simp;omega
theorem LY (days:Int) (ms ts:List Mv) {k:Nat} (h:(AR days ms ts).1[i]?.getD none=some k):k<ts.length:=by
 have key:∀ (f:Mv->List Bool->Option Nat) (s0:PT),(∀ m tk k,f m tk=some k->k<ts.length)->(∀ (i k:Nat),s0.1[i]?.getD none=some k->k<ts.length)->∀ n (i k:Nat),(S5 f ms s0 n).1[i]?.getD none=some k->k<ts.length:=by
  intro f s0 hf h0 n
  induction n with
  | zero=>exact h0
  | succ n ih=>
   intro i k hk
   unfold S5 at hk
   cases hm:ms[n]? with
   | none=>rw[hm]at hk;exact ih i k hk
   | some m=>
    rw[hm]at hk
    simp only at hk
    split at hk
    . exact ih i k hk
    . cases hfm:f m (S5 f ms s0 n).2 with
      | none=>rw[hfm]at hk;exact ih i k hk
      | some c=>
       rw[hfm]at hk
       simp only at hk
       by_cases e:n=i
       . subst e
         rw[List.getElem?_set_self']at hk
         cases hq:(S5 f ms s0 n).1[n]? with
         | none=>rw[hq]at hk;simp at hk
         | some o=>rw[hq]at hk;simp at hk;subst hk;exact hf m _ _ hfm
       . rw[List.getElem?_set_ne e]at hk
         exact ih i k hk
 have h1:∀ (i k:Nat),(pt1 ms ts).1[i]?.getD none=some k->k<ts.length:=
  key (byR ts) (Hn ms ts) (fun m tk k h=>by have:=Fk h;omega) (fun i k h=>by
   unfold Hn at h
   simp only[List.getElem?_replicate]at h
   split at h<;>cases h) ms.length
 exact key (byC days ts) (pt1 ms ts) (fun m tk k h=>(Jc h).2) h1 ms.length i k h
abbrev shH:Sh:=.pr .s (.pr .s .un)
abbrev shM:Sh:=.pr .s (.pr (.i .i64) (.pr .s (.pr .s (.pr .s .un))))
abbrev shS:Sh:=.pr (.i .i64) (.pr (.sl shH) (.pr (.sl shM) .un))
abbrev Hl:Sh:=.sl (.pr (.i .i64) (.pr .s (.pr .s (.pr .s .un))))
theorem LJ (x:Dat shS):∃ s:Stm,Dat.dv shS x=.agg (DF s):=by
 obtain⟨d,hs,ms,u⟩:=x
 refine⟨⟨d,hs.map fun h=>(h.1,h.2.1),ms.map fun m=>(m.1,m.2.1,m.2.2.1,m.2.2.2.1,m.2.2.2.2.1)⟩,?_⟩
 show DV.agg [.val (.int .i64 d),.sl 2 (hs.map (Dat.cs shH)),.sl 5 (ms.map (Dat.cs shM))]=DV.agg [dI d,.sl 2 ((hs.map fun h=>(h.1,h.2.1)).map dH),.sl 5 ((ms.map fun m=>(m.1,m.2.1,m.2.2.1,m.2.2.2.1,m.2.2.2.2.1)).map dM)]
 rw[List.map_map,List.map_map]
 rfl
def JO (n:F4) (a b:Option F4):List Bk:=match b with
 | none=>[(1,n,a.getD [],[])]
 | some r=>match a with
  | none=>[(2,n,[],r)]
  | some q=>if q==r then []else [(3,n,q,r)]
def Fa (h1 h2:List Hd) (l:List F4):Nat->List Bk
 | 0=>[]
 | i+1=>match l[i]? with
  | none=>Fa h1 h2 l i
  | some n=>Fa h1 h2 l i++JO n (hld n h1) (hld n h2)
def nms (h1 h2:List Hd):List F4:=Dw ((h1++h2).map (·.1))
def Dh (h1 h2:List Hd):List Bk:=Fa h1 h2 (nms h1 h2) (nms h1 h2).length
theorem hbr_len (n:F4) (a b:Option F4):(JO n a b).length<=1:=by
 unfold JO
 split
 . simp
 . split
   . simp
   . split<;>simp
theorem JJ (h1 h2:List Hd) (l:List F4) (i:Nat):(Fa h1 h2 l i).length<=i:=by
 induction i with
 | zero=>exact D6 _
 | succ i ih=>
  unfold Fa
  split
  . omega
  . rename_i n _
    have:=hbr_len n (hld n h1) (hld n h2)
    rw[D1]
    omega
theorem hdN_eq (h1 h2:List Hd) (l:List F4) (i:Nat):Fa h1 h2 l i=(l.take i).flatMap fun n=>JO n (hld n h1) (hld n h2):=by
 induction i with
 | zero=>simp[Fa]
 | succ i ih=>
  unfold Fa
  cases e:l[i]? with
  | none=>
   have h:=List.getElem?_eq_none_iff.1 e
   simp only
   rw[ih,D9 (by omega),D9 (by omega)]
  | some n=>
   simp only
   rw[ih,G7,e,Option.toList_some,List.flatMap_append]
   simp
theorem MK (h1 h2:List Hd):Dh h1 h2=(nms h1 h2).flatMap fun n=>JO n (hld n h1) (hld n h2):=by
 rw[Dh,hdN_eq,I4]
theorem JC (h1 h2:List Hd):(nms h1 h2).length<=h1.length+h2.length:=by
 have:=AZ ((h1++h2).map (·.1))
 rw[D3,D1]at this
 exact this
theorem Fc (h1 h2:List Hd):(Dh h1 h2).length<=h1.length+h2.length:=E3 (JJ h1 h2 _ _) (JC h1 h2)
theorem DS {f:Mv->List Bool->Option Nat} {ms:List Mv} {s0:PT} {m:Mv} (hm:ms[n]? = some m):
 (S5 f ms s0 (n+1)=S5 f ms s0 n∧(((S5 f ms s0 n).1[n]?.getD none).isSome=true∨f m (S5 f ms s0 n).2=none)) ∨
 ((S5 f ms s0 n).1[n]?.getD none=none ∧ ∃ k,f m (S5 f ms s0 n).2=some k∧S5 f ms s0 (n+1)=((S5 f ms s0 n).1.set n (some k),(S5 f ms s0 n).2.set k true)):=by
 rw[S5,hm]
 simp only
 cases h:(S5 f ms s0 n).1[n]?.getD none with
 | some c=>exact .inl ⟨rfl,.inl O⟩
 | none=>
  simp only[Option.isSome_none,Bool.false_eq_true,if_false]
  cases h2:f m (S5 f ms s0 n).2 with
  | none=>exact .inl ⟨rfl,.inr O⟩
  | some k=>exact .inr ⟨C8,k,O,O⟩
theorem FH {f:Mv->List Bool->Option Nat} {ms:List Mv} {s0:PT} (hm:ms[n]? = none):S5 f ms s0 (n+1)=S5 f ms s0 n:=by rw[S5,hm]
theorem Ez {k j:Nat}:P6 (tk.set k true) j=true↔P6 tk j=true∨(j=k∧k<tk.length):=by
 unfold P6
 by_cases e:k=j
 . subst e
   by_cases h:k<tk.length
   . simp[h]
   . simp[E9 (Nat.le_of_not_lt h),h]
 . rw[List.getElem?_set_ne e]
   constructor
   . exact .inl
   . rintro(h|⟨h,-⟩)
     . exact h
     . exact F9 h.symm e
theorem Fp {l:List (Option Nat)} {k c:Nat} (h:(l.set n (some k))[i]?.getD none=some c):(i=n∧c=k)∨(i≠n∧l[i]?.getD none=some c):=by
 by_cases e:n=i
 . subst e
   rw[List.getElem?_set_self']at h
   cases hq:l[n]? with
   | none=>rw[hq]at h;simp at h
   | some o=>rw[hq]at h;simp at h;exact .inl ⟨rfl,h.symm⟩
 . rw[List.getElem?_set_ne e]at h
   exact .inr ⟨fun x=>e x.symm,h⟩
structure GoodP (s:PT):Prop where
 tk:∀ (i k:Nat),s.1[i]?.getD none=some k->P6 s.2 k=true
 inj:∀ (i j k:Nat),s.1[i]?.getD none=some k->s.1[j]?.getD none=some k->i=j
theorem GN {f:Mv->List Bool->Option Nat} {ms:List Mv} {s0:PT} (hf:∀ m tk k,f m tk=some k->P6 tk k=false∧k<s0.2.length) (h0:GoodP s0) (n:Nat):GoodP (S5 f ms s0 n):=by
 induction n with
 | zero=>exact h0
 | succ n ih=>
  cases hm:ms[n]? with
  | none=>rw[FH hm];exact ih
  | some m=>
   rcases DS (f:=f) (s0:=s0) hm with⟨h1,-⟩|⟨-,k,h2,h1⟩
   . rw[h1];exact ih
   . obtain⟨h3,h4⟩:=hf m _ k h2
     have hl:=(BP f ms s0 n).2
     rw[h1]
     refine⟨fun i c hc=>?_,fun i j c hi hj=>?_⟩
     . rcases Fp hc with⟨-,rfl⟩|⟨-,h5⟩
       . exact Ez.2 (.inr ⟨rfl,by omega⟩)
       . exact Ez.2 (.inl (ih.tk i c h5))
     . rcases Fp hi with⟨h5,h6⟩|⟨h5,h6⟩<;>rcases Fp hj with⟨h7,h8⟩|⟨h7,h8⟩
       . omega
       . rw[h6]at h8;have:=ih.tk j k h8;rw[h3]at this;cases this
       . rw[h8]at h6;have:=ih.tk i k h6;rw[h3]at this;cases this
       . exact ih.inj i j c h6 h8
theorem Iq {f:Mv->List Bool->Option Nat} {ms:List Mv} {s0:PT} {R:Mv->Nat->Prop} (hf:∀ m tk k,f m tk=some k->R m k) (n:Nat):∀ (i k:Nat),(S5 f ms s0 n).1[i]?.getD none=some k->s0.1[i]?.getD none=some k ∨ ∃ m,ms[i]? = some m∧R m k:=by
 induction n with
 | zero=>exact fun i k h=>.inl h
 | succ n ih=>
  intro i k h
  cases hm:ms[n]? with
  | none=>rw[FH hm]at h;exact ih i k h
  | some m=>
   rcases DS (f:=f) (s0:=s0) hm with⟨h1,-⟩|⟨-,c,h2,h1⟩
   . rw[h1]at h;exact ih i k h
   . rw[h1]at h
     rcases Fp h with⟨h5,h6⟩|⟨h5,h6⟩
     . subst h5 h6;exact .inr ⟨m,hm,hf m _ _ h2⟩
     . exact ih i k h6
theorem Gp {m:Mv} {l:List Mv} {j b:Nat} (h:fRf m tk l j=some b):P6 tk b=false ∧ ∃ x,l[b-j]? = some x∧x.1=m.1∧x.2.2.1=m.2.2.1:=by
 induction l generalizing j with
 | nil=>cases h
 | cons x l ih=>
  unfold fRf at h
  split at h
  . rename_i hc
    cases h
    simp at hc
    exact⟨hc.1,x,by simp,hc.2⟩
  . obtain⟨h1,y,h2,h3⟩:=ih h
    have:=Fk h
    refine⟨h1,y,?_,h3⟩
    rw[show b-j=(b-(j+1))+1 by omega,List.getElem?_cons_succ]
    exact h2
theorem Jb {m:Mv} {l:List Mv} {b:Nat} (h:cB days m tk l n=some b):P6 tk b=false ∧ ∃ x,l[b]? = some x∧EQ days x m=true:=by
 induction n generalizing b with
 | zero=>cases h
 | succ n ih=>
  unfold cB at h
  split at h
  . exact ih h
  . rename_i x hx
    split at h
    . rename_i hc
      simp at hc
      split at h
      . cases h;exact⟨hc.1,x,hx,hc.2⟩
      . rename_i c hcb
        split at h
        . cases h;exact ih hcb
        . split at h
          . cases h;exact⟨hc.1,x,hx,hc.2⟩
          . cases h;exact ih hcb
    . exact ih h
def canP (days:Int) (x y:Mv):Prop:=x.2.2.1=y.2.2.1∧(x.1=y.1∨(x.2.2.2.1=y.2.2.2.1∧x.2.2.2.2=y.2.2.2.2∧IV x.2.1 y.2.1<=days))
theorem Jq {x m:Mv}:EQ days x m=true↔m.2.2.1=x.2.2.1∧m.2.2.2.1=x.2.2.2.1∧m.2.2.2.2=x.2.2.2.2∧IV m.2.1 x.2.1<=days:=by
 unfold EQ
 rw[MY m.2.1 x.2.1]
 simp only[C6,beq_iff_eq,decide_eq_true_eq]
 constructor<;>rintro⟨h1,h2,h3,h4⟩<;>exact⟨h1.symm,h2.symm,h3.symm,h4⟩
theorem LZ (days:Int) (ms ts:List Mv):GoodP (AR days ms ts):=by
 refine GN (fun m tk k h=>⟨(Jb h).1,by rw[(BT ms ts).2];exact(Jc h).2⟩) ?_ ms.length
 refine GN (fun m tk k h=>⟨(Gp h).1,by have:=Fk h;simp[Hn];omega⟩) ?_ ms.length
 have h0:∀ (i k:Nat),(Hn ms ts).1[i]?.getD none=some k->False:=fun i k h=>by
  unfold Hn at h
  simp only[List.getElem?_replicate]at h
  split at h<;>cases h
 exact⟨fun i k h=>(h0 i k h).elim,fun i j k h=>(h0 i k h).elim⟩
theorem FK (days:Int) (ms ts:List Mv) {k:Nat} (h:(AR days ms ts).1[i]?.getD none=some k):∃ x y,ms[i]? = some x∧ts[k]? = some y∧canP days x y:=by
 rcases Iq (R:=fun m k=>∃ y,ts[k]? = some y∧canP days m y) (fun m tk k h=>by
  obtain⟨-,x,h2,h3⟩:=Jb h
  obtain⟨h4,h5⟩:=Jq.1 h3
  exact⟨x,h2,h4,.inr h5⟩) ms.length i k h with h1|⟨m,h1,y,h2,h3⟩
 . rcases Iq (R:=fun m k=>∃ y,ts[k]? = some y∧canP days m y) (fun m tk k h=>by
    obtain⟨-,x,h2,h3,h4⟩:=Gp h
    exact⟨x,by simpa using h2,h4.symm,.inl h3.symm⟩) ms.length i k h1 with h1|⟨m,h1,y,h2,h3⟩
   . exfalso
     unfold Hn at h1
     simp only[List.getElem?_replicate]at h1
     split at h1<;>cases h1
   . exact⟨m,y,h1,h2,h3⟩
 . exact⟨m,y,h1,h2,h3⟩
section
variable {ms:List Mv} {k:Nat} {x:Mv}
end
end Go.Proofs.YtdkpmnefoobipaaGreatDoor
namespace Go.Proofs.YtdkpmnefoobipaaGreatDoor.Px
open Go.RowKit
variable {es:List (List DV)} {F:Nat->Nat->Prop} {vs:List Value} {w:World} {x:Operand} {B:Nat} {w0:Cx} {a:Act} {g:Gh} {v:Value}
theorem Rep.rebox {st:PS} {w':World} (h:Rep B w0 g st a w) {i b b' T:Nat} (hlt:i<500000) (hsm:Ka i) (hbl:g.bl i=some b) (hb0:Below 0 w w') (hne:∀ k,k<w.heap.size->k≠b->w'.heap[k]? = w.heap[k]?) (hbb:b'=b∨w.heap.size<=b')
 (xs:Array Value) (hheap:w'.heap[b']? = some (.cells xs T (0,0))) (vs:List Value) (hl:vs.length<=xs.size) (hx:∀ (j:Nat) u,vs[j]? = some u->xs[j]? = some u∧u.oneCell'=true):
 Rep B w0 (g.addb i b') ((st.kill i).bput i (vs.map fun u=>.d (.val u))) a w':=by
 have hbs:b'<w'.heap.size:=(D5.1 hheap).1
 have hothers:∀ j c,j≠i->g.bl j=some c->c≠b'∧w'.heap[c]? = w.heap[c]?:=fun j c hj hc=>by
  have h1:c≠b:=fun e=>hj (h.inj j i b (by rw[hc,e]) hbl)
  have h2:=(h.blk j c hc).2
  refine⟨fun e=>?_,hne c h2 h1⟩
  rcases hbb with e2|e2
  . exact h1 (e.trans e2)
  . omega
 have ev:Evo g w (g.addb i b') w':=by
  refine⟨hb0,O,fun c o hf hs=>?_,fun c hc=>?_,fun j c hj=>?_,fun _ T h=>.inl ⟨T,h,.inl O⟩,fun t T _ h h'=>.inr (.inr ⟨t,T,h,h'⟩),fun j c hj hc hc'=>?_⟩
  . have hcl:=V4 hs
    have hcb:c≠b:=fun e=>hf.2.1 i (by rw[hbl,e])
    refine⟨⟨hf.1,fun j hj=>?_,hf.2.2⟩,I2 (hne c hcl hcb) o⟩
    simp only[Gh.addb]at hj
    split at hj
    . cases hj
      rcases hbb with e2|e2
      . exact hcb e2
      . omega
    . exact hf.2.1 j hj
  . rcases G0 c w.heap.size with h1|h1
    . exact hne c h1 fun e=>hc (.inr (.inl ⟨i,e ▸ hbl⟩))
    . exact F9 (.inl h1) hc
  . simp only[Gh.addb]at hj
    split at hj
    . rename_i e
      cases hj
      refine .inr ⟨e ▸ hsm,?_⟩
      rcases hbb with e2|e2
      . exact .inr (.inl ⟨i,e2 ▸ hbl⟩)
      . exact .inl e2
    . exact .inl hj
  . have hji:j≠i:=fun e=>hj (e ▸ hsm)
    exact G5 (hothers j c hji hc).2
 have srep:∀ v x,SRep g w v x->SRep (g.addb i b') w' v (x.kill i):=fun v x hx=>
  (hx.le (FZ i x)).extp ev.fx (fun j hj c hc=>by
   simp only[Gh.addb]
   rw[B8 (Bd hj).2]
   exact hc) (fun t' k' es e T' hT'=>⟨T',hT',.inl O⟩) fun j hj c hc=>G5 (hothers j c (Bd hj).2 hc).2
 obtain⟨-,hk⟩:=h.kill i
 have hxs:∀ (j:Nat) c,(vs.map fun u=>SV.d (.val u))[j]? = some c->∃ x,xs[j]? = some x∧SRep (g.addb i b') w' x c:=fun j c hj=>by
  rw[B5,B7]at hj
  obtain⟨u,hu,rfl⟩:=hj
  obtain⟨h1,h2⟩:=hx j u hu
  exact⟨u,h1,DRep.val u h2⟩
 refine { hk with evo:=h.evo.trans ev,defers:=h.defers.evo ev,base:=E3 h.base hb0.size,f0:=h.f0,lim:=hk.lim,size:=hk.size,glob:=fun q cs hq=>srep _ (.rd cs) (h.glob q cs hq),slots:=fun j=>?_,boxes:=fun j cs' hj hj5=>?_,maps:=fun j ms hj hge=>?_,blk:=fun j c hj=>?_,dom:=fun j c hj=>?_,inj:=fun j k c hj hk=>?_,toks:=fun t' T' hT'=>?_,tf0:=h.tf0,telt:=h.telt,tdis:=h.tdis,tdom:=h.tdom,tlen:=h.tlen }
 . show SRep _ w' _ ((st.kill i).get j)
   rw[De]
   exact srep _ _ (h.slots j)
 . rw[I0]at hj
   by_cases e:j=i
   . rw[C2 e]at hj
     cases hj
     refine⟨b',xs,T,by simp[Gh.addb,e],hheap,by simpa using hl,hxs,fun q u hq hu=>?_⟩
     rw[D3]at hq
     have h1:=hx q _ (A4 hq)
     rw[h1.1]at hu
     cases hu
     exact h1.2
   . rw[B8 e]at hj
     rw[O9,B8 e,B7]at hj
     obtain⟨cs0,q1,rfl⟩:=hj
     obtain⟨c,ys,T',q2,q3,q4,q5,q6⟩:=h.boxes j cs0 q1 hj5
     refine⟨c,ys,T',by simp[Gh.addb,e,q2],(hothers j c e q2).2.trans q3,by simpa using q4,fun q c0 hq=>?_,fun q u hq hu=>q6 q u (by simpa using hq) hu⟩
     rw[B5,B7]at hq
     obtain⟨c1,q7,rfl⟩:=hq
     obtain⟨x,q8,q9⟩:=q5 q c1 q7
     exact⟨x,q8,srep _ _ q9⟩
 . have e:j≠i:=by omega
   rw[I0,B8 e,O9,B8 e,B7]at hj
   obtain⟨cs0,q1,q2⟩:=hj
   have q3:=FY q2
   subst q3
   obtain⟨c,es,c',q4,q5,q6⟩:=h.maps j ms q1 hge
   exact⟨c,es,c',by simp[Gh.addb,e,q4],(hothers j c e q4).2.trans q5,q6.mono ev.fx⟩
 . simp only[Gh.addb]at hj
   split at hj
   . cases hj
     refine⟨fun o=>?_,hbs⟩
     rcases hbb with e2|e2
     . rw[e2];exact(h.blk i b hbl).1 o
     . exact h.f0 _ o (E3 h.base e2)
   . exact⟨(h.blk j c hj).1,G2 (h.blk j c hj).2 hb0.size⟩
 . rw[I0]
   simp only[Gh.addb]at hj
   split at hj
   . rename_i e;simp[e]
   . rename_i e
     rw[B8 e,O9,B8 e]
     have:=h.dom j c hj
     cases q:st.bget j with
     | none=>exact F9 q this
     | some x=>simp
 . simp only[Gh.addb]at hj hk
   split at hj<;>split at hk
   . omega
   . rename_i e1 e2;cases hj;exact F9 O (hothers k _ e2 hk).1
   . rename_i e1 e2;cases hk;exact F9 O (hothers j _ e1 hj).1
   . exact h.inj j k c hj hk
 . obtain⟨⟨n,ys,h1⟩,h2⟩:=h.toks t' T' hT'
   have h3:∀ c,T'.v.ownBlock=some c->c≠b∧c<w.heap.size:=fun c hc=>⟨fun e=>h2 i b (e ▸ hc) hbl,(h1.lt c hc).2⟩
   refine⟨⟨n,ys,H8 h1 fun c hc=>hne c (h3 c hc).2 (h3 c hc).1⟩,fun j c hc hj=>?_⟩
   simp only[Gh.addb]at hj
   split at hj
   . cases hj
     have:=h3 _ hc
     rcases hbb with e2|e2
     . exact this.1 e2
     . omega
   . exact h2 j c hc hj
section
variable {P:Program} {ops:Array Oper} {K:PS->Prop} {rest:List Oper} {st:PS} {ty:TypeId} {pos:String} {af:Array Edge} {gd:Option (Nat×Bool)}
theorem ET {k m:Nat} {news:List Value} (hes:J4 k m (vs.map .val)=es) (hvl:vs.length=m*k) (hnl:news.length=es.length*k)
 (h:∀ (i j:Nat) e z,es[i]? = some e->e[j]? = some z->∃ u,news[i*k+j]? = some u∧DRep F w u z):news=vs:=by
 have hm:es.length=m:=by rw[<-hes,M4]
 refine List.ext_getElem? fun j=>?_
 by_cases hj:j<m*k
 . have hk0:0<k:=by
    rcases F7 k with h0|h0
    . rw[h0,Nat.mul_zero]at hj;omega
    . exact h0
   have hq:j / k<es.length:=by rw[hm];exact Nat.div_lt_of_lt_mul (by rw[Nat.mul_comm];exact hj)
   have hr:j % k<k:=Nat.mod_lt _ hk0
   have he:=A4 hq
   have hlen:es[j / k].length=k:=by
    have:=Ap k m (vs.map .val) (by simpa using hvl)
    exact this _ (by rw[hes];exact List.getElem_mem hq)
   have hx:=A4 (l:=es[j / k]) (i:=j % k) (by omega)
   obtain⟨u,t1,t2⟩:=h _ _ _ _ he hx
   have t3:=(Z6 k m (vs.map .val) (j / k) (j % k) es[j / k] _ (by rw[hes];exact he) hx (by simpa using hvl)).1
   have e:j / k*k+j % k=j:=by rw[Nat.mul_comm];exact Nat.div_add_mod j k
   rw[e]at t1 t3
   rw[B5,B7]at t3
   obtain⟨u',t4,t5⟩:=t3
   rw[<-t5]at t2
   rw[t1,t4,DRep.val_eq t2]
 . rw[E9 (by rw[hnl,hm];omega),E9 (by omega)]
theorem yTn {T E k bytes m e:Nat} {y:Operand} [hA:AppOf P T E k bytes] (h0:0<m) (_:0<k) (hb:m*bytes<=140737488351232) (hm:m<=140737488351232) (hes:J4 k m (vs.map .val)=es) (hvl:vs.length=m*k) (hx:st.ev x=.d (.val (.slice none 0 0))) (hy:asSl (st.ev y)=some (k,es)) (hi:st.bget e=none)
 (h:YR P true ops K rest ((st.bput e (vs.map fun u=>.d (.val u))).put (some e) (.bs e m E k))) (hd:G3 ⟨some e,.call { callee:=.builtin .append,args:=#[x,y],argTypes:=#[T,T] },ty,pos,af,gd⟩ st=true:=by kernel_rfl) (hw:st.want ops ⟨some e,.call { callee:=.builtin .append,args:=#[x,y],argTypes:=#[T,T] },ty,pos,af,gd⟩=some true:=by rfl):
 YR P true ops K (⟨some e,.call { callee:=.builtin .append,args:=#[x,y],argTypes:=#[T,T] },ty,pos,af,gd⟩::rest) st:=by
 refine .any O fun B w0 Q hQ g a w hr=>?_
 have h1:=hr.eval x
 rw[hx]at h1
 have h1:=DRep.val_eq h1
 obtain⟨A2,c2,news,hv2,hl2,hcell2,hone2,hrep2⟩:=BK hr hy
 have hel:es.length=m:=by rw[<-hes,M4]
 obtain rfl:=ET hes hvl hl2 hrep2
 obtain⟨ti,z,q1,q2,q3,q4,q5⟩:=hA.inf
 obtain⟨v',w',r1,r2,r3,r4,r5,r6,r7⟩:=FG (P:=P) w w.heap.size T ty E ti z k bytes hA.und q1 q2 q3 q4 q5 (.slice none 0 0) 0 [] (World.ownsRow_nil _ _ _ _) A2 es.length c2 news hl2 (fun h0=>by
  obtain⟨b,off,rfl,hcell⟩:=hcell2 h0
  exact⟨_,O,fun j u hj=>by rw[Addr.add_lit];exact hcell j u hj⟩) hone2 (by unfold maxLen;omega) (by rw[hel,D0];omega) (D6 _)
 rw[D0,List.nil_append,hel]at r2
 obtain⟨hxl,(⟨-,q0⟩|⟨gb,cap,cur,rfl,t1,t2,t3,t4,t5,t6⟩)⟩:=r2
 . omega
 have hin:e<st.n:=F5 hd e rfl
 have hcur:∀ (j:Nat) (u:Value),news[j]? = some u->cur[j]? = some u∧u.oneCell'=true:=fun j u hj=>by
  refine⟨?_,hone2 u (B2 hj)⟩
  rw[<-t6]at hj
  have hj':j<m*k:=by have:=(A6.1 hj).1;rw[F3]at this;omega
  rw[C7 hj']at hj
  simpa using hj
 have hbel:Below w.heap.size w w':=⟨r3.os,r3.tape,r3.output,r3.size,fun k hk=>r4 k hk (by simp[Value.ownBlock])⟩
 obtain⟨ev,hr'⟩:=hr.adopt e gb E hi hin hbel t1 cur t2 (news.map fun u=>.d (.val u)) (by rw[D3,hvl,t5];exact Nat.mul_le_mul_right _ t3) (fun _ j c hj=>by
  rw[B5,B7]at hj
  obtain⟨u,hu,rfl⟩:=hj
  exact⟨u,(hcur j u hu).1,DRep.val u (hcur j u hu).2⟩) (fun j u hj hu=>by
  rw[D3]at hj
  have:=hcur j _ (A4 hj)
  rw[this.1]at hu
  cases hu
  exact this.2)
 have hrun:(execOp a.eval ⟨some e,.call { callee:=.builtin .append,args:=#[x,y],argTypes:=#[T,T] },ty,pos,af,gd⟩).run P w=.ok (.value (.slice (some ⟨gb,0,none⟩) m cap)) w':=by
  simp only[execOp,resolve,invoke,builtin,Sem.run_bind,Sem.run_pure,C1,List.map_toArray,List.map_cons,List.map_nil,h1,hv2,r1]
 unfold wpList
 rw[C2 (H9 hr hw)]
 refine .inl ?_
 unfold Oper.wp
 rw[hrun]
 refine h.sound hQ (hr'.put (x:=.bs e m E k) ⟨gb,cap,by simp[Gh.addb],rfl,t3,t4,by simp[World.shape?,t2,t5]⟩ _ ?_)
 intro j hj
 exact F5 (st:=st) hd j hj
theorem MT (hr:Rep B w0 g st a w) {i n E k:Nat} (hlt:i<500000) (hv:SRep g w v (.bs i n E k)) (hi:st.bget i=some (vs.map fun u=>.d (.val u))) (hn:vs.length=n*k):
 ∃ b c xs,g.bl i=some b∧v=.slice (some ⟨b,0,none⟩) n c∧n<=c∧c<=maxLen∧w.heap[b]? = some (.cells xs E (0,0))∧xs.size=c*k∧w.ownsRow 0 E k v n vs ∧ ∀ u∈vs,u.oneCell'=true:=by
 obtain⟨b,c,q1,q2,q3,q4,q5⟩:=hv
 obtain⟨b',xs,T,q6,q7,q8,q9,q10⟩:=hr.boxes i _ hi hlt
 rw[q1]at q6
 cases q6
 have hsh:T=E∧xs.size=c*k:=by
  simp only[World.shape?,q7,Option.some.injEq,Prod.mk.injEq]at q5
  exact q5
 obtain⟨rfl,hsz⟩:=hsh
 rw[D3]at q8 q10
 have hxv:∀ (j:Nat) u,vs[j]? = some u->xs[j]? = some u∧u.oneCell'=true:=fun j u hj=>by
  obtain⟨u',t1,t2⟩:=q9 j (.d (.val u)) (by rw[B5,hj];rfl)
  have t3:=DRep.val_eq t2
  subst t3
  exact⟨t1,q10 j u' (A6.1 hj).1 t1⟩
 have hone:∀ u∈vs,u.oneCell'=true:=fun u hu=>by
  obtain⟨j,hj⟩:=List.mem_iff_getElem?.1 hu
  exact(hxv j u hj).2
 refine⟨b,c,xs,q1,q2,q3,q4,q7,hsz,?_,hone⟩
 rw[q2]
 refine⟨hn,.inr ⟨b,c,xs,O,D4 _,q7,q3,q4,hsz,?_⟩⟩
 refine List.ext_getElem? fun j=>?_
 by_cases hj:j<n*k
 . rw[C7 hj]
   have hjv:=A4 (l:=vs) (i:=j) (by omega)
   rw[hjv]
   simpa using (hxv j _ hjv).1
 . rw[E9 (by simp;omega),E9 (by omega)]
theorem yTw {T E k bytes n m i e:Nat} {y:Operand} {us:List Value} [hA:AppOf P T E k bytes] (h0:0<m) (hb:(n+m)*bytes<=140737488351232) (hm:n+m<=140737488351232) (hes:J4 k m (vs.map .val)=es) (hvl:vs.length=m*k) (hul:us.length=n*k) (hx:st.ev x=.bs i n E k) (hi:st.bget i=some (us.map fun u=>.d (.val u))) (hy:asSl (st.ev y)=some (k,es))
 (h:YR P true ops K rest (((st.kill i).bput i ((us++vs).map fun u=>.d (.val u))).put (some e) (.bs i (n+m) E k))) (hd:G3 ⟨some e,.call { callee:=.builtin .append,args:=#[x,y],argTypes:=#[T,T] },ty,pos,af,gd⟩ st=true:=by kernel_rfl) (hw:st.want ops ⟨some e,.call { callee:=.builtin .append,args:=#[x,y],argTypes:=#[T,T] },ty,pos,af,gd⟩=some true:=by rfl) (hlt:Nat.blt i 500000=true:=by rfl) (hsm:Nat.blt (i % 500000) 10000=true:=by rfl):
 YR P true ops K (⟨some e,.call { callee:=.builtin .append,args:=#[x,y],argTypes:=#[T,T] },ty,pos,af,gd⟩::rest) st:=by
 have hlt5:i<500000:=B0 hlt
 have hsm5:Ka i:=B0 hsm
 clear hlt hsm
 refine .any O fun B w0 Q hQ g a w hr=>?_
 have h1:=hr.eval x
 rw[hx]at h1
 obtain⟨b,c,xs,p1,p2,p3,p4,p5,p6,p7,p8⟩:=MT hr hlt5 h1 hi hul
 obtain⟨A2,c2,news,hv2,hl2,hcell2,hone2,hrep2⟩:=BK hr hy
 have hel:es.length=m:=by rw[<-hes,M4]
 obtain rfl:=ET hes hvl hl2 hrep2
 obtain⟨ti,z,q1,q2,q3,q4,q5⟩:=hA.inf
 obtain⟨v',w',r1,r2,r3,r4,r5,r6,r7⟩:=FG (P:=P) w 0 T ty E ti z k bytes hA.und q1 q2 q3 q4 q5 (a.eval x) n us p7 A2 es.length c2 news hl2 (fun h0=>by
  obtain⟨b,off,rfl,hcell⟩:=hcell2 h0
  exact⟨_,O,fun j u hj=>by rw[Addr.add_lit];exact hcell j u hj⟩) hone2 (by unfold maxLen;omega) (by rw[hel];omega) (D4 _)
 rw[hel]at r2
 obtain⟨hxl,(⟨-,q0⟩|⟨gb,cap,cur,rfl,t1,t2,t3,t4,t5,t6⟩)⟩:=r2
 . omega
 have hob:(a.eval x).ownBlock=some b:=by rw[p2];rfl
 have hbb:gb=b∨w.heap.size<=gb:=by
  rcases r6 with r6|r6
  . rw[hob]at r6;exact .inl (by simpa[Value.ownBlock]using r6)
  . exact .inr (by have:gb=w.heap.size:=by simpa[Value.ownBlock]using r6
                   omega)
 have hcur:∀ (j:Nat) (u:Value),(us++news)[j]? = some u->cur[j]? = some u∧u.oneCell'=true:=fun j u hj=>by
  refine⟨?_,?_⟩
  . rw[<-t6]at hj
    have hj':j<(n+m)*k:=by have:=(A6.1 hj).1;rw[F3]at this;omega
    rw[C7 hj']at hj
    simpa using hj
  . rcases List.mem_append.1 (B2 hj)with q|q
    . exact p8 u q
    . exact hone2 u q
 have hr':=hr.rebox hlt5 hsm5 p1 r3 (fun k hk hne=>r4 k hk (by rw[hob];exact fun e=>hne (G4 e).symm)) hbb cur t2 (us++news) (by rw[hxl,t5];exact Nat.mul_le_mul_right _ t3) hcur
 have hrun:(execOp a.eval ⟨some e,.call { callee:=.builtin .append,args:=#[x,y],argTypes:=#[T,T] },ty,pos,af,gd⟩).run P w=.ok (.value (.slice (some ⟨gb,0,none⟩) (n+m) cap)) w':=by
  simp only[execOp,resolve,invoke,builtin,Sem.run_bind,Sem.run_pure,C1,List.map_toArray,List.map_cons,List.map_nil,hv2,r1]
 unfold wpList
 rw[C2 (H9 hr hw)]
 refine .inl ?_
 unfold Oper.wp
 rw[hrun]
 refine h.sound hQ (hr'.put (x:=.bs i (n+m) E k) ⟨gb,cap,by simp[Gh.addb],rfl,t3,t4,by simp[World.shape?,t2,t5]⟩ _ ?_)
 intro j hj
 exact F5 (st:=st) hd j hj
def PRowC (P:Program) (f:FuncId) (E k:Nat) (vs vs':List Value):Prop:=
 ∀ (w:World) (A:Option Addr) (c n:Nat),w.ownsRow 0 E k (.slice A n c) n vs->0<n->(∀ u∈vs,u.oneCell'=true)->Calls P f #[.slice A n c] w fun e w'=>∃ n' rest,e=.returned (.slice A n' c)∧n'<=n∧vs'.length=n'*k∧w'.ownsRow 0 E k (.slice A n c) n (vs'++rest)∧(∀ u∈vs',u.oneCell'=true)∧w.grownBy w' (Value.slice A n c).ownBlock
theorem yRc {f E k i n n' e:Nat} {ts:Array TypeId} {vs':List Value} [hB:HasBody P f] (hc:PRowC P f E k vs vs') (h0:0<n) (hk0:0<k) (hn:vs.length=n*k) (hn':vs'.length=n'*k) (hx:st.ev x=.bs i n E k) (hi:st.bget i=some (vs.map fun u=>.d (.val u)))
 (h:YR P true ops K rest ((st.bput i (vs'.map fun u=>.d (.val u))).put (some e) (.bs i n' E k))) (hd:G3 ⟨some e,.call { callee:=.value (.func f),args:=#[x],argTypes:=ts },ty,pos,af,gd⟩ st=true:=by kernel_rfl)
 (hw:st.want ops ⟨some e,.call { callee:=.value (.func f),args:=#[x],argTypes:=ts },ty,pos,af,gd⟩=some true:=by rfl) (hlt:Nat.blt i 500000=true:=by rfl):
 YR P true ops K (⟨some e,.call { callee:=.value (.func f),args:=#[x],argTypes:=ts },ty,pos,af,gd⟩::rest) st:=by
 have hlt5:i<500000:=B0 hlt
 clear hlt
 refine .any O fun B w0 Q hQ g a w hr=>?_
 have h1:=hr.eval x
 rw[hx]at h1
 obtain⟨b,c,xs,p1,p2,p3,p4,p5,p6,p7,p8⟩:=MT hr hlt5 h1 hi hn
 rw[p2]at p7
 have M3:=hc w _ c n p7 h0 p8
 have hargs:([x].map a.eval).toArray = #[.slice (some ⟨b,0,none⟩) n c]:=by simp[p2]
 have hrun:(execOp a.eval ⟨some e,.call { callee:=.value (.func f),args:=#[x],argTypes:=ts },ty,pos,af,gd⟩).run P w=.ok (.enter f #[.slice (some ⟨b,0,none⟩) n c]) w:=by
  rw[<-hargs];exact Y1 (l:=[x])
 unfold wpList
 rw[C2 (H9 hr hw)]
 refine .inl ?_
 unfold Oper.wp
 rw[hrun]
 show Calls P f _ w _
 refine M3.mono ?_
 rintro e' w' ⟨n2,rest2,rfl,h2,h3,h4,h5,h6⟩
 obtain rfl:n2=n':=Nat.eq_of_mul_eq_mul_right hk0 (h3.symm.trans hn')
 obtain⟨hvl',(⟨t0,-⟩|⟨gb,cap,cur,t1,-,t2,t3,t4,t5,t6⟩)⟩:=h4
 . cases t0
 cases t1
 have hvs':∀ (j:Nat) u,vs'[j]? = some u->cur[j]? = some u:=fun j u hj=>by
  have hj2:(vs'++rest2)[j]? = some u:=by rw[E4 (A6.1 hj).1];exact hj
  rw[<-t6]at hj2
  have hj':j<n*k:=by have:=(A6.1 hj2).1;rw[F3]at this;omega
  rw[C7 hj']at hj2
  simpa using hj2
 have hr':Rep B w0 g (st.bput i (vs'.map fun u=>.d (.val u))) a w':=by
  refine hr.seto i b _ p1 ⟨h6.os,h6.tape,h6.output,h6.size,fun k hk=>by omega⟩ (fun k hk hne=>h6.block k hk (fun e=>hne (by simpa[Value.ownBlock]using e))) ?_ (fun _ _=>⟨cur,E,t2,?_,fun j c hj=>?_,fun j u hj hu=>?_⟩) fun _ hge=>by omega
  . simp[World.shape?,t2,p5,t5,p6]
  . rw[D3,h3,t5];exact Nat.mul_le_mul_right _ (by omega)
  . rw[B5,B7]at hj
    obtain⟨u,hu,rfl⟩:=hj
    exact⟨u,hvs' j u hu,DRep.val u (h5 u (B2 hu))⟩
  . have hjv:=A4 (l:=vs') (i:=j) (by simpa using hj)
    have:=hvs' j _ hjv
    rw[hu]at this
    cases this
    exact h5 _ (List.getElem_mem _)
 refine h.sound hQ (hr'.put (x:=.bs i n2 E k) ⟨b,c,p1,O,by omega,p4,by simp[World.shape?,t2,t5]⟩ _ ?_)
 intro j hj
 exact F5 (st:=st) hd j hj
end
def Rcl (k:Nat) (es:List (List DV)) (F:Nat->Nat->Prop) (w:World) (v:Value):Prop:=DRep F w v (.sl k es) ∧ ∃ A,v=.slice A es.length es.length
theorem Rcl.mono {k:Nat} (F F':Nat->Nat->Prop) (w w':World) (v:Value) (h:Rcl k es F w v) (hk:Kp F w F' w'):Rcl k es F' w' v:=⟨h.1.mono hk,h.2⟩
theorem DRep.cap {A A':Option Addr} {n c c' k:Nat} (h:DRep F w (.slice A n c) (.sl k es)) (hc:n<=c') (hA:0<n->A'=A):DRep F w (.slice A' n c') (.sl k es):=by
 obtain⟨A0,c0,news,hv,h1,h2,h3,h4,h5,h6,h7⟩:=DRep.row h
 obtain⟨e1,e2,e3⟩:=Value.slice.inj hv
 subst e1 e2 e3
 exact DRep.of_row (xs:=news) hc h2 h3 (fun h0=>by rw[hA h0];exact h5 h0) h6 h7
theorem add_zero (k:Nat) (A:Option Addr):A.map (·.add (0*k))=A:=by
 cases A with
 | none=>rfl
 | some a=>simp[Addr.add]
section
variable {P:Program} {sq:Bool} {ops:Array Oper} {K:PS->Prop} {rest:List Oper} {st:PS} {d:Option Nat} {op:Op} {ty:TypeId} {pos:String} {af:Array Edge} {gd:Option (Nat×Bool)} {q:Nat×Bool}
end
section
variable {P:Program} {ops:Array Oper} {K:PS->Prop} {rest:List Oper} {st:PS} {ty:TypeId} {pos:String} {af:Array Edge} {gd:Option (Nat×Bool)}
variable {Q:Exit->PS->Prop} {c:Code}
end
section
variable {P:Program} {sq:Bool} {ops:Array Oper} {K:PS->Prop} {rest:List Oper} {st:PS} {d:Option Nat} {ty:TypeId} {pos:String} {af:Array Edge} {gd:Option (Nat×Bool)}
theorem ls_nil (x:Operand) {i off:Nat} (hx:st.ev x=.bx i off) (hd:G3 ⟨d,.nilCheck x,ty,pos,af,gd⟩ st=true):I7 P ⟨d,.nilCheck x,ty,pos,af,gd⟩ st (.bx i off) .no:=fun st2 ha=>
 OpS.value (ha.dst hd) fun _ _ g a w h=>by
  have h1:=h.eval x
  rw[ha.ev x (by simp[Op.operands]),hx]at h1
  obtain⟨b,h2,h3⟩:=h1
  refine⟨.pointer (some ⟨b,off,none⟩),w,?_,Below.refl _ _,b,h2,O⟩
  simp[execOp,h3]
theorem yNil {i off:Nat} (hx:st.ev x=.bx i off) (h:YR P sq ops K rest (st.put d (.bx i off))) (zz:zk ops st ⟨d,.nilCheck x,ty,pos,af,gd⟩ .no=true:=by kernel_rfl):
 YR P sq ops K (⟨d,.nilCheck x,ty,pos,af,gd⟩::rest) st:=I1 (ls_nil x hx (zd zz)) (zo zz) (zw zz) h
end
section
variable {P:Program} {sq:Bool} {ops:Array Oper} {K:PS->Prop} {rest:List Oper} {st:PS} {d:Option Nat} {op:Op} {ty:TypeId} {pos:String} {af:Array Edge} {gd:Option (Nat×Bool)} {q:Nat×Bool}
theorem DRep.fresh {w':World} (h:Rep B w0 g st a w) (hb:Below w.heap.size w w') {E k n:Nat} {xs:List Value} (hown:w'.ownsRow w.heap.size E k v n xs) (hn:es.length=n) (h0:0<n) (hm:n<=9223372036854775807) (hk:∀ e∈es,e.length=k) (h1:∀ u∈xs,u.oneCell'=true)
 (hrep:∀ (i j:Nat) e x,es[i]? = some e->e[j]? = some x->∃ u,xs[i*k+j]? = some u∧DRep (Fx g) w u x):DRep (Fx g) w' v (.sl k es):=by
 subst hn
 have e0:=(Ext.grow h hb).fx
 obtain⟨A,c,h2,h3,h4⟩:=O0 hown
 rcases hown.2 with⟨e6,e7⟩|⟨gb,cap,cur,e6,e7,e8,-⟩
 . rw[e6]at h2
   have:=(Value.slice.inj h2).2.1
   omega
 . have e9:A=some ⟨gb,0,none⟩:=(Value.slice.inj (h2.symm.trans e6)).1
   rw[h2]
   refine DRep.of_row (xs:=xs) h3 hm hk (fun _=>⟨gb,0,e9,fun j u hj=>⟨?_,?_⟩⟩) h1 fun i j e x he hx=>?_
   . rw[D0];exact T9 hown (by rw[e6];rfl) j u hj
   . refine⟨h.f0 _ _ (E3 h.base e7),fun i' hi'=>?_,fun t T n' c' hT hv=>?_⟩
     . have:=(h.blk i' _ hi').2;omega
     . obtain⟨⟨n'',ys,h8⟩,-⟩:=h.toks t T hT
       have:=(h8.lt gb (by rw[hv];rfl)).2
       omega
   . obtain⟨u,h8,h9⟩:=hrep i j e x he hx
     exact⟨u,h8,h9.mono e0⟩
end
end Go.Proofs.YtdkpmnefoobipaaGreatDoor.Px