/- Rules for slices.Grow of nothing: zero values appended to nil, a row that is cut to nothing. -/
import Derived.Test.YtdkpmnefoobipaaGreatDoorB3
import Derived.Shelf.SlSortCmp.NoneTotal
import Derived.Sort.KeysCollected
import Derived.OrdersHeld
import Derived.Shelf.LaySoft
import Derived.Shelf.Strconv.ParseUint10At
import Derived.Shelf.Strings.Repeat
import Derived.Lib.AtoiErrMem
set_option maxHeartbeats 16000000
set_option maxRecDepth 20000
namespace Go.Proofs.YtdkpmnefoobipaaGreatDoor
open Go.RowKit Px
variable {x:Operand} {kd:IntKind} {P:Program} {E:Nat}
theorem CE (w:World) (t u ty e:TypeId) (i:TypeInfo) (z:Value) (bytes:Nat) (ht:P.underlying t=some (.slice e)) (hu:P.underlying u=some (.int .i64)) (hi:P.info? e=some i) (hz:i.zero=some z) (n:Nat) (h0:0<n) (hk0:0<i.size) (hby:i.bytes=bytes) (hb:n*bytes<=140737488355328) (h63:n<=140737488355328):
 (Builtin.append_ #[t,u] ty #[.slice none 0 0,.int .i64 n]).run P w =
  .ok (.slice (some ⟨w.heap.size,0,none⟩) n (grownCap w n 0 e)) (w.drew.alloc (.cells (Builtin.zeroCells z.cells n++Builtin.zeroCells z.cells (grownCap w n 0 e-n)) e)):=by
 have hn:n≠0:=by omega
 have h63':¬ (9223372036854775807<(n:Int)):=by omega
 have h48':¬ (281474976710656<Builtin.nextslicecap n 0*bytes):=by rw[nextslicecap_zero h0];omega
 have hw:IntKind.i64.wrap (n:Int)=n:=H2 _ (by omega)
 have h1:¬ ((n:Int)<0):=by omega
 have h2:¬ (281474976710656<(n:Int)*(bytes:Int)):=by
  have:((n*bytes:Nat):Int)=(n:Int)*(bytes:Int):=by push_cast;rfl
  omega
 have hk2:i.size≠0:=by omega
 have hk1:n*i.size≠0:=Nat.mul_ne_zero hn hk2
 simp[Builtin.append_,run_underlying ht,run_underlying hu,sizeOf,typeInfo,zeroValue,hi,hz,Builtin.lenOf,hn,h63',h48',Question.forced,run_firstCells_none,newRow,grownCap,asInt,asIntOf,hw,h1,h2,hk1,hby]
theorem JA {f k:Nat} {args:List DV} (h:PCalls P f args (.d (.val (.slice none 0 0)))):Ia P f args E k []:=fun F w vals hl hr hg=>
 (h F w vals hl hr hg).mono fun _ _ ⟨v,h1,h2,h3⟩=>by
  have hv:v=.slice none 0 0:=DRep.val_eq h2
  subst hv
  exact⟨_,[],h1,World.ownsRow_nil _ _ _ _,fun u hu=>(by cases hu),DRep.nil,h3⟩
section
variable {sq:Bool} {ops:Array Oper} {K:PS->Prop} {rest:List Oper} {st:PS} {d:Option Nat} {ty:TypeId} {pos:String} {af:Array Edge} {gd:Option (Nat×Bool)}
theorem FU (T:TypeId) (x y:Operand) {k:Nat} [hS:SliceOf P T E k] (hx:st.ev x=.d (.val (.slice none 0 0))) (hy:st.ev y=.d (.val (.int kd 0))) (hd:G3 ⟨d,.slice T x none (some y) none,ty,pos,af,gd⟩ st=true):
 I7 P ⟨d,.slice T x none (some y) none,ty,pos,af,gd⟩ st (.d (.val (.slice none 0 0))) .no:=fun st2 ha=>
 OpS.value (ha.dst hd) fun _ _ g a w h=>by
  have h1:=h.eval x
  rw[ha.ev x (by simp[Op.operands]),hx]at h1
  have h2:=h.eval y
  rw[ha.ev y (by simp[Op.operands]),hy]at h2
  refine⟨.slice none 0 0,w,?_,Below.refl _ _,DRep.val _ O⟩
  simp[execOp,Instr.sliceAt,Instr.slice,Instr.sliceBounds,Instr.sliceBound,DRep.val_eq h1,DRep.val_eq h2,asIntOf,hS.und,hS.size]
theorem Hv (T:TypeId) (x:Operand) {k:Nat} [hS:SliceOf P T E k] (hx:st.ev x=.d (.val (.slice none 0 0))) (hd:G3 ⟨d,.call { callee:=.builtin .cap,args:=#[x],argTypes:=#[T] },ty,pos,af,gd⟩ st=true):
 I7 P ⟨d,.call { callee:=.builtin .cap,args:=#[x],argTypes:=#[T] },ty,pos,af,gd⟩ st (.d (.val (.int .i64 0))) .no:=fun st2 ha=>
 OpS.value (ha.dst hd) fun _ _ g a w h=>by
  have h1:=h.eval x
  rw[ha.ev x (by simp[Op.operands,Call.operands]),hx]at h1
  refine⟨.int .i64 0,w,?_,Below.refl _ _,DRep.val _ O⟩
  simp[execOp,resolve,invoke,builtin,Builtin.cap_,DRep.val_eq h1,hS.und,goInt]
theorem Ht (T:TypeId) (x:Operand) {k:Nat} [hS:SliceOf P T E k] (hx:st.ev x=.d (.val (.slice none 0 0))) (hd:G3 ⟨d,.call { callee:=.builtin .len,args:=#[x],argTypes:=#[T] },ty,pos,af,gd⟩ st=true):
 I7 P ⟨d,.call { callee:=.builtin .len,args:=#[x],argTypes:=#[T] },ty,pos,af,gd⟩ st (.d (.val (.int .i64 0))) .no:=fun st2 ha=>
 OpS.value (ha.dst hd) fun _ _ g a w h=>by
  have h1:=h.eval x
  rw[ha.ev x (by simp[Op.operands,Call.operands]),hx]at h1
  refine⟨.int .i64 0,w,?_,Below.refl _ _,DRep.val _ O⟩
  simp[execOp,resolve,invoke,builtin,Builtin.len_,DRep.val_eq h1,hS.und,goInt]
theorem ySz {T k:Nat} {y:Operand} [SliceOf P T E k] (hx:st.ev x=.d (.val (.slice none 0 0))) (hy:st.ev y=.d (.val (.int kd 0))) (h:YR P sq ops K rest (st.put d (.d (.val (.slice none 0 0))))) (zz:zk ops st ⟨d,.slice T x none (some y) none,ty,pos,af,gd⟩ .no=true:=by kernel_rfl):
 YR P sq ops K (⟨d,.slice T x none (some y) none,ty,pos,af,gd⟩::rest) st:=I1 (FU T x y hx hy (zd zz)) (zo zz) (zw zz) h
theorem yNc {T k:Nat} [SliceOf P T E k] (hx:st.ev x=.d (.val (.slice none 0 0))) (h:YR P sq ops K rest (st.put d (.d (.val (.int .i64 0))))) (zz:zk ops st ⟨d,.call { callee:=.builtin .cap,args:=#[x],argTypes:=#[T] },ty,pos,af,gd⟩ .no=true:=by kernel_rfl):
 YR P sq ops K (⟨d,.call { callee:=.builtin .cap,args:=#[x],argTypes:=#[T] },ty,pos,af,gd⟩::rest) st:=I1 (Hv T x hx (zd zz)) (zo zz) (zw zz) h
theorem yNl {T k:Nat} [SliceOf P T E k] (hx:st.ev x=.d (.val (.slice none 0 0))) (h:YR P sq ops K rest (st.put d (.d (.val (.int .i64 0))))) (zz:zk ops st ⟨d,.call { callee:=.builtin .len,args:=#[x],argTypes:=#[T] },ty,pos,af,gd⟩ .no=true:=by kernel_rfl):
 YR P sq ops K (⟨d,.call { callee:=.builtin .len,args:=#[x],argTypes:=#[T] },ty,pos,af,gd⟩::rest) st:=I1 (Ht T x hx (zd zz)) (zo zz) (zw zz) h
end
section
variable {ops:Array Oper} {K:PS->Prop} {rest:List Oper} {st:PS} {ty:TypeId} {pos:String} {af:Array Edge} {gd:Option (Nat×Bool)}
theorem yAz {T U k bytes e n:Nat} {zs:List Value} {y:Operand} [hA:AppOf P T E k bytes] [hL:LitOf P T E k zs] (hk0:0<k) (hU:P.underlying U=some (.int .i64)) (hx:st.ev x=.d (.val (.slice none 0 0))) (hy:st.ev y=.d (.val (.int .i64 n))) (h0:0<n) (hn:n*bytes<=140737488351232) (hn2:n<=140737488351232) (hi:st.bget e=none)
 (h:YR P true ops K rest ((st.bput e []).put (some e) (.bs e n E k))) (hd:G3 ⟨some e,.call { callee:=.builtin .append,args:=#[x,y],argTypes:=#[T,U] },ty,pos,af,gd⟩ st=true:=by kernel_rfl)
 (hw:st.want ops ⟨some e,.call { callee:=.builtin .append,args:=#[x,y],argTypes:=#[T,U] },ty,pos,af,gd⟩=some true:=by rfl):
 YR P true ops K (⟨some e,.call { callee:=.builtin .append,args:=#[x,y],argTypes:=#[T,U] },ty,pos,af,gd⟩::rest) st:=by
 refine .any O fun B w0 Q hQ g a w hr=>?_
 obtain⟨i,z,q1,q2,q3,q4,q5⟩:=hA.inf
 have h1:=hr.eval x
 rw[hx]at h1
 have h2:=hr.eval y
 rw[hy]at h2
 obtain⟨z',hz1,hz2⟩:=hL.zero w
 have hzz:z'=z:=by
  have hE:P.info? E=some i:=q1
  simp[zeroValue,typeInfo,hE,q2]at hz1
  exact hz1.symm
 subst hzz
 have hrun0:=CE w T U ty E i z' bytes hA.und hU q1 q2 n h0 (by rw[q3];exact hk0) q4 (by omega) (by omega)
 have hrun:(execOp a.eval ⟨some e,.call { callee:=.builtin .append,args:=#[x,y],argTypes:=#[T,U] },ty,pos,af,gd⟩).run P w=.ok (.value (.slice (some ⟨w.heap.size,0,none⟩) n (grownCap w n 0 E))) (w.drew.alloc (.cells (Builtin.zeroCells z'.cells n++Builtin.zeroCells z'.cells (grownCap w n 0 E-n)) E)):=by
  simp only[execOp,resolve,Sem.run_bind,Sem.run_pure,C1,invoke]
  simp only[List.map_toArray,List.map_cons,List.map_nil,DRep.val_eq h1,DRep.val_eq h2,builtin,Sem.run_bind,hrun0,C1,Sem.run_pure]
 have hge:=grownCap_ge w n 0 E
 have hle:=grownCap_le_maxLen w n 0 E (by unfold maxLen;omega)
 obtain⟨w',hw'⟩:∃ w',w'=w.drew.alloc (.cells (Builtin.zeroCells z'.cells n++Builtin.zeroCells z'.cells (grownCap w n 0 E-n)) E):=⟨_,rfl⟩
 have hheap:w'.heap[w.heap.size]? = some (.cells (Builtin.zeroCells z'.cells n++Builtin.zeroCells z'.cells (grownCap w n 0 E-n)) E (0,0)):=by rw[hw'];exact heap_alloc_new w.drew _
 have hbel:Below w.heap.size w w':=by
  rw[hw']
  exact⟨rfl,O,O,by simp,fun k hk=>Below.heap_alloc w.drew _ k hk⟩
 have hzs:z'.cells.size=k:=by rw[q5]
 have hsz:(Builtin.zeroCells z'.cells n++Builtin.zeroCells z'.cells (grownCap w n 0 E-n)).size=grownCap w n 0 E*k:=by
  simp only[Array.size_append,size_zeroCells,hzs,<-Nat.add_mul]
  congr 1;omega
 have hin:e<st.n:=F5 hd e rfl
 obtain⟨ev,hr'⟩:=hr.adopt e w.heap.size E hi hin hbel (D6 _) _ hheap [] (D4 _) (fun _ j c hj=>by simp at hj) (fun j u hj=>by simp at hj)
 unfold wpList
 rw[C2 (H9 hr hw)]
 refine .inl ?_
 unfold Oper.wp
 rw[hrun,<-hw']
 refine h.sound hQ (hr'.put (x:=.bs e n E k) ⟨w.heap.size,grownCap w n 0 E,by simp[Gh.addb],rfl,hge,hle,by simp only[World.shape?,hheap,hsz]⟩ _ ?_)
 intro j hj
 exact F5 (st:=st) hd j hj
variable {B:Nat} {w0:Cx} {Q:Exit->PS->Prop} {c:Code}
theorem LW (s i t k:Nat) {cs:List SV} (hs:st.get s=.bs i 0 E k) (hi:st.bget i=some cs) (hE:t / 100000=E) (ht:st.tget t=none) (hno:st.noTs t=true) (h:PW P B w0 c Q (((st.kill i).tput t 0).put (some s) (.ts t k []))) (hlt:Nat.blt i 500000=true:=by rfl) (hsm:Nat.blt (t % 100000) 10000=true:=by rfl):PW P B w0 c Q st:=fun g a w hr=>by
 have hv:=hr.slots s
 rw[hs]at hv
 have hlt:=B0 hlt
 obtain⟨g',q1,q2,q3,q4,hr'⟩:=hr.tkb (n:=0) hlt hi (by omega) hv hE (B0 hsm) ht hno
 refine h _ a w { hr' with lim:=hr'.lim,size:=hr'.size,boxes:=hr'.boxes,maps:=hr'.maps,dom:=hr'.dom,tdom:=hr'.tdom,tlen:=hr'.tlen,glob:=hr'.glob,slots:=fun j=>?_ }
 rw[O5]
 by_cases e:j=s
 . rw[C2 e,e]
   obtain⟨b2,c2,-,hvv,-,h4,-⟩:=hv
   refine⟨?_,fun T hT=>?_⟩
   . rw[hvv]
     exact DRep.of_row (es:=([]:List (List DV))) (xs:=[]) (D4 _) (D4 _) (fun e he=>by cases he) (fun h0=>by simp at h0) (fun u hu=>by cases hu) fun i j e x he=>by simp at he
   . rw[q3]at hT
     simp only[Gh.sett,C2]at hT
     cases hT
     refine⟨rfl,fun A n' c' h1=>?_⟩
     obtain⟨-,e2,-⟩:=Value.slice.inj (h1.symm.trans hvv)
     exact⟨D4 _,fun _=>O⟩
 . rw[B8 e];exact hr'.slots j
end
end Go.Proofs.YtdkpmnefoobipaaGreatDoor
namespace Go.Proofs.YtdkpmnefoobipaaGreatDoor.Px
open Go.RowKit Go.ChangeShapes
variable {P:Program} {t:TypeId}
inductive CK where
 | i (k:IntKind)
 | s
 | b
def CK.is:CK->Value->Bool
 | .i k,.int k' _=>decide (k'=k)
 | .s,.string _=>true
 | .b,.bool _=>true
 | _,_=>false
def CK.ty (P:Program) (c:CK) (t:TypeId):Bool:=match c,P.underlying t with
 | .i k,some (.int k')=>decide (k=k')
 | .s,some .string=>true
 | .b,some .bool=>true
 | _,_=>false
def veq:Value->Value->Bool
 | .int _ a,.int _ b=>a==b
 | .string a,.string b=>a.toList==b.toList
 | .bool a,.bool b=>a==b
 | _,_=>false
def Bx:List Value->List Value->Bool
 | [],[]=>true
 | x::xs,y::ys=>veq x y&&Bx xs ys
 | _,_=>false
def Dk:List CK->List Value->Bool
 | [],[]=>true
 | c::cs,x::xs=>c.is x&&Dk cs xs
 | _,_=>false
section
variable (w:World)
theorem CK.plain {c:CK} (h:c.ty P t=true):P.plainKey t=true:=by
 unfold CK.ty at h
 unfold Program.plainKey
 cases e:P.underlying t with
 | none=>rw[e]at h;cases c<;>simp at h
 | some d=>rw[e]at h;cases c<;>cases d<;>simp at h ⊢
theorem Io {c:CK} (h:c.ty P t=true) {x y:Value} (hx:c.is x=true) (hy:c.is y=true) (d:Nat):(Op.equalIn (d+1) t x y).run P w=.ok (veq x y) w:=by
 unfold CK.ty at h
 cases e:P.underlying t with
 | none=>rw[e]at h;cases c<;>simp at h
 | some u=>
  rw[e]at h
  cases c with
  | i k=>
   cases u<;>simp at h
   subst h
   cases x<;>simp[CK.is]at hx
   cases y<;>simp[CK.is]at hy
   subst hx hy
   exact run_equalIn_int w d t _ _ _ _ e
  | s=>
   cases u<;>simp at h
   cases x<;>simp[CK.is]at hx
   cases y<;>simp[CK.is]at hy
   exact run_equalIn_string w d t _ _ e
  | b=>
   cases u<;>simp at h
   cases x<;>simp[CK.is]at hx
   cases y<;>simp[CK.is]at hy
   exact run_equalIn_bool' w d t _ _ e
def DD (P:Program):Nat->List CK->List Field->Bool
 | _,[],[]=>true
 | off,c::cs,f::fs=>c.ty P f.type&&Nat.beq f.offset off && !(f.name == "_")&&DD P (off+1) cs fs
 | _,_,_=>false
theorem Au (d:Nat) (xs ys:Array Value):∀ (cs:List CK) (fs:List Field) (off:Nat),DD P off cs fs=true->∀ la lb:List Value,Dk cs la=true->Dk cs lb=true->(∀ (j:Nat) v,la[j]? = some v->xs[off+j]? = some v)->(∀ (j:Nat) v,lb[j]? = some v->ys[off+j]? = some v) →
 (Op.eqFields (d+1) xs ys fs).run P w=.ok (Bx la lb) w
 | [],[],off,_,la,lb,ha,hb,_,_=>by
  cases la with
  | nil=>cases lb with
   | nil=>simp[Op.eqFields,Bx]
   | cons=>cases hb
  | cons=>cases ha
 | [],_::_,_,h,_,_,_,_,_,_=>by cases h
 | _::_,[],_,h,_,_,_,_,_,_=>by cases h
 | c::cs,f::fs,off,h,la,lb,ha,hb,hxs,hys=>by
  cases la with
  | nil=>cases ha
  | cons a la=>
   cases lb with
   | nil=>cases hb
   | cons b lb=>
    simp only[DD,Dk,C6]at h ha hb
    obtain⟨⟨⟨h1,h2⟩,h3⟩,h4⟩:=h
    have h2:=E5 h2
    have hn:f.name ≠ "_":=by simpa using h3
    have p1:=run_part_plain w (CK.plain h1) (xs:=xs) (off:=f.offset) (v:=a) (by rw[h2];exact hxs 0 a O)
    have p2:=run_part_plain w (CK.plain h1) (xs:=ys) (off:=f.offset) (v:=b) (by rw[h2];exact hys 0 b O)
    have p3:=Io w h1 ha.1 hb.1 d
    have ih:=Au d xs ys cs fs (off+1) h4 la lb ha.2 hb.2 (fun j v hj=>by rw[show off+1+j=off+(j+1)by omega];exact hxs (j+1) v hj) fun j v hj=>by rw[show off+1+j=off+(j+1)by omega];exact hys (j+1) v hj
    simp only[Op.eqFields,hn,ne_eq,not_false_eq_true,if_true,Sem.run_bind,p1,p2,p3,C1,Bx]
    cases veq a b
    . simp
    . simpa using ih
theorem BO (d:Nat) {e:TypeId} {c:CK} (he:c.ty P e=true) (xs ys:Array Value):∀ (n off:Nat) (la lb:List Value),Dk (List.replicate n c) la=true->Dk (List.replicate n c) lb=true->(∀ (j:Nat) v,la[j]? = some v->xs[off+j]? = some v)->(∀ (j:Nat) v,lb[j]? = some v->ys[off+j]? = some v) →
 (Op.eqItems (d+1) e 1 xs ys (List.range' off n)).run P w=.ok (Bx la lb) w
 | 0,off,la,lb,ha,hb,_,_=>by
  cases la with
  | nil=>cases lb with
   | nil=>simp[Op.eqItems,Bx]
   | cons=>cases hb
  | cons=>cases ha
 | n+1,off,la,lb,ha,hb,hxs,hys=>by
  cases la with
  | nil=>cases ha
  | cons a la=>
   cases lb with
   | nil=>cases hb
   | cons b lb=>
    simp only[List.replicate_succ,Dk,C6]at ha hb
    have p1:=run_part_plain w (CK.plain he) (xs:=xs) (off:=off*1) (v:=a) (by rw[Nat.mul_one];exact hxs 0 a O)
    have p2:=run_part_plain w (CK.plain he) (xs:=ys) (off:=off*1) (v:=b) (by rw[Nat.mul_one];exact hys 0 b O)
    have p3:=Io w he ha.1 hb.1 d
    have ih:=BO d he xs ys n (off+1) la lb ha.2 hb.2 (fun j v hj=>by rw[show off+1+j=off+(j+1)by omega];exact hxs (j+1) v hj) fun j v hj=>by rw[show off+1+j=off+(j+1)by omega];exact hys (j+1) v hj
    simp only[List.range'_succ,Op.eqItems,Sem.run_bind,p1,p2,p3,C1,Bx]
    cases veq a b
    . simp
    . simpa using ih
end
class EqOf (P:Program) (T:TypeId) (cs:outParam (List CK)):Prop where
 run:∀ (w:World) (la lb:List Value),Dk cs la=true->Dk cs lb=true->(Op.equalIn 10000 T (.agg la.toArray) (.agg lb.toArray)).run P w=.ok (Bx la lb) w
 guard:P.eqGuardType P.depth T=false
theorem Gr {T:TypeId} {cs:List CK} (h:(match P.underlying T with|some (.struct fs)=>DD P 0 cs fs.toList|_=>false)=true) (hp:P.stoodInHeld T=false) (hg:P.eqGuardType P.depth T=false):EqOf P T cs:=by
 refine⟨fun w la lb ha hb=>?_,hg⟩
 cases hu:P.underlying T with
 | none=>rw[hu]at h;cases h
 | some u=>
  rw[hu]at h
  cases u with
  | struct fs=>
   have hf:P.fieldsOf T=fs:=by simp[Program.fieldsOf,hu]
   rw[show(10000:Nat)=9999+1 from rfl,run_equalIn_agg w 9999 T _ _ (by rw[hf];exact hu) hp,hf]
   exact Au w 9998 _ _ cs fs.toList 0 h la lb ha hb (fun j v hj=>by simpa using hj) fun j v hj=>by simpa using hj
  | _=>cases h
theorem IC {T e n:Nat} {c:CK} (hu:P.underlying T=some (.array n e)) (hi:(P.info? e).isSome=true) (h1:P.cellsOf e=1) (he:c.ty P e=true) (hg:P.eqGuardType P.depth T=false):EqOf P T (List.replicate n c):=by
 refine⟨fun w la lb ha hb=>?_,hg⟩
 obtain⟨i,hi⟩:=Option.isSome_iff_exists.1 hi
 rw[show(10000:Nat)=9999+1 from rfl,run_equalIn_array w 9999 _ _ hu hi,h1,List.range_eq_range']
 exact BO w 9998 he _ _ n 0 la lb ha hb (fun j v hj=>by simpa using hj) fun j v hj=>by simpa using hj
section
variable {sq:Bool} {ops:Array Oper} {K:PS->Prop} {rest:List Oper} {st:PS} {d:Option Nat} {ty:TypeId} {pos:String} {af:Array Edge} {gd:Option (Nat×Bool)}
theorem yBx {t t':Nat} {x y:Operand} {cs ds:List DV} {vs us:List Value} {ks:List CK} [hE:EqOf P t ks] (hv:Dk ks vs=true) (hu:Dk ks us=true) (hx:st.ev x=.d (.agg cs)) (hcx:Ay cs=some vs) (hy:st.ev y=.d (.agg ds)) (hcy:Ay ds=some us)
 (h:YR P sq ops K rest (st.put d (.d (.val (.bool (!Bx vs us)))))) (zz:zk ops st ⟨d,.binOp .neq t x y t',ty,pos,af,gd⟩ .no=true:=by kernel_rfl):YR P sq ops K (⟨d,.binOp .neq t x y t',ty,pos,af,gd⟩::rest) st:=
 yBA (fun w=>by rw[Sem.run_bind,run_eqGuard_agg w _ _ _ _ _ _ hE.guard,C1,run_neq_struct,hE.run w vs us hv hu];rfl) rfl hx hcx hy hcy h zz
end
theorem Eu (a b:List UInt8):veq (vS a) (vS b)=(a==b):=by
 show((ByteArray.mk a.toArray).toList==(ByteArray.mk b.toArray).toList)=(a==b)
 rw[J3,J3]
theorem veq_int (k k':IntKind) (a b:Int):veq (.int k a) (.int k' b)=(a==b):=rfl
open Go.RowKit
variable {l:List (List UInt8×DV)} {i T:Nat}
section
variable {P:Program} {B:Nat} {w0:Cx} {l:List Oper} {J st:PS}
end
section
variable {P:Program} {sq:Bool} {ops:Array Oper} {K:PS->Prop} {rest:List Oper} {st:PS} {d:Option Nat} {op:Op} {ty:TypeId} {pos:String} {af:Array Edge} {gd:Option (Nat×Bool)} {q:Nat×Bool}
end
def K1 (l:List (List UInt8×DV)):List (Value×DV):=l.map fun p=>(vS p.1,p.2)
def EC (z:DV) (k:List UInt8):List (List UInt8×DV)->DV
 | []=>z
 | (k',v)::l=>if k'=k then v else EC z k l
def AE (k:List UInt8) (v:DV):List (List UInt8×DV)->List (List UInt8×DV)
 | []=>[(k,v)]
 | (k',v')::l=>if k'=k then (k,v)::l else (k',v')::AE k v l
theorem CN (k:List UInt8):∀ (l:List (List UInt8×DV)) (es:List MapEntry) (n:Nat),es.length=l.length->(∀ (i:Nat) e p,es[i]? = some e->l[i]? = some p->e.key=vS p.1) →
 (∃ j e d,Instr.findNow .string (vS k) es n=some (some (n+j,e.val))∧es[j]? = some e∧l[j]? = some (k,d)∧(∀ z,EC z k l=d) ∧ ∀ v,AE k v l=l.set j (k,v)) ∨
 (Instr.findNow .string (vS k) es n=some none∧(∀ z,EC z k l=z)∧(∀ v,AE k v l=l++[(k,v)]) ∧ ∀ p∈l,p.1≠k)
 | [],[],n,_,_=>.inr ⟨rfl,fun _=>rfl,fun _=>rfl,fun p hp=>by simp at hp⟩
 | [],e::es,n,hl,_=>by simp at hl
 | p::l,[],n,hl,_=>by simp at hl
 | (k',d)::l,e::es,n,hl,hk=>by
  have h0:e.key=vS k':=hk 0 e (k',d) rfl rfl
  have hs:Instr.sameNow .string (vS k) e.key=some ((⟨k.toArray⟩:ByteArray)==⟨k'.toArray⟩):=by rw[h0];rfl
  by_cases hkk:k'=k
  . subst hkk
    refine .inl ⟨0,e,d,?_,O,O,fun z=>by rw[EC,C2 rfl],fun v=>by rw[AE,C2 rfl];rfl⟩
    rw[Instr.findNow,hs,(MapKept.bytes_beq _ _).2 rfl]
    rfl
  . have hb:((⟨k.toArray⟩:ByteArray)==⟨k'.toArray⟩)=false:=by
     rw[<-Bool.not_eq_true,MapKept.bytes_beq]
     intro e
     apply hkk
     have:=H4 (fun x:ByteArray=>x.data.toList) e
     simpa using this.symm
    have hf:Instr.findNow .string (vS k) (e::es) n=Instr.findNow .string (vS k) es (n+1):=by rw[Instr.findNow,hs,hb]
    rcases CN k l es (n+1) (by simpa using hl) (fun i e' p' he hp=>hk (i+1) e' p' (by simpa using he) (by simpa using hp))with⟨j,e',d',h1,h2,h3,h4,h5⟩|⟨h1,h2,h3,h4⟩
    . refine .inl ⟨j+1,e',d',?_,h2,h3,fun z=>by rw[EC,B8 hkk,h4],fun v=>by rw[AE,B8 hkk,h5];rfl⟩
      rw[hf,h1,show n+1+j=n+(j+1)by omega]
    . exact .inr ⟨by rw[hf,h1],fun z=>by rw[EC,B8 hkk,h2],fun v=>by rw[AE,B8 hkk,h3];rfl,fun p hp=>by
       rcases List.mem_cons.1 hp with rfl|hp
       . exact hkk
       . exact h4 p hp⟩
class MapOf (P:Program) (T:Nat) (z:outParam DV):Prop where
 und:∃ kt et,P.underlying T=some (.map kt et)∧P.underlying kt=some .string ∧ ∀ w,∃ v,(zeroValue et).run P w=.ok v w ∧ ∀ F w',DRep F w' v z
section
variable {P:Program} {sq:Bool} {ops:Array Oper} {K:PS->Prop} {rest:List Oper} {st:PS} {d:Option Nat} {ty:TypeId} {pos:String} {af:Array Edge} {gd:Option (Nat×Bool)}
theorem ls_mkm (T:TypeId) {e:Nat} (hi:st.bget (500000+e)=none) (hd:G3 ⟨some e,.makeMap T none,ty,pos,af,gd⟩ st=true):
 I7 P ⟨some e,.makeMap T none,ty,pos,af,gd⟩ st (.mb (500000+e)) (.box (500000+e) [.mc (K1 [])]):=fun st2 ha=>by
 intro B w0 g a w K Q hr hK
 have hin:e<st2.n:=F5 (ha.dst hd) e rfl
 have hlim:st2.n<=10000:=hr.lim
 have hi2:st2.bget (500000+e)=none:=ha.fresh rfl e rfl (500000+e) (Jv (by omega)) hi
 have hrep:=hr.newm e 0 hi2 hin #[] (K1 []) ⟨rfl,MapKept.stamped_empty 0,fun i e p he=>by simp at he⟩
 have hrun:(execOp a.eval ⟨some e,.makeMap T none,ty,pos,af,gd⟩).run P w=.ok (.value (.map (some w.heap.size))) (w.alloc (.map #[] 0)):=by
  simp[execOp,run_makeMap]
 unfold Oper.wp
 rw[hrun]
 exact hK _ _ _ (hrep.put (x:=.mb (500000+e)) ⟨w.heap.size,by simp[Gh.addb],rfl⟩ _ (F5 (st:=st2.bput (500000+e) _) (ha.dst hd)))
theorem yKm {e:Nat} (hi:st.bget (500000+e)=none)
 (h:YR P sq ops K rest ((st.bput (500000+e) [.mc (K1 [])]).put (some e) (.mb (500000+e)))) (zz:zk ops st ⟨some e,.makeMap T none,ty,pos,af,gd⟩ (.box (500000+e) [.mc (K1 [])])=true:=by kernel_rfl):
 YR P sq ops K (⟨some e,.makeMap T none,ty,pos,af,gd⟩::rest) st:=Bv (ls_mkm T hi (zd zz)) (zo zz) (zw zz) h
theorem Lj {B:Nat} {w0:Cx} {g:Gh} {a:Act} {w:World} (hr:Rep B w0 g st a w) (hge:500000<=i) (hi:st.bget i=some [.mc (K1 l)]):
 ∃ b es c,g.bl i=some b∧w.heap[b]? = some (.map es c)∧es.toList.length=l.length∧MapKept.Stamped es c∧(∀ (i:Nat) e p,es.toList[i]? = some e->l[i]? = some p->e.key=vS p.1) ∧ ∀ (i:Nat) e p,es.toList[i]? = some e->l[i]? = some p->DRep (Fx g) w e.val p.2:=by
 obtain⟨b,es,c,h1,h2,h3,h5,h4⟩:=hr.maps i _ hi hge
 have hp:∀ (i:Nat) p,l[i]? = some p->(K1 l)[i]? = some (vS p.1,p.2):=fun i p hp=>by rw[K1,B5,hp];rfl
 exact⟨b,es,c,h1,h2,by simpa[K1]using h3,h5,fun i e p he hl=>(h4 i e _ (by simpa using he) (hp i p hl)).1,fun i e p he hl=>(h4 i e _ (by simpa using he) (hp i p hl)).2⟩
theorem ls_mlk (T:TypeId) (x y:Operand) {k:List UInt8} {z:DV} [hM:MapOf P T z] (hge:500000<=i) (hx:st.ev x=.mb i) (hi:st.bget i=some [.mc (K1 l)]) (hy:st.ev y=.d (dS k)) (hd:G3 ⟨d,.lookup T x y false,ty,pos,af,gd⟩ st=true):
 I7 P ⟨d,.lookup T x y false,ty,pos,af,gd⟩ st (.d (EC z k l)) .no:=fun st2 ha=>
 OpS.value (ha.dst hd) fun _ _ g a w h=>by
  have h1:=h.eval x
  rw[ha.ev x (by simp[Op.operands]),hx]at h1
  have h2:=h.eval y
  rw[ha.ev y (by simp[Op.operands]),hy]at h2
  have hi2:st2.bget i=some [.mc (K1 l)]:=(ha.ids rfl x (by simp[Op.operands]) i (by rw[hx];simp[SV.ids])).trans hi
  obtain⟨b,q1,q2⟩:=h1
  obtain⟨b',es,c,r1,r2,r3,-,r4,r5⟩:=Lj h hge hi2
  rw[q1]at r1
  cases r1
  obtain⟨kt,et,m1,m2,m3⟩:=hM.und
  obtain⟨v,m4,m5⟩:=m3 w
  have hc:∀ e,(Instr.checkKey e 10000 kt (vS k)).run P w=.ok () w:=fun e=>MapKept.run_checkKey (k:=vS k) m2 (by simp[MapKept.IsKey]) e 9999
  rcases CN k l es.toList 0 r3 r4 with⟨j,e,d',f1,f2,f3,f4,-⟩|⟨f1,f2,-,-⟩
  . refine⟨e.val,w,?_,Below.refl _ _,?_⟩
    . simp[execOp,Instr.lookup,run_underlying m1,q2,DRep.val_eq h2,MapKept.run_getObj_map r2,hc,MapKept.run_findKey m2 f1,Result.andThen]
    . rw[f4];exact r5 j e _ f2 f3
  . refine⟨v,w,?_,Below.refl _ _,?_⟩
    . simp[execOp,Instr.lookup,run_underlying m1,q2,DRep.val_eq h2,MapKept.run_getObj_map r2,hc,MapKept.run_findKey m2 f1,m4,Result.andThen]
    . rw[f2];exact m5 _ _
theorem yKl {x y:Operand} {k:List UInt8} {z v:DV} [hM:MapOf P T z] (hx:st.ev x=.mb i) (hi:st.bget i=some [.mc (K1 l)]) (hy:st.ev y=.d (dS k)) (hv:EC z k l=v)
 (h:YR P sq ops K rest (st.put d (.d v))) (hge:Nat.ble 500000 i=true:=by rfl) (zz:zk ops st ⟨d,.lookup T x y false,ty,pos,af,gd⟩ .no=true:=by kernel_rfl):
 YR P sq ops K (⟨d,.lookup T x y false,ty,pos,af,gd⟩::rest) st:=I1 (hv ▸ ls_mlk T x y (B0 hge) hx hi hy (zd zz)) (zo zz) (zw zz) h
theorem FE (k:List UInt8) (w:World):(Instr.keyThatStays (vS k) (vS k)).run P w=.ok (vS k) w:=by
 have:Instr.sameBits 10000 (vS k) (vS k)=true:=by
  show((⟨k.toArray⟩:ByteArray)==⟨k.toArray⟩)=true
  exact(MapKept.bytes_beq _ _).2 O
 simp[Instr.keyThatStays,this]
theorem ls_mup (T:TypeId) (x y u:Operand) {k:List UInt8} {z v:DV} [hM:MapOf P T z] (hge:500000<=i) (hx:st.ev x=.mb i) (hi:st.bget i=some [.mc (K1 l)]) (hy:st.ev y=.d (dS k)) (hu:st.ev u=.d v) (hd:G3 ⟨d,.mapUpdate T x y u,ty,pos,af,gd⟩ st=true):
 I7 P ⟨d,.mapUpdate T x y u,ty,pos,af,gd⟩ st .any (.box i [.mc (K1 (AE k v l))]):=fun st2 ha=>by
 intro B w0 g a w K Q h hK
 have h1:=h.eval x
 rw[ha.ev x (by simp[Op.operands]),hx]at h1
 have h2:=h.eval y
 rw[ha.ev y (by simp[Op.operands]),hy]at h2
 have h3:=h.eval u
 rw[ha.ev u (by simp[Op.operands]),hu]at h3
 have hi2:st2.bget i=some [.mc (K1 l)]:=(ha.ids rfl x (by simp[Op.operands]) i (by rw[hx];simp[SV.ids])).trans hi
 obtain⟨b,q1,q2⟩:=h1
 obtain⟨b',es,c,r1,r2,r3,rs,r4,r5⟩:=Lj h hge hi2
 rw[q1]at r1
 cases r1
 obtain⟨kt,et,m1,m2,-⟩:=hM.und
 have hc:∀ e,(Instr.checkKey e 10000 kt (vS k)).run P w=.ok () w:=fun e=>MapKept.run_checkKey (k:=vS k) m2 (by simp[MapKept.IsKey]) e 9999
 have hblt:b<w.heap.size:=(D5.1 r2).1
 suffices hrun:∃ es' c',(execOp a.eval ⟨d,.mapUpdate T x y u,ty,pos,af,gd⟩).run P w=.ok .skip { w with heap:=w.heap.setIfInBounds b (.map es' c') }∧es'.toList.length=(AE k v l).length∧MapKept.Stamped es' c' ∧ ∀ (q:Nat) e p,es'.toList[q]? = some e->(AE k v l)[q]? = some p->e.key=vS p.1∧DRep (Fx g) w e.val p.2 by
  obtain⟨es',c',e1,e2,e4,e3⟩:=hrun
  have hs:=MapKept.heap_set (o':=.map es' c') r2
  have hrep:=h.seto i b [.mc (K1 (AE k v l))] (w':={ w with heap:=w.heap.setIfInBounds b (.map es' c') }) q1 ⟨rfl,rfl,rfl,by simp,fun q hq=>by omega⟩ (fun q _ hne=>hs.2 q hne) (by unfold World.shape?;simp only[hs.1,r2]) (fun _ hlt=>by omega) (fun e _ ms hms=>by
   obtain rfl:K1 (AE k v l)=ms:=by simpa using hms
   refine⟨es',c',hs.1,by simpa[K1]using e2,e4,fun q en p he hp=>?_⟩
   rw[K1,B5,B7]at hp
   obtain⟨p',hp1,rfl⟩:=hp
   have:=e3 q en p' (by simpa using he) hp1
   exact⟨this.1,this.2.mono e.fx⟩)
  unfold Oper.wp
  rw[e1]
  exact hK g _ _ (hrep.put (x:=.any) trivial _ (F5 (st:=st2.bput i _) (ha.dst hd)))
 rcases CN k l es.toList 0 r3 r4 with⟨j,e,d',f1,f2,f3,-,f5⟩|⟨f1,-,f3,f6⟩
 . have hek:e.key=vS k:=r4 j e _ f2 f3
   have hj:es[j]? = some e:=by simpa using f2
   refine⟨es.modify j fun e=>{ e with key:=vS k,val:=a.eval u },c,?_,?_,?_,?_⟩
   . simp[execOp,Instr.mapUpdate,run_underlying m1,q2,DRep.val_eq h2,MapKept.run_getObj_map r2,hc,MapKept.run_findKey m2 f1,hj,hek,FE,MapKept.run_setObj_map _ r2,Result.andThen]
   . rw[f5];simpa using r3
   . exact MapKept.stamped_modify rs j _ (fun _ _=>O) fun e' _ he'=>by
      rw[hj]at he'
      cases he'
      exact hek.symm
   . intro q en p he hp
     rw[f5]at hp
     rw[Array.toList_modify,List.getElem?_modify]at he
     by_cases hq:j=q
     . subst hq
       rw[f2]at he
       rw[List.getElem?_set_self (by rw[<-r3];exact(A6.1 f2).1)]at hp
       cases hp
       simp at he
       subst he
       exact⟨rfl,h3⟩
     . rw[List.getElem?_set_ne hq]at hp
       simp[hq]at he
       exact⟨r4 q en p (by simpa using he) hp,r5 q en p (by simpa using he) hp⟩
 . refine⟨es.push { key:=vS k,val:=a.eval u,born:=c },c+1,?_,?_,?_,?_⟩
   . simp[execOp,Instr.mapUpdate,run_underlying m1,q2,DRep.val_eq h2,MapKept.run_getObj_map r2,hc,MapKept.run_findKey m2 f1,MapKept.run_setObj_map _ r2,Result.andThen]
   . rw[f3];simpa using r3
   . exact MapKept.stamped_push rs fun x hx e=>by
      obtain⟨q,hq⟩:=List.mem_iff_getElem?.1 hx
      obtain⟨p,hp⟩:∃ p,l[q]? = some p:=⟨_,A4 (by rw[<-r3];exact(A6.1 hq).1)⟩
      have h5:=r4 q x p hq hp
      rw[e]at h5
      refine f6 p (B2 hp) ?_
      have:=H4 (fun v:Value=>match v with|.string s=>s.data.toList|_=>[]) h5
      simpa using this.symm
   . intro q en p he hp
     rw[f3]at hp
     rw[Array.toList_push]at he
     rcases G0 q l.length with hq|hq
     . rw[E4 hq]at hp
       rw[E4 (by omega)]at he
       exact⟨r4 q en p he hp,r5 q en p he hp⟩
     . rw[E6 hq]at hp
       rw[E6 (by omega),r3]at he
       obtain⟨hq0,-⟩:=A6.1 hp
       have hq1:q-l.length=0:=by simpa using hq0
       rw[hq1]at he hp
       cases he
       cases hp
       exact⟨rfl,h3⟩
theorem yKu {x y u:Operand} {l':List (List UInt8×DV)} {k:List UInt8} {z v:DV} [hM:MapOf P T z] (hx:st.ev x=.mb i) (hi:st.bget i=some [.mc (K1 l)]) (hy:st.ev y=.d (dS k)) (hu:st.ev u=.d v) (hl:AE k v l=l')
 (h:YR P sq ops K rest ((st.bput i [.mc (K1 l')]).put d .any)) (hge:Nat.ble 500000 i=true:=by rfl) (zz:zk ops st ⟨d,.mapUpdate T x y u,ty,pos,af,gd⟩ (.box i [.mc (K1 l')])=true:=by kernel_rfl):
 YR P sq ops K (⟨d,.mapUpdate T x y u,ty,pos,af,gd⟩::rest) st:=Bv (hl ▸ ls_mup T x y u (B0 hge) hx hi hy hu (zd zz)) (zo zz) (zw zz) h
end
end Go.Proofs.YtdkpmnefoobipaaGreatDoor.Px
namespace Go.Proofs.YtdkpmnefoobipaaGreatDoor
open Go.RowKit
variable {l:List Nat} {n x:Nat}
theorem Q9 (h:n≠0):Lib.decDigits n=AP n:=by
 induction n using Nat.strongRecOn with
 | _ n ih=>
  rw[Lib.decDigits,V0 h]
  by_cases h2:n<10
  . rw[dif_pos h2,show n / 10=0 by omega,K3,show n % 10=n by omega]
    rfl
  . rw[dif_neg h2,ih (n / 10) (by omega) (by omega)]
    rfl
theorem Hy {n:Int} (h:n≠0):Lib.itoa n=G8 n:=by
 unfold Lib.itoa G8
 by_cases h2:n<0
 . rw[C2 h2,C2 h2,Q9 (by omega)]
 . rw[B8 h2,B8 h2,Q9 (by omega),show n.toNat=n.natAbs by omega]
theorem Kz (n:Int):val (Lib.itoa n)=n:=by
 by_cases h:n=0
 . subst h
   have e:Lib.itoa 0=[48]:=by
    unfold Lib.itoa
    rw[B8 (by omega),Lib.decDigits,dif_pos (by decide)]
    rfl
   rw[e]
   decide
 . rw[Hy h,M7]
theorem S4 (n k:Nat) (h:n<10 ^ k) (hk:0<k):(Lib.decDigits n).length<=k:=by
 induction k generalizing n with
 | zero=>omega
 | succ k ih=>
  rw[Lib.decDigits]
  by_cases h2:n<10
  . rw[dif_pos h2];simp
  . rw[dif_neg h2]
    have h3:0<k:=by
     by_cases e:k=0
     . subst e;simp at h;omega
     . omega
    have:=ih (n / 10) (by rw[Nat.pow_succ]at h;omega) h3
    simp;omega
theorem MB {n:Int} (h0:-9223372036854775808<=n) (h1:n<=9223372036854775807):(Lib.itoa n).length<=21:=by
 unfold Lib.itoa
 split
 . have:=S4 n.natAbs 20 (by omega) (by omega)
   simp;omega
 . have:=S4 n.toNat 20 (by omega) (by omega)
   omega
def sg (b:Bool) (m:Nat):Int:=if b then -(m:Int)else m
def L5 (n:Nat):List Nat:=if h:n=0 then []else (n % 1000000000)::L5 (n / 1000000000)
termination_by n
decreasing_by exact Nat.div_lt_self (by omega) (by omega)
def J0:List Nat->Nat
 | []=>0
 | x::l=>x+1000000000*J0 l
def gok (l:List Nat):Prop:=∀ x∈l,x<1000000000
theorem Z5:L5 0=[]:=by rw[L5];simp
theorem DB (h:n≠0):L5 n=(n % 1000000000)::L5 (n / 1000000000):=by rw[L5];simp[h]
theorem O2 (n:Nat):J0 (L5 n)=n:=by
 induction n using Nat.strongRecOn with
 | _ n ih=>
  by_cases h:n=0
  . subst h;rw[Z5];rfl
  . rw[DB h,J0,ih (n / 1000000000) (Nat.div_lt_self (by omega) (by omega))]
    omega
theorem L0 (n:Nat):gok (L5 n):=by
 induction n using Nat.strongRecOn with
 | _ n ih=>
  by_cases h:n=0
  . subst h;rw[Z5];intro x hx;simp at hx
  . rw[DB h]
    intro x hx
    rcases List.mem_cons.1 hx with e|e
    . omega
    . exact ih (n / 1000000000) (Nat.div_lt_self (by omega) (by omega)) x e
theorem grp_nil:L5 n=[]↔n=0:=by
 constructor
 . intro h;have:=O2 n;rw[h]at this;exact this.symm
 . rintro rfl;exact Z5
theorem Bg:gok (x::l)↔x<1000000000∧gok l:=by simp[gok]
theorem Di {r:List Nat}:gok (l++r)↔gok l∧gok r:=by
 simp only[gok,List.mem_append]
 exact⟨fun h=>⟨fun x hx=>h x (.inl hx),fun x hx=>h x (.inr hx)⟩,fun h x hx=>hx.elim (h.1 x) (h.2 x)⟩
theorem Ah (l r:List Nat):J0 (l++r)=J0 l+1000000000 ^ l.length*J0 r:=by
 induction l with
 | nil=>simp[J0]
 | cons x l ih=>
  rw[List.cons_append,J0,ih,J0,List.length_cons,Nat.pow_succ,Nat.mul_add,<-Nat.mul_assoc,Nat.mul_comm (1000000000 ^ l.length) 1000000000]
  omega
theorem Ff (h:gok l):J0 l<1000000000 ^ l.length:=by
 induction l with
 | nil=>simp[J0]
 | cons x l ih=>
  obtain⟨h1,h2⟩:=Bg.1 h
  have:=ih h2
  rw[J0,List.length_cons,Nat.pow_succ]
  omega
def N4:List Nat->List Nat
 | []=>[]
 | x::l=>if N4 l=[]∧x=0 then []else x::N4 l
theorem CQ (l:List Nat):J0 (N4 l)=J0 l:=by
 induction l with
 | nil=>rfl
 | cons x l ih=>
  rw[N4]
  split
  . rename_i h
    rw[h.1]at ih
    rw[J0,J0,<-ih,h.2]
    simp[J0]
  . rw[J0,J0,ih]
theorem Gy (h:gok l):gok (N4 l):=by
 induction l with
 | nil=>exact h
 | cons x l ih=>
  obtain⟨h1,h2⟩:=Bg.1 h
  rw[N4]
  split
  . intro x hx;simp at hx
  . exact Bg.2 ⟨h1,ih h2⟩
theorem KR (l:List Nat):(N4 l).getLast? ≠ some 0:=by
 induction l with
 | nil=>simp[N4]
 | cons x l ih=>
  rw[N4]
  split
  . simp
  . rename_i h
    by_cases he:N4 l=[]
    . rw[he]
      simp
      intro e
      exact h ⟨he,e⟩
    . match hd:N4 l,he,ih with
      | y::r,_,ih=>simpa using ih
theorem KQ (l:List Nat) (x:Nat):N4 (l++[x])=if x=0 then N4 l else l++[x]:=by
 induction l with
 | nil=>simp[N4]
 | cons y l ih=>
  rw[List.cons_append,N4,ih]
  by_cases h:x=0
  . simp only[h,if_true]
    rw[N4]
  . simp only[h,if_false]
    rw[B8 (by simp)]
def Dz (t:F4):List Nat:=if h:t=[]then []else H0 (t.drop (t.length-9))::Dz (t.take (t.length-9))
termination_by t.length
decreasing_by
 rw[F3]
 have:0<t.length:=List.length_pos_iff.2 h
 omega
theorem Ct:Dz []=[]:=by rw[Dz];simp
theorem BQ {t:F4} (h:t≠[]):Dz t=H0 (t.drop (t.length-9))::Dz (t.take (t.length-9)):=by rw[Dz];simp[h]
theorem GS {t:F4} (h:t.all S7=true):H0 t<10 ^ t.length:=by
 induction t using DP with
 | h0=>simp[H0]
 | h1 l b ih=>
  rw[List.all_append,C6]at h
  have hb:=MP (b:=b) (by simpa using h.2)
  have:=ih h.1
  rw[Q5,D1,List.length_singleton,Nat.pow_succ]
  omega
theorem Jy {t:F4} (h:t.all S7=true) (h0:t.head? ≠ some 48) (hn:t≠[]):H0 t≠0:=fun e=>by
 have:=CP h h0
 rw[e,K3]at this
 exact hn this.symm
theorem rdG_grp {t:F4} (h:t.all S7=true) (h0:t.head? ≠ some 48):Dz t=L5 (H0 t):=by
 obtain⟨n,hn⟩:=H1 (t.length)
 induction n using Nat.strongRecOn generalizing t with
 | _ n ih=>
  by_cases he:t=[]
  . subst he;rw[Ct];exact Z5.symm
  . have hpos:0<t.length:=List.length_pos_iff.2 he
    have hne:=Jy h h0 he
    have hall:(t.take (t.length-9)).all S7=true∧(t.drop (t.length-9)).all S7=true:=by
     rw[<-C6,<-List.all_append,List.take_append_drop];exact h
    have hhead:(t.take (t.length-9)).head? ≠ some 48:=by
     match t,h0 with
     | x::l,h0=>
      cases hk:(x::l).length-9 with
      | zero=>simp
      | succ k=>simpa using h0
    have hsplit:=FT (t.take (t.length-9)) (t.drop (t.length-9))
    rw[List.take_append_drop]at hsplit
    have hdl:(t.drop (t.length-9)).length=min 9 t.length:=by rw[M9];omega
    have hlt:=GS hall.2
    rw[hdl]at hsplit hlt
    rw[BQ he,ih (t.take (t.length-9)).length (by rw[F3];omega) hall.1 hhead rfl,DB hne]
    by_cases h9:9<=t.length
    . rw[Nat.min_eq_left h9]at hsplit hlt
      have e1:H0 t % 1000000000=H0 (t.drop (t.length-9)):=by omega
      have e2:H0 t / 1000000000=H0 (t.take (t.length-9)):=by omega
      rw[e1,e2]
    . rw[Nat.min_eq_right (by omega)]at hsplit hlt
      have e0:t.length-9=0:=by omega
      have hle:10 ^ t.length<=10 ^ 9:=Nat.pow_le_pow_right (by omega) (by omega)
      simp only[e0,List.take_zero,List.drop_zero]at hsplit hlt ⊢
      have e3:H0 ([]:F4)=0:=rfl
      have e1:H0 t % 1000000000=H0 t:=Nat.mod_eq_of_lt (by omega)
      have e2:H0 t / 1000000000=0:=Nat.div_eq_of_lt (by omega)
      rw[e1,e2,e3]
def CF:Nat->Nat->F4
 | 0,_=>[]
 | k+1,b=>CF k (b / 10)++[dig (b % 10)]
theorem Ca (k b:Nat):(CF k b).length=k:=by
 induction k generalizing b with
 | zero=>rfl
 | succ k ih=>rw[CF,D1,ih];rfl
theorem KP {a:Nat} (ha:a≠0) (k b:Nat) (hb:b<10 ^ k):AP (a*10 ^ k+b)=AP a++CF k b:=by
 induction k generalizing b with
 | zero=>simp at hb;subst hb;simp[CF]
 | succ k ih=>
  rw[Nat.pow_succ]at hb
  have hp:0<10 ^ k:=Nat.pow_pos (by omega)
  have hap:0<a*10 ^ k:=Nat.mul_pos (by omega) hp
  have e0:a*10 ^ (k+1)=10*(a*10 ^ k):=by rw[Nat.pow_succ,<-Nat.mul_assoc];omega
  have e1:(10*(a*10 ^ k)+b) / 10=a*10 ^ k+b / 10:=by omega
  have e2:(10*(a*10 ^ k)+b) % 10=b % 10:=by omega
  rw[e0,V0 (by omega),e1,e2,ih (b / 10) (by omega),CF,E8]
def fmt (n:Nat):F4:=if n=0 then [48]else AP n
theorem Fi {k:Nat} (h:n<10 ^ k) (hk:0<k):List.replicate (k-(fmt n).length) 48++fmt n=CF k n:=by
 have key:∀ (k n:Nat),n<10 ^ k->(AP n).length<=k∧List.replicate (k-(AP n).length) 48++AP n=CF k n:=by
  intro k
  induction k with
  | zero=>intro n h;simp at h;subst h;simp[K3,CF]
  | succ k ih=>
   intro n h
   rw[Nat.pow_succ]at h
   obtain⟨h1,h2⟩:=ih (n / 10) (by omega)
   by_cases hn:n=0
   . subst hn
     rw[K3]at h2 ⊢
     simp only[List.length_nil,Nat.sub_zero,List.append_nil]at h2 ⊢
     refine⟨by omega,?_⟩
     rw[CF,<-h2,show(0:Nat) % 10=0 from rfl,List.replicate_succ']
     rfl
   . rw[V0 hn,CF,D1,List.length_singleton]
     refine⟨by omega,?_⟩
     rw[<-h2,show k+1-((AP (n / 10)).length+1)=k-(AP (n / 10)).length by omega,E8]
 by_cases hn:n=0
 . subst hn
   have:=(key k 0 h).2
   rw[K3]at this
   simp only[List.length_nil,Nat.sub_zero,List.append_nil]at this
   rw[fmt,C2 rfl,<-this]
   obtain⟨j,rfl⟩:∃ j,k=j+1:=⟨k-1,by omega⟩
   rw[List.replicate_succ']
   simp
 . rw[fmt,B8 hn];exact(key k n h).2
theorem Fj {k:Nat} (h:n<10 ^ k) (hk:0<k):(fmt n).length<=k:=by
 have:=H4 List.length (Fi h hk)
 rw[D1,List.length_replicate,Ca]at this
 omega
def R6:List Nat->F4
 | []=>[]
 | x::l=>R6 l++CF 9 x
theorem CZ (l:List Nat):(R6 l).length=9*l.length:=by
 induction l with
 | nil=>rfl
 | cons x l ih=>rw[R6,D1,ih,Ca,List.length_cons];omega
theorem IG (h:gok l) (hx:x≠0):AP (J0 (l++[x]))=AP x++R6 l:=by
 induction l with
 | nil=>simp[J0,R6]
 | cons y l ih=>
  obtain⟨h1,h2⟩:=Bg.1 h
  have hne:J0 (l++[x])≠0:=by
   rw[Ah]
   have:0<1000000000 ^ l.length:=Nat.pow_pos (by omega)
   simp only[J0,Nat.mul_zero,Nat.add_zero]
   have:0<1000000000 ^ l.length*x:=Nat.mul_pos this (by omega)
   omega
  rw[List.cons_append,J0,Nat.add_comm,Nat.mul_comm,show(1000000000:Nat)=10 ^ 9 from rfl,KP hne 9 y h1,ih h2,R6,E8]
open Go.RowKit Px
variable {P:List (Option Nat)} {T:List Bool} {i B:Nat}
def G9 (k:F4):List (F4×F4)->F4
 | []=>[]
 | (k',v)::l=>if k'=k then v else G9 k l
def O6 (k v:F4):List (F4×F4)->List (F4×F4)
 | []=>[(k,v)]
 | (k',v')::l=>if k'=k then (k,v)::l else (k',v')::O6 k v l
def L3 (l:List (F4×F4)):List (F4×DV):=l.map fun p=>(p.1,dS p.2)
theorem CI (k:F4) (l:List (F4×F4)):EC (dS []) k (L3 l)=dS (G9 k l):=by
 induction l with
 | nil=>rfl
 | cons p l ih=>
  show(if p.1=k then dS p.2 else EC (dS []) k (L3 l))=dS (if p.1=k then p.2 else G9 k l)
  split
  . rfl
  . exact ih
theorem Da (k v:F4) (l:List (F4×F4)):AE k (dS v) (L3 l)=L3 (O6 k v l):=by
 induction l with
 | nil=>rfl
 | cons p l ih=>
  show(if p.1=k then (k,dS v)::L3 l else (p.1,dS p.2)::AE k (dS v) (L3 l))=L3 (if p.1=k then (k,v)::l else (p.1,p.2)::O6 k v l)
  split
  . rfl
  . rw[ih];rfl
theorem K2 (k v j:F4) (l:List (F4×F4)):G9 j (O6 k v l)=if j=k then v else G9 j l:=by
 induction l with
 | nil=>
  show(if k=j then v else [])=if j=k then v else []
  by_cases h:j=k
  . rw[C2 h,C2 h.symm]
  . rw[B8 h,B8 (fun e=>h e.symm)]
 | cons p l ih=>
  show G9 j (if p.1=k then (k,v)::l else (p.1,p.2)::O6 k v l)=if j=k then v else (if p.1=j then p.2 else G9 j l)
  by_cases hp:p.1=k
  . rw[C2 hp]
    show(if k=j then v else G9 j l)=_
    by_cases h:j=k
    . rw[C2 h,C2 h.symm]
    . rw[B8 h,B8 (fun e=>h e.symm),B8 (fun e=>h (e.symm.trans hp))]
  . rw[B8 hp]
    show(if p.1=j then p.2 else G9 j (O6 k v l))=_
    by_cases hj:p.1=j
    . rw[C2 hj,C2 hj,B8 (fun e=>hp (hj.trans e))]
    . rw[B8 hj,B8 hj,ih]
abbrev Z7 (a b:F4):F4:=G8 (val a+val b)
abbrev BN (a b:F4):F4:=G8 (val a-val b)
def AJ (ms ts:List Mv) (pl:List (Option Nat)):Nat->List (F4×F4)
 | 0=>[]
 | i+1=>match ms[i]? with
  | none=>AJ ms ts pl i
  | some m=>match (pl[i]?.getD none).bind fun k=>ts[k]? with
   | none=>O6 m.2.2.1 (Z7 (G9 m.2.2.1 (AJ ms ts pl i)) m.2.2.2.1) (AJ ms ts pl i)
   | some y=>O6 m.2.2.1 (BN (G9 m.2.2.1 (O6 m.2.2.1 (Z7 (G9 m.2.2.1 (AJ ms ts pl i)) m.2.2.2.1) (AJ ms ts pl i))) y.2.2.2.1) (O6 m.2.2.1 (Z7 (G9 m.2.2.1 (AJ ms ts pl i)) m.2.2.2.1) (AJ ms ts pl i))
def Bu (ts:List Mv) (tk:List Bool) (M:List (F4×F4)):Nat->List (F4×F4)
 | 0=>M
 | k+1=>match ts[k]? with
  | none=>Bu ts tk M k
  | some y=>if P6 tk k then Bu ts tk M k else O6 y.2.2.1 (BN (G9 y.2.2.1 (Bu ts tk M k)) y.2.2.2.1) (Bu ts tk M k)
def Gq (l:List Bk) (M:List (F4×F4)):Nat->List F4
 | 0=>[]
 | i+1=>match l[i]? with
  | none=>Gq l M i
  | some b=>if BN b.2.2.1 b.2.2.2=G9 b.2.1 M then Gq l M i++[b.2.1]else Gq l M i
theorem exN_len (l:List Bk) (M:List (F4×F4)) (i:Nat):(Gq l M i).length<=i:=by
 induction i with
 | zero=>exact D6 _
 | succ i ih=>
  rw[Gq]
  split
  . omega
  . split
    . rw[D1];simp;omega
    . omega
theorem dec_le {n k:Nat} (h:n<10 ^ k):(AP n).length<=k:=by
 by_cases h0:n=0
 . rw[h0,K3];simp
 . rw[<-Q9 h0]
   refine S4 n k h ?_
   rcases F7 k with rfl|hk
   . simp at h;omega
   . exact hk
theorem HA {z:Int} {k:Nat} (h:z.natAbs<10 ^ k):(G8 z).length<=k+1:=by
 have:=dec_le h
 unfold G8
 split<;>simp<;>omega
theorem Ex {a:F4} {k:Nat} (h:a.length<=k):(val a).natAbs<10 ^ k:=by
 rw[<-EU]
 have h1:=GS (Bn a)
 have hb:(AM a).length<=a.length:=by unfold AM;split<;>simp
 have h2:(K4 a).1.length<=a.length:=by
  unfold K4
  split
  . exact E3 (List.dropWhile_suffix _).length_le hb
  . simp
 exact G2 h1 (Nat.pow_le_pow_right (by decide) (E3 h2 h))
theorem Bs {a b:F4} {k:Nat} (ha:a.length<=k) (hb:b.length<=k):(Z7 a b).length<=k+2:=by
 have h1:=Ex ha
 have h2:=Ex hb
 refine HA (k:=k+1) ?_
 rw[Nat.pow_succ]
 omega
theorem GF {a b:F4} {k:Nat} (ha:a.length<=k) (hb:b.length<=k):(BN a b).length<=k+2:=by
 have h1:=Ex ha
 have h2:=Ex hb
 refine HA (k:=k+1) ?_
 rw[Nat.pow_succ]
 omega
theorem O3 {k v:F4} {l:List (F4×F4)} {n:Nat} (hv:v.length<=n) (hl:∀ j,(G9 j l).length<=n) (j:F4):(G9 j (O6 k v l)).length<=n:=by
 rw[K2]
 split
 . exact hv
 . exact hl j
theorem ex1_len {ms ts:List Mv} {pl:List (Option Nat)} (hm:∀ m∈ms,m.2.2.2.1.length<=B) (ht:∀ m∈ts,m.2.2.2.1.length<=B) (i:Nat) (j:F4):(G9 j (AJ ms ts pl i)).length<=B+4*i:=by
 induction i generalizing j with
 | zero=>simp[AJ,G9]
 | succ i ih=>
  rw[AJ]
  split
  . have:=ih j;omega
  . rename_i m hm1
    have q1:=hm m (B2 hm1)
    have a1:(Z7 (G9 m.2.2.1 (AJ ms ts pl i)) m.2.2.2.1).length<=B+4*i+2:=Bs (ih _) (by omega)
    have a2:∀ j,(G9 j (O6 m.2.2.1 (Z7 (G9 m.2.2.1 (AJ ms ts pl i)) m.2.2.2.1) (AJ ms ts pl i))).length<=B+4*i+2:=O3 a1 fun j=>by have:=ih j;omega
    split
    . have:=a2 j;omega
    . rename_i y hy
      have hy2:y∈ts:=by
       cases ho:pl[i]?.getD none with
       | none=>rw[ho]at hy;cases hy
       | some k=>rw[ho]at hy;exact B2 hy
      have q2:=ht y hy2
      refine O3 (GF (k:=B+4*i+2) (a2 _) (by omega)) (fun j=>?_) j
      have:=a2 j;omega
theorem ex2_len {ts:List Mv} {tk:List Bool} {M:List (F4×F4)} (ht:∀ m∈ts,m.2.2.2.1.length<=B) (hM:∀ j,(G9 j M).length<=B) (i:Nat) (j:F4):(G9 j (Bu ts tk M i)).length<=B+2*i:=by
 induction i generalizing j with
 | zero=>exact hM j
 | succ i ih=>
  rw[Bu]
  split
  . have:=ih j;omega
  . rename_i y hy
    have q1:=ht y (B2 hy)
    split
    . have:=ih j;omega
    . refine O3 (GF (k:=B+2*i) (ih _) (by omega)) (fun j=>?_) j
      have:=ih j;omega
theorem Gm {ms ts:List Mv} {m:Mv} {n:F4} (hm:ms[i]? = some m) (h:m.2.2.1≠n):G9 n (AJ ms ts P (i+1))=G9 n (AJ ms ts P i):=by
 have h':¬ n=m.2.2.1:=fun e=>h e.symm
 rw[AJ,hm]
 simp only
 split
 . rw[K2,B8 h']
 . rw[K2,B8 h',K2,B8 h']
theorem g1_none {ms ts:List Mv} {m:Mv} (hm:ms[i]? = some m) (ho:P[i]?.getD none=none):G9 m.2.2.1 (AJ ms ts P (i+1))=Z7 (G9 m.2.2.1 (AJ ms ts P i)) m.2.2.2.1:=by
 rw[AJ,hm,ho]
 simp only[Option.bind_none]
 rw[K2,C2 rfl]
theorem g1_some {ms ts:List Mv} {k:Nat} {m y:Mv} (hm:ms[i]? = some m) (ho:P[i]?.getD none=some k) (hy:ts[k]? = some y):G9 m.2.2.1 (AJ ms ts P (i+1))=BN (Z7 (G9 m.2.2.1 (AJ ms ts P i)) m.2.2.2.1) y.2.2.2.1:=by
 rw[AJ,hm,ho,Option.bind_some,hy]
 simp only
 rw[K2,C2 rfl,K2,C2 rfl]
theorem Gl {ts:List Mv} {M:List (F4×F4)} {k:Nat} {y:Mv} {n:F4} (hy:ts[k]? = some y) (h:y.2.2.1≠n∨P6 T k=true):G9 n (Bu ts T M (k+1))=G9 n (Bu ts T M k):=by
 rw[Bu,hy]
 simp only
 rcases h with h|h
 . split
   . rfl
   . rw[K2,B8 fun e=>h e.symm]
 . rw[C2 h]
theorem g2_some {ts:List Mv} {M:List (F4×F4)} {k:Nat} {y:Mv} (hy:ts[k]? = some y) (h:P6 T k=false):G9 y.2.2.1 (Bu ts T M (k+1))=BN (G9 y.2.2.1 (Bu ts T M k)) y.2.2.2.1:=by
 rw[Bu,hy]
 simp only
 rw[B8 (by rw[h];decide),K2,C2 rfl]
theorem Ew:val []=0:=by
 have:=M7 0
 rwa [BI]at this
def qS (n:F4):List Mv->Int
 | []=>0
 | m::l=>(if m.2.2.1=n then val m.2.2.2.1 else 0)+qS n l
def qK (n:F4) (ts:List Mv):List Nat->Int
 | []=>0
 | k::l=>(match ts[k]? with|none=>0|some y=>if y.2.2.1=n then val y.2.2.2.1 else 0)+qK n ts l
theorem DU (n:F4) (ts:List Mv) (a b:List Nat):qK n ts (a++b)=qK n ts a+qK n ts b:=by
 induction a with
 | nil=>simp[qK]
 | cons m a ih=>simp only[List.cons_append,qK,ih];omega
theorem qK_perm {n:F4} {ts:List Mv} {a b:List Nat} (h:a.Perm b):qK n ts a=qK n ts b:=by
 induction h with
 | nil=>rfl
 | cons x _ ih=>simp only[qK,ih]
 | swap x y l=>simp only[qK];omega
 | trans _ _ h1 h2=>exact h1.trans h2
theorem qS_take (n:F4) (ts:List Mv) (i:Nat) (h:i<=ts.length):qS n (ts.take i)=qK n ts (List.range i):=by
 induction i with
 | zero=>rfl
 | succ i ih=>
  rw[List.range_succ,DU,<-ih (by omega),G7,A4 (by omega)]
  have:∀ a:List Mv,∀ x,qS n (a++[x])=qS n a+(if x.2.2.1=n then val x.2.2.2.1 else 0):=fun a x=>by
   induction a with
   | nil=>simp[qS]
   | cons m a ih=>simp only[List.cons_append,qS,ih];omega
  rw[Option.toList_some,this]
  simp only[qK,A4 (show i<ts.length by omega)]
  omega
theorem LV (n:F4) (ts:List Mv):qS n ts=qK n ts (List.range ts.length):=by
 have:=qS_take n ts ts.length (D6 _)
 rwa [I4]at this
def pk (P:List (Option Nat)) (i:Nat):List Nat:=(List.range i).filterMap fun j=>P[j]?.getD none
theorem pk_succ (P:List (Option Nat)) (i:Nat):pk P (i+1)=pk P i++(P[i]?.getD none).toList:=by
 unfold pk
 rw[List.range_succ,List.filterMap_append]
 cases h:P[i]?.getD none<;>simp[h]
theorem ex1_sum {ms ts:List Mv} (hP:∀ (i k:Nat),P[i]?.getD none=some k->∃ x y,ms[i]? = some x∧ts[k]? = some y∧x.2.2.1=y.2.2.1) (n:F4) (i:Nat) (hi:i<=ms.length):val (G9 n (AJ ms ts P i))=qK n ms (List.range i)-qK n ts (pk P i):=by
 induction i with
 | zero=>simp[AJ,G9,qK,pk,Ew]
 | succ i ih=>
  have ih:=ih (by omega)
  obtain⟨m,hm⟩:∃ m,ms[i]? = some m:=⟨_,A4 (by omega)⟩
  rw[List.range_succ,DU,pk_succ,DU]
  have e1:qK n ms [i]=if m.2.2.1=n then val m.2.2.2.1 else 0:=by simp[qK,hm]
  rw[e1]
  cases ho:P[i]?.getD none with
  | none=>
   simp only[Option.toList_none,qK]
   by_cases hn:m.2.2.1=n
   . subst hn
     rw[g1_none hm ho,C2 rfl,M7,ih];omega
   . rw[Gm hm hn,B8 hn,ih];omega
  | some k=>
   obtain⟨x,y,hx,hy,hxy⟩:=hP i k ho
   rw[hm]at hx;cases hx
   have e2:qK n ts [k]=if y.2.2.1=n then val y.2.2.2.1 else 0:=by simp[qK,hy]
   rw[Option.toList_some,e2]
   by_cases hn:m.2.2.1=n
   . subst hn
     rw[g1_some hm ho hy,C2 rfl,C2 hxy.symm,M7,M7,ih];omega
   . rw[Gm hm hn,B8 hn,B8 (by rw[<-hxy];exact hn),ih];omega
theorem ex2_sum {ts:List Mv} {M:List (F4×F4)} (n:F4) (k:Nat) (hk:k<=ts.length):val (G9 n (Bu ts T M k))=val (G9 n M)-qK n ts ((List.range k).filter fun j=>!P6 T j):=by
 induction k with
 | zero=>simp[Bu,qK]
 | succ k ih=>
  have ih:=ih (by omega)
  obtain⟨y,hy⟩:∃ y,ts[k]? = some y:=⟨_,A4 (by omega)⟩
  rw[List.range_succ,List.filter_append,DU]
  cases ht:P6 T k with
  | true=>
   rw[Gl hy (.inr ht),ih]
   simp[ht,qK]
  | false=>
   have e2:qK n ts ([k].filter fun j=>!P6 T j)=if y.2.2.1=n then val y.2.2.2.1 else 0:=by simp[ht,qK,hy]
   rw[e2]
   by_cases hn:y.2.2.1=n
   . subst hn
     rw[g2_some hy ht,C2 rfl,M7,ih];omega
   . rw[Gl hy (.inl hn),B8 hn,ih];omega
theorem Ip {f:Mv->List Bool->Option Nat} {ms:List Mv} {s0:PT} (hs:s0.1.length=ms.length) (h0:∀ k,P6 s0.2 k=true->∃ i:Nat,s0.1[i]?.getD none=some k) (n:Nat):∀ k,P6 (S5 f ms s0 n).2 k=true->∃ i:Nat,(S5 f ms s0 n).1[i]?.getD none=some k:=by
 induction n with
 | zero=>exact h0
 | succ n ih=>
  intro k hk
  cases hm:ms[n]? with
  | none=>rw[FH hm]at hk ⊢;exact ih k hk
  | some m=>
   rcases DS (f:=f) (s0:=s0) hm with⟨h1,-⟩|⟨hn,c,h2,h1⟩
   . rw[h1]at hk ⊢;exact ih k hk
   . rw[h1]at hk ⊢
     have hl:=(BP f ms s0 n).1
     have hlt:n<(S5 f ms s0 n).1.length:=by rw[hl,hs];exact(A6.1 hm).1
     rcases Ez.1 hk with h3|⟨h3,-⟩
     . obtain⟨i,hi⟩:=ih k h3
       refine⟨i,?_⟩
       have hne:n≠i:=fun e=>by rw[<-e,hn]at hi;cases hi
       simp only
       rw[List.getElem?_set_ne hne];exact hi
     . refine⟨n,?_⟩
       simp only
       rw[List.getElem?_set_self hlt,h3];rfl
theorem pt2_tkn (days:Int) (ms ts:List Mv):∀ k,P6 (AR days ms ts).2 k=true->∃ i:Nat,(AR days ms ts).1[i]?.getD none=some k:=by
 refine Ip (BT ms ts).1 (Ip (by simp[Hn]) (fun k hk=>?_) ms.length) ms.length
 unfold Hn P6 at hk
 simp only[List.getElem?_replicate]at hk
 split at hk<;>cases hk
theorem pk_all (days:Int) (ms ts:List Mv):(pk (AR days ms ts).1 ms.length++(List.range ts.length).filter fun j=>!P6 (AR days ms ts).2 j).Perm (List.range ts.length):=by
 have hg:=LZ days ms ts
 refine(List.perm_ext_iff_of_nodup (List.nodup_append.2 ⟨?_,List.nodup_range.filter _,fun a ha b hb e=>?_⟩) List.nodup_range).2 fun k=>?_
 . unfold pk
   refine List.Pairwise.filterMap _ (R:=fun a b=>a≠b) (fun i j hij k hk l hl e=>?_) List.nodup_range
   subst e
   exact hij (hg.inj i j k hk hl)
 . subst e
   obtain⟨i,-,hi⟩:=List.mem_filterMap.1 ha
   have h1:=hg.tk i a hi
   have h2:=(List.mem_filter.1 hb).2
   rw[h1]at h2
   cases h2
 . rw[List.mem_append,List.mem_filter,List.mem_range]
   constructor
   . rintro(h|h)
     . obtain⟨i,-,hi⟩:=List.mem_filterMap.1 h
       obtain⟨x,y,-,hy,-⟩:=FK days ms ts hi
       exact(A6.1 hy).1
     . exact h.1
   . intro h
     cases ht:P6 (AR days ms ts).2 k with
     | false=>exact .inr ⟨h,by rfl⟩
     | true=>
      obtain⟨i,hi⟩:=pt2_tkn days ms ts k ht
      obtain⟨x,y,hx,-⟩:=FK days ms ts hi
      exact .inl (List.mem_filterMap.2 ⟨i,List.mem_range.2 (A6.1 hx).1,hi⟩)
theorem ex_sum (days:Int) (ms ts:List Mv) (n:F4):val (G9 n (Bu ts (AR days ms ts).2 (AJ ms ts (AR days ms ts).1 ms.length) ts.length))=qS n ms-qS n ts:=by
 rw[ex2_sum n _ (D6 _),ex1_sum (fun i k h=>by
  obtain⟨x,y,h1,h2,h3⟩:=FK days ms ts h
  exact⟨x,y,h1,h2,h3.1⟩) n _ (D6 _),LV n ms,LV n ts,<-qK_perm (pk_all days ms ts),DU]
 omega
theorem ex1_can {ms ts:List Mv} (i:Nat) (n:F4):G9 n (AJ ms ts P i)=G8 (val (G9 n (AJ ms ts P i))):=by
 have h0:∀ z,G8 z=G8 (val (G8 z)):=fun z=>by rw[M7]
 induction i with
 | zero=>show([]:F4)=G8 (val []);rw[Ew,BI]
 | succ i ih=>
  rw[AJ]
  split
  . exact ih
  . split
    . rw[K2];split
      . exact h0 _
      . exact ih
    . rw[K2];split
      . exact h0 _
      . rw[K2];split
        . exact h0 _
        . exact ih
theorem ex2_can {ts:List Mv} {M:List (F4×F4)} {n:F4} (hM:G9 n M=G8 (val (G9 n M))) (k:Nat):G9 n (Bu ts T M k)=G8 (val (G9 n (Bu ts T M k))):=by
 have h0:∀ z,G8 z=G8 (val (G8 z)):=fun z=>by rw[M7]
 induction k with
 | zero=>exact hM
 | succ k ih=>
  rw[Bu]
  split
  . exact ih
  . split
    . exact ih
    . rw[K2];split
      . exact h0 _
      . exact ih
theorem ex_get (days:Int) (ms ts:List Mv) (n:F4):G9 n (Bu ts (AR days ms ts).2 (AJ ms ts (AR days ms ts).1 ms.length) ts.length)=G8 (qS n ms-qS n ts):=by
 rw[<-ex_sum days ms ts n]
 exact ex2_can (ex1_can _ _) _
def hv (n:F4) (hs:List Hd):Int:=val ((hld n hs).getD [])
theorem hbr_dif {n:F4} {h1 h2:List Hd} {b:Bk} (hb:b∈JO n (hld n h1) (hld n h2)):b.2.1=n∧BN b.2.2.1 b.2.2.2=G8 (hv n h1-hv n h2):=by
 unfold JO at hb
 unfold hv
 split at hb
 . rename_i e
   have:b=(1,n,(hld n h1).getD [],[]):=by simpa using hb
   subst this
   rw[e];exact⟨rfl,O⟩
 . rename_i r e
   split at hb
   . rename_i e2
     have:b=(2,n,[],r):=by simpa using hb
     subst this
     rw[e,e2];exact⟨rfl,O⟩
   . rename_i q e2
     split at hb
     . simp at hb
     . have:b=(3,n,q,r):=by simpa using hb
       subst this
       rw[e,e2];exact⟨rfl,O⟩
theorem exN_all {l:List Bk} {M:List (F4×F4)} (h:∀ b∈l,BN b.2.2.1 b.2.2.2=G9 b.2.1 M) (i:Nat) (hi:i<=l.length):Gq l M i=(l.take i).map (·.2.1):=by
 induction i with
 | zero=>rfl
 | succ i ih=>
  rw[Gq,A4 (show i<l.length by omega)]
  simp only
  rw[C2 (h _ (List.getElem_mem _)),ih (by omega),G7,A4 (by omega),Option.toList_some,List.map_append]
  rfl
theorem ex_law {days:Int} {ms ts:List Mv} {h1 h2:List Hd} {base:F4->Int} (ha:∀ n,hv n h1=base n+qS n ms) (hb:∀ n,hv n h2=base n+qS n ts):
 Gq (Dh h1 h2) (Bu ts (AR days ms ts).2 (AJ ms ts (AR days ms ts).1 ms.length) ts.length) (Dh h1 h2).length=(Dh h1 h2).map (·.2.1):=by
 rw[exN_all (fun b hm=>?_) _ (D6 _),I4]
 rw[MK]at hm
 obtain⟨n,-,hm⟩:=List.mem_flatMap.1 hm
 obtain⟨e1,e2⟩:=hbr_dif hm
 rw[e2,e1,ex_get,ha,hb]
 congr 1
 omega
def AV (base:List Hd):Nat->List (F4×F4)
 | 0=>[]
 | i+1=>match base[i]? with
  | none=>AV base i
  | some h=>O6 h.1 (Z7 (G9 h.1 (AV base i)) h.2) (AV base i)
def hd2 (ms:List Mv) (M:List (F4×F4)):Nat->List (F4×F4)
 | 0=>M
 | i+1=>match ms[i]? with
  | none=>hd2 ms M i
  | some m=>O6 m.2.2.1 (Z7 (G9 m.2.2.1 (hd2 ms M i)) m.2.2.2.1) (hd2 ms M i)
def Fs (base:List Hd) (ms:List Mv):List (F4×F4):=hd2 ms (AV base base.length) ms.length
def bS (n:F4):List Hd->Int
 | []=>0
 | h::l=>(if h.1=n then val h.2 else 0)+bS n l
theorem bS_snoc (n:F4) (a:List Hd) (h:Hd):bS n (a++[h])=bS n a+if h.1=n then val h.2 else 0:=by
 induction a with
 | nil=>simp[bS]
 | cons x a ih=>simp only[List.cons_append,bS,ih];omega
theorem qS_snoc (n:F4) (a:List Mv) (m:Mv):qS n (a++[m])=qS n a+if m.2.2.1=n then val m.2.2.2.1 else 0:=by
 induction a with
 | nil=>simp[qS]
 | cons x a ih=>simp only[List.cons_append,qS,ih];omega
theorem hd1_sum (base:List Hd) (n:F4) (i:Nat):val (G9 n (AV base i))=bS n (base.take i):=by
 induction i with
 | zero=>simp[AV,G9,bS,Ew]
 | succ i ih=>
  rw[AV,G7]
  cases hb:base[i]? with
  | none=>simpa using ih
  | some h=>
   simp only[Option.toList_some]
   rw[K2,bS_snoc]
   by_cases e:n=h.1
   . rw[C2 e,C2 e.symm,M7,<-e,ih]
   . rw[B8 e,B8 (Ne.symm e),ih];omega
theorem hd2_sum (ms:List Mv) (M:List (F4×F4)) (n:F4) (i:Nat):val (G9 n (hd2 ms M i))=val (G9 n M)+qS n (ms.take i):=by
 induction i with
 | zero=>simp[hd2,qS]
 | succ i ih=>
  rw[hd2,G7]
  cases hb:ms[i]? with
  | none=>simpa using ih
  | some m=>
   simp only[Option.toList_some]
   rw[K2,qS_snoc]
   by_cases e:n=m.2.2.1
   . rw[C2 e,C2 e.symm,M7,<-e,ih];omega
   . rw[B8 e,B8 (Ne.symm e),ih];omega
theorem hdM_sum (base:List Hd) (ms:List Mv) (n:F4):val (G9 n (Fs base ms))=bS n base+qS n ms:=by
 rw[Fs,hd2_sum,hd1_sum,I4,I4]
theorem CD (k v:F4) (M:List (F4×F4)):(O6 k v M).map (·.1)=if k∈M.map (·.1)then M.map (·.1)else M.map (·.1)++[k]:=by
 induction M with
 | nil=>rfl
 | cons p M ih=>
  show((if p.1=k then (k,v)::M else (p.1,p.2)::O6 k v M).map (·.1))=_
  by_cases h:p.1=k
  . rw[C2 h,C2 (by simp[h])];simp[h]
  . rw[B8 h]
    simp only[List.map_cons,ih]
    by_cases h2:k∈M.map (·.1)
    . rw[C2 h2,C2 (by rw[List.mem_cons];exact .inr h2)]
    . rw[B8 h2,B8 (by rw[List.mem_cons];rintro(e|e);exact h e.symm;exact h2 e)];rfl
theorem DQ {k v:F4} {M:List (F4×F4)} (h:(M.map (·.1)).Nodup):((O6 k v M).map (·.1)).Nodup:=by
 rw[CD]
 split
 . exact h
 . rename_i h2
   refine List.nodup_append.2 ⟨h,by simp,fun a ha b hb e=>?_⟩
   have:b=k:=by simpa using hb
   exact h2 (this ▸ e ▸ ha)
theorem EV (base:List Hd) (ms:List Mv):((Fs base ms).map (·.1)).Nodup:=by
 have h1:∀ i,((AV base i).map (·.1)).Nodup:=fun i=>by
  induction i with
  | zero=>simp[AV]
  | succ i ih=>rw[AV];split;exact ih;exact DQ ih
 have h2:∀ i,((hd2 ms (AV base base.length) i).map (·.1)).Nodup:=fun i=>by
  induction i with
  | zero=>exact h1 _
  | succ i ih=>rw[hd2];split;exact ih;exact DQ ih
 exact h2 _
theorem JP {M:List (F4×F4)} (h:(M.map (·.1)).Nodup) {p:F4×F4} (hp:p∈M):G9 p.1 M=p.2:=by
 induction M with
 | nil=>simp at hp
 | cons q M ih=>
  rw[List.map_cons,List.nodup_cons]at h
  show(if q.1=p.1 then q.2 else G9 p.1 M)=p.2
  rcases List.mem_cons.1 hp with rfl|hp
  . rw[C2 rfl]
  . rw[B8 fun e:q.1=p.1=>h.1 (by rw[e];exact H5.2 ⟨p,hp,O⟩)]
    exact ih h.2 hp
theorem ML {k:F4} {M:List (F4×F4)} (h:k ∉ M.map (·.1)):G9 k M=[]:=by
 induction M with
 | nil=>rfl
 | cons q M ih=>
  rw[List.map_cons,List.mem_cons,not_or]at h
  show(if q.1=k then q.2 else G9 k M)=[]
  rw[B8 fun e=>h.1 e.symm]
  exact ih h.2
def kpH (M:List (F4×F4)) (k:F4):Option Hd:=if G9 k M=[]then none else some (k,G9 k M)
def Cp (base:List Hd) (ms:List Mv):List Hd:=(Dw ((Fs base ms).map (·.1))).filterMap (kpH (Fs base ms))
theorem hld_fm (M:List (F4×F4)) (n:F4) (ks:List F4):hld n (ks.filterMap (kpH M))=if n∈ks∧G9 n M≠[]then some (G9 n M)else none:=by
 induction ks with
 | nil=>simp[hld]
 | cons k ks ih=>
  rw[List.filterMap_cons]
  unfold kpH
  by_cases h:G9 k M=[]
  . rw[C2 h]
    simp only
    rw[show(fun k=>if G9 k M=[]then none else some (k,G9 k M))=kpH M from rfl,ih]
    by_cases e:n=k
    . subst e;simp[h]
    . simp[e]
  . rw[B8 h]
    simp only
    rw[show(fun k=>if G9 k M=[]then none else some (k,G9 k M))=kpH M from rfl,hld,ih]
    by_cases e:n=k
    . subst e;simp[h]
    . rw[B8 (by simpa using Ne.symm e)];simp[e]
theorem MJ (base:List Hd) (ms:List Mv) (n:F4):hv n (Cp base ms)=bS n base+qS n ms:=by
 rw[<-hdM_sum,hv,Cp,hld_fm]
 by_cases h:n∈Dw ((Fs base ms).map (·.1))∧G9 n (Fs base ms)≠[]
 . rw[C2 h];rfl
 . rw[B8 h]
   have:G9 n (Fs base ms)=[]:=by
    rcases Decidable.em (G9 n (Fs base ms)=[])with e|e
    . exact e
    . refine ML fun hm=>h ⟨((P9 _).2 n).2 hm,e⟩
   rw[this];rfl
theorem ascS_pw {l:List F4} (h:BJ l):l.Pairwise fun a b=>ltS a b=true:=by
 induction l with
 | nil=>exact .nil
 | cons x l ih=>exact List.pairwise_cons.2 ⟨h.1,ih h.2⟩
theorem hdL_asc (base:List Hd) (ms:List Mv):(Cp base ms).Pairwise fun a b=>ltS a.1 b.1=true:=by
 rw[Cp,List.pairwise_filterMap]
 refine(ascS_pw (P9 _).1).imp fun {a b} h p hp q hq=>?_
 have e:∀ {k p},kpH (Fs base ms) k=some p->p.1=k:=fun {k p} h=>by
  unfold kpH at h
  split at h
  . cases h
  . cases h;rfl
 rw[e hp,e hq]
 exact h
theorem hdL_of {base:List Hd} {ms:List Mv} {o:List Hd} (hp:o.Perm ((Fs base ms).filter fun p=>!(p.2==[]))) (ha:o.Pairwise fun a b=>ltS a.1 b.1=true):o=Cp base ms:=by
 have hb:=hdL_asc base ms
 have n1:o.Nodup:=ha.imp fun {x y} h e=>by rw[e,N3]at h;cases h
 have n2:(Cp base ms).Nodup:=hb.imp fun {x y} h e=>by rw[e,N3]at h;cases h
 refine List.Perm.eq_of_pairwise (le:=fun a b:Hd=>ltS a.1 b.1=true) (fun x y _ _ h1 h2=>by rw[O7 h1]at h2;cases h2) ha hb ((List.perm_ext_iff_of_nodup n1 n2).2 fun p=>?_)
 rw[hp.mem_iff,List.mem_filter,Cp,List.mem_filterMap]
 have hnd:=EV base ms
 constructor
 . rintro⟨h1,h2⟩
   have h3:=JP hnd h1
   refine⟨p.1,((P9 _).2 _).2 (H5.2 ⟨p,h1,O⟩),?_⟩
   unfold kpH
   rw[h3,B8 (by simpa using h2)]
 . rintro⟨k,h1,h2⟩
   obtain⟨q,h3,rfl⟩:=H5.1 (((P9 _).2 k).1 h1)
   have h4:=JP hnd h3
   unfold kpH at h2
   rw[h4]at h2
   split at h2
   . cases h2
   . rename_i h5
     cases h2
     exact⟨h3,by simpa using h5⟩
theorem MG (days:Int) (base:List Hd) (ms ts:List Mv):
 Gq (Dh (Cp base ms) (Cp base ts)) (Bu ts (AR days ms ts).2 (AJ ms ts (AR days ms ts).1 ms.length) ts.length) (Dh (Cp base ms) (Cp base ts)).length=(Dh (Cp base ms) (Cp base ts)).map (·.2.1):=
 ex_law (base:=fun n=>bS n base) (fun n=>MJ base ms n) fun n=>MJ base ts n
end Go.Proofs.YtdkpmnefoobipaaGreatDoor
namespace Go.Proofs
open Go.Shelf
def Tryz.sortHld_ren:Go.Shelf.Ren:=⟨fun|6=>65|15=>82|14=>97|28=>114|29=>115|20=>133|21=>134|22=>135|23=>136|24=>137|25=>138|26=>139|27=>140|46=>176|47=>145|48=>146|49=>177|50=>178|57=>195|n=>n,fun|22=>23|24=>55|25=>107|3=>3|39=>125|0=>0|53=>160|55=>130|4=>4|46=>152|45=>151|50=>157|5=>5|9=>9|66=>183|70=>187|76=>216|77=>217|n=>n,fun|n=>n⟩
theorem Tryz.sortHld:Go.Proofs.SlLaysF0.n6 Tryz.prog Tryz.sortHld_ren:={
 mixed:=by kernel_rfl
 f6:=⟨Tryz.f65.name,by decide,Tryz.func65.trans K8⟩
 f14:=⟨Tryz.f97.name,by decide,Tryz.func97.trans K8⟩
 f15:=Tryz.func82.trans K8
 f20:=⟨Tryz.f133.name,by decide,Tryz.func133.trans K8⟩
 f21:=⟨Tryz.f134.name,by decide,Tryz.func134.trans K8⟩
 f22:=⟨Tryz.f135.name,by decide,Tryz.func135.trans K8⟩
 f23:=⟨Tryz.f136.name,by decide,Tryz.func136.trans K8⟩
 f24:=⟨Tryz.f137.name,by decide,Tryz.func137.trans K8⟩
 f25:=⟨Tryz.f138.name,by decide,Tryz.func138.trans K8⟩
 f26:=⟨Tryz.f139.name,by decide,Tryz.func139.trans K8⟩
 f27:=⟨Tryz.f140.name,by decide,Tryz.func140.trans K8⟩
 f28:=Tryz.func114.trans K8
 f29:=Tryz.func115.trans K8
 f46:=⟨Tryz.f176.name,by decide,Tryz.func176.trans K8⟩
 f47:=Tryz.func145.trans K8
 f48:=Tryz.func146.trans K8
 f49:=⟨Tryz.f177.name,by decide,Tryz.func177.trans K8⟩
 f50:=⟨Tryz.f178.name,by decide,Tryz.func178.trans K8⟩
 f57:=⟨Tryz.f195.name,by decide,Tryz.func195.trans K8⟩
 t0:=Tryz.underlying0
 a0:=Tryz.isAgg0
 z0:=Tryz.sizeOf0
 v0:=Tryz.zeroValue0
 t3:=Tryz.underlying3
 a3:=Tryz.isAgg3
 z3:=Tryz.sizeOf3
 v3:=Tryz.zeroValue3
 t4:=Tryz.underlying4
 a4:=Tryz.isAgg4
 z4:=Tryz.sizeOf4
 v4:=Tryz.zeroValue4
 t5:=Tryz.underlying5
 a5:=Tryz.isAgg5
 z5:=Tryz.sizeOf5
 v5:=Tryz.zeroValue5
 t9:=Tryz.underlying9
 a9:=Tryz.isAgg9
 z9:=Tryz.sizeOf9
 v9:=Tryz.zeroValue9
 t22:=Tryz.underlying23
 a22:=Tryz.isAgg23
 z22:=Tryz.sizeOf23
 v22:=Tryz.zeroValue23
 t25:=Tryz.underlying107
 a25:=Tryz.isAgg107
 z25:=Tryz.sizeOf107
 v25:=Tryz.zeroValue107
 t39:=Tryz.underlying125
 a39:=Tryz.isAgg125
 z39:=Tryz.sizeOf125
 v39:=Tryz.zeroValue125
 t45:=Tryz.underlying151
 a45:=Tryz.isAgg151
 z45:=Tryz.sizeOf151
 v45:=Tryz.zeroValue151
 t46:=Tryz.underlying152
 a46:=Tryz.isAgg152
 z46:=Tryz.sizeOf152
 v46:=Tryz.zeroValue152
 t50:=Tryz.underlying157
 a50:=Tryz.isAgg157
 z50:=Tryz.sizeOf157
 v50:=Tryz.zeroValue157
 t53:=Tryz.underlying160
 a53:=Tryz.isAgg160
 z53:=Tryz.sizeOf160
 v53:=Tryz.zeroValue160
 t55:=Tryz.underlying130
 a55:=Tryz.isAgg130
 z55:=Tryz.sizeOf130
 v55:=Tryz.zeroValue130
 t66:=Tryz.underlying183
 a66:=Tryz.isAgg183
 z66:=Tryz.sizeOf183
 v66:=Tryz.zeroValue183
 t70:=Tryz.underlying187
 a70:=Tryz.isAgg187
 z70:=Tryz.sizeOf187
 v70:=Tryz.zeroValue187
 t76:=Tryz.underlying216
 a76:=Tryz.isAgg216
 z76:=Tryz.sizeOf216
 v76:=Tryz.zeroValue216
 t77:=Tryz.underlying217
 a77:=Tryz.isAgg217
 z77:=Tryz.sizeOf217
 v77:=Tryz.zeroValue217 }
end Go.Proofs
namespace Go.Proofs.YtdkpmnefoobipaaGreatDoor
open Go.RowKit Px Go.Sort Go.Lib
theorem Jd (x y:F4):(x==y)=decide (x=y):=by rw[Bool.eq_iff_iff];simp
theorem ltS_dec (a b:F4):ltS a b=decide (a<b):=bytesLess_eq a b
theorem Cz (a b:F4):decide (a<=b) = !ltS b a:=by
 rw[ltS_dec,Bool.eq_iff_iff]
 simp
abbrev Ba (ss:List F4):List F4:=ss.mergeSort fun x y=>decide (x<=y)
theorem Lk (ss:List F4):(Ba ss).Pairwise fun x y=>ltS y x=false:=by
 have h:=List.pairwise_mergeSort (le:=fun x y:F4=>decide (x<=y)) (fun a b c h1 h2=>by
  rw[Cz,Bool.not_eq_true']at h1 h2 ⊢
  rcases N7 a b with e|e|e
  . rcases N7 b c with e2|e2|e2
    . exact O7 (Z3 e e2)
    . subst e2;exact O7 e
    . rw[h2]at e2;cases e2
  . subst e;exact h2
  . rw[h1]at e;cases e) (fun a b=>by
  rw[Cz,Cz]
  rcases N7 a b with e|e|e
  . rw[O7 e];rfl
  . subst e;rw[N3];rfl
  . rw[O7 e];simp) ss
 refine h.imp fun h=>?_
 rw[Cz]at h
 simpa using h
theorem Al (ss:List F4):(Ba ss).length=ss.length:=List.length_mergeSort ss
theorem JY {d:Array F4} (hd:∀ i j,i<=j->j<d.size->ltS d[j]! d[i]! = false):∀ m,m<=d.size->BJ (compactUpTo d m)∧(∀ x,x∈compactUpTo d m ↔ ∃ j,j<m∧d[j]! = x)
 | 0,_=>by simp[compactUpTo,BJ]
 | m+1,hm=>by
  obtain⟨h1,h2⟩:=JY hd m (by omega)
  rw[compactUpTo_succ]
  cases hk:keeps d m
  . simp only[keeps,decide_eq_false_iff_not,not_or,Decidable.not_not]at hk
    simp only[Bool.false_eq_true,if_false,List.append_nil]
    refine⟨h1,fun x=>?_⟩
    rw[h2]
    constructor
    . rintro⟨j,hj,rfl⟩;exact⟨j,by omega,rfl⟩
    . rintro⟨j,hj,rfl⟩
      by_cases e:j=m
      . subst e;exact⟨j-1,by omega,hk.2.symm⟩
      . exact⟨j,by omega,rfl⟩
  . simp only[keeps,decide_eq_true_eq]at hk
    simp only[if_true]
    refine⟨?_,fun x=>?_⟩
    . rw[HH]
      refine⟨h1,⟨fun y hy=>(by cases hy),C8⟩,fun x hx y hy=>?_⟩
      obtain⟨j,hj,rfl⟩:=(h2 x).1 hx
      have e:y=d[m]!:=by simpa using hy
      subst e
      rcases hk with hk|hk
      . omega
      . have h3:=hd j (m-1) (by omega) (by omega)
        have h4:=hd (m-1) m (by omega) (by omega)
        have h5:=hd j m (by omega) (by omega)
        rcases N7 d[j]! d[m]! with e|e|e
        . exact e
        . exfalso
          rcases N7 d[m-1]! d[m]! with e2|e2|e2
          . rw[<-e,h3]at e2;cases e2
          . exact hk e2.symm
          . rw[h4]at e2;cases e2
        . rw[h5]at e;cases e
    . rw[List.mem_append,h2]
      constructor
      . rintro(⟨j,hj,rfl⟩|h)
        . exact⟨j,by omega,rfl⟩
        . exact⟨m,by omega,(List.mem_singleton.1 h).symm⟩
      . rintro⟨j,hj,rfl⟩
        by_cases e:j=m
        . subst e;exact .inr (by simp)
        . exact .inl ⟨j,by omega,rfl⟩
theorem CS (ss:List F4):compact (Ba ss)=Dw ss:=by
 obtain⟨s,hs⟩:=H1 (Ba ss)
 have hsort:=Lk ss
 have hmem:∀ x,x∈s↔x∈ss:=fun x=>by rw[hs,List.mem_mergeSort]
 rw[<-hs]at hsort ⊢
 have hd:∀ i j,i<=j->j<s.toArray.size->ltS s.toArray[j]! s.toArray[i]! = false:=fun i j hij hj=>by
  have hj':j<s.length:=by simpa using hj
  have hi':i<s.length:=by omega
  rw[getElem!_pos s.toArray i (by simpa using hi'),getElem!_pos s.toArray j hj]
  simp only[List.getElem_toArray]
  rcases G0 i j with h|h
  . exact List.pairwise_iff_getElem.1 hsort i j hi' hj' h
  . have:i=j:=by omega
    subst this;exact N3 _
 obtain⟨h1,h2⟩:=JY hd s.length (by simp)
 unfold compact
 refine uniS_of h1 fun x=>?_
 rw[h2,<-hmem]
 constructor
 . rintro⟨j,hj,rfl⟩
   rw[getElem!_pos s.toArray j (by simpa using hj)]
   simp
 . intro hx
   obtain⟨j,hj,rfl⟩:=List.mem_iff_getElem.1 hx
   exact⟨j,hj,by rw[getElem!_pos s.toArray j (by simpa using hj)];simp⟩
theorem LL (ss:List F4) (hl:ss.length<=1000000):PRow Tryz.prog 49 9 1 [] (ss.map encStr) ((Ba ss).map encStr):=by
 intro w v n hown hone
 have hn:n=ss.length:=by have:=hown.1;simpa using this.symm
 subst hn
 rcases hown.2 with⟨rfl,h0⟩|⟨g,cap,cur,rfl,hg,hb,hn,hcap,hsz,ht⟩
 . have hz:ss=[]:=List.eq_nil_of_length_eq_zero h0
   subst hz
   refine(AnyG.slices_Sort_string_none Tryz.sortStr none 0 w).mono ?_
   rintro e w' ⟨rfl,rfl⟩
   have e:Ba []=[]:=List.eq_nil_of_length_eq_zero (Al [])
   rw[e]
   exact⟨rfl,hown,hone,O,O,O,D6 _,fun _ _ _=>O⟩
 . refine(AnyG.slices_Sort_string Tryz.sortStr g 0 cap ss w (holds_of_block hb (by simpa using ht)) (D5.1 hb).1 (by omega)).mono ?_
   rintro e w' ⟨rfl,n,os,rfl⟩
   refine⟨rfl,?_,fun u hu=>by obtain⟨z,-,rfl⟩:=H5.1 hu;rfl,grownBy_sorted _⟩
   exact ownsRow_sorted (n:=n) (os:=os) (ts:=Ba ss) (ss:=ss) (Al ss) hg hb hn hcap hsz
theorem MR (ss:List F4) (hl:ss.length<=1000000):PRowC Tryz.prog 50 9 1 (ss.map encStr) ((compact ss).map encStr):=by
 intro w A c n hown h0 hone
 have hn0:n=ss.length:=by have:=hown.1;simpa using this.symm
 subst hn0
 rcases hown.2 with⟨e0,h1⟩|⟨g,cap,cur,e0,hg,hb,hn,hcap,hsz,ht⟩
 . omega
 obtain⟨rfl,-,rfl⟩:=Value.slice.inj e0
 have h1:=AnyE.slices_Compact Tryz.compStr encStr (fun _=>rfl) ⟨fun x y w=>by
  have:(binOp .eql (Tryz.compStr_ren.t 23) (encStr x) (encStr y))=pure (.bool ((ByteArray.mk x.toArray).toList==(ByteArray.mk y.toArray).toList)):=rfl
  rw[this,J3,J3,Jd];rfl,fun op a b x y w=>GuardAt.string _ _ op a b _ _ w⟩ ⟨fun x y w=>by
  have:(binOp .neq (Tryz.compStr_ren.t 23) (encStr x) (encStr y))=pure (.bool (!((ByteArray.mk x.toArray).toList==(ByteArray.mk y.toArray).toList))):=rfl
  rw[this,J3,J3,Jd];rfl,fun op a b x y w=>GuardAt.string _ _ op a b _ _ w⟩ [] Tryz.zeroValue9 g 0 c ss.toArray w (holds_of_block hb (by simpa using ht)) (by simp;omega) (by simpa using hn)
 simp only[List.size_toArray]at h1
 refine h1.mono ?_
 rintro e w' ⟨rfl,q,rfl⟩
 have hcl:(compactUpTo ss.toArray ss.length).length<=ss.length:=by
  unfold compactUpTo
  rw[D3]
  exact E3 (List.length_filter_le _ _) (by simp)
 obtain⟨ts,hts⟩:=H1 (compactUpTo ss.toArray ss.length++List.replicate (ss.length-(compactUpTo ss.toArray ss.length).length) ([]:F4))
 have htl:ts.length=ss.length:=by rw[hts];simp;omega
 have hheap:(putRow encStr (Sort.ahead w q) g 0 ts.toArray).heap[g]? = some (.cells (putCells encStr 0 ts.toArray cur) 9 (0,0)):=by
  simp[putRow,mapBlock,Sort.ahead,Array.getElem?_modify,hb,onCells]
 rw[<-hts]
 refine⟨(compactUpTo ss.toArray ss.length).length,(List.replicate (ss.length-(compactUpTo ss.toArray ss.length).length) ([]:F4)).map encStr,O,hcl,by unfold compact;simp,?_,fun u hu=>by obtain⟨z,-,rfl⟩:=H5.1 hu;rfl,?_⟩
 . have e:(compact ss).map encStr++(List.replicate (ss.length-(compactUpTo ss.toArray ss.length).length) ([]:F4)).map encStr=ts.map encStr:=by rw[hts,List.map_append];rfl
   rw[e]
   refine⟨by simp[htl],.inr ⟨g,c,_,rfl,hg,hheap,hn,hcap,by simp[putCells,hsz],?_⟩⟩
   rw[Nat.mul_one,<-htl]
   exact take_putCells cur ts (by omega)
 . refine⟨rfl,O,O,by simp,fun k hk hne=>?_⟩
   have:g≠k:=fun e=>hne (by rw[e];rfl)
   simp[putRow,mapBlock,Sort.ahead,Array.getElem?_modify,this]
end Go.Proofs.YtdkpmnefoobipaaGreatDoor
namespace Go.Proofs.YtdkpmnefoobipaaGreatDoor.Px
open Go.RowKit
section
variable {P:Program} {ops:Array Oper} {K:PS->Prop} {rest:List Oper} {st:PS} {ty:TypeId} {pos:String} {af:Array Edge} {gd:Option (Nat×Bool)}
theorem yRbF {f E k i n:Nat} {e:Option Nat} {x:Operand} {l:List Operand} {ts:Array TypeId} {args vs vs':List Value} [hB:HasBody P f] (hc:PRow P f E k args vs vs') (hn:vs.length=n*k) (hx:st.ev x=.bs i n E k) (hi:st.bget i=some (vs.map fun u=>.d (.val u))) (ha:∀ a:Act,l.map a.eval=args)
 (h:YR P true ops K rest ((st.bput i (vs'.map fun u=>.d (.val u))).put e (.tup []))) (hd:G3 ⟨e,.call { callee:=.value (.func f),args:=(x::l).toArray,argTypes:=ts },ty,pos,af,gd⟩ st=true:=by kernel_rfl)
 (hw:st.want ops ⟨e,.call { callee:=.value (.func f),args:=(x::l).toArray,argTypes:=ts },ty,pos,af,gd⟩=some true:=by rfl) (hlt:Nat.blt i 500000=true:=by rfl):
 YR P true ops K (⟨e,.call { callee:=.value (.func f),args:=(x::l).toArray,argTypes:=ts },ty,pos,af,gd⟩::rest) st:=by
 refine .any O fun B w0 Q hQ g a w hr=>?_
 have h1:=hr.eval x
 rw[hx]at h1
 obtain⟨b,c,q1,q2,q3,q4,q5⟩:=h1
 have hlt:=B0 hlt
 obtain⟨b',xs,T,q6,q7,q8,q9,q10⟩:=hr.boxes i _ hi hlt
 rw[q1]at q6
 cases q6
 have hsh:T=E∧xs.size=c*k:=by
  simp only[World.shape?,q7,Option.some.injEq,Prod.mk.injEq]at q5
  exact q5
 obtain⟨rfl,hsz⟩:=hsh
 rw[D3]at q8 q10
 have hxv:∀ (j:Nat) u,vs[j]? = some u->xs[j]? = some u∧u.oneCell'=true:=fun j u hj=>by
  obtain⟨u',t1,t2⟩:=q9 j (.d (.val u)) (by rw[B5,hj];rfl)
  have t3:=DRep.val_eq t2
  subst t3
  exact⟨t1,q10 j u' (A6.1 hj).1 t1⟩
 have hone:∀ u∈vs,u.oneCell'=true:=fun u hu=>by
  obtain⟨j,hj⟩:=List.mem_iff_getElem?.1 hu
  exact(hxv j u hj).2
 have hown:w.ownsRow 0 T k (a.eval x) n vs:=by
  rw[q2]
  refine⟨hn,.inr ⟨b,c,xs,O,D4 _,q7,q3,q4,hsz,?_⟩⟩
  refine List.ext_getElem? fun j=>?_
  by_cases hj:j<n*k
  . rw[C7 hj]
    have hjv:=A4 (l:=vs) (i:=j) (by omega)
    rw[hjv]
    simpa using (hxv j _ hjv).1
  . rw[E9 (by simp;omega),E9 (by omega)]
 have M3:=hc w (a.eval x) n hown hone
 have hargs:((x::l).map a.eval).toArray=(a.eval x::args).toArray:=by
  rw[List.map_cons,ha a]
 unfold wpList
 rw[C2 (H9 hr hw)]
 refine .inl ?_
 unfold Oper.wp
 rw[Y1]
 show Calls P f _ w _
 rw[hargs]
 refine M3.mono ?_
 rintro e' w' ⟨rfl,h3,h4,h5⟩
 rw[q2]at h3 h5
 obtain⟨hvl',(⟨t0,-⟩|⟨gb,cap,cur,t1,-,t2,t3,t4,t5,t6⟩)⟩:=h3
 . cases t0
 cases t1
 have hvs':∀ (j:Nat) u,vs'[j]? = some u->cur[j]? = some u:=fun j u hj=>by
  rw[<-t6]at hj
  have hj':j<n*k:=by have:=(A6.1 hj).1;rw[F3]at this;omega
  rw[C7 hj']at hj
  simpa using hj
 have hr':Rep B w0 g (st.bput i (vs'.map fun u=>.d (.val u))) a w':=by
  refine hr.seto i b _ q1 ⟨h5.os,h5.tape,h5.output,h5.size,fun k hk=>by omega⟩ (fun k hk hne=>h5.block k hk (fun e=>hne (by simpa[Value.ownBlock]using e))) ?_ (fun _ _=>⟨cur,T,t2,?_,fun j c hj=>?_,fun j u hj hu=>?_⟩) fun _ hge=>by omega
  . simp[World.shape?,t2,q7,t5,hsz]
  . rw[D3,hvl',t5];exact Nat.mul_le_mul_right _ q3
  . rw[B5,B7]at hj
    obtain⟨u,hu,rfl⟩:=hj
    exact⟨u,hvs' j u hu,DRep.val u (h4 u (B2 hu))⟩
  . have hjv:=A4 (l:=vs') (i:=j) (by simpa using hj)
    have:=hvs' j _ hjv
    rw[hu]at this
    cases this
    exact h4 _ (List.getElem_mem _)
 exact h.sound hQ (hr'.put (x:=.tup []) ⟨[],O,O,fun i y x hy=>by simp at hy⟩ _ (F5 (st:=st) hd))
end
end Go.Proofs.YtdkpmnefoobipaaGreatDoor.Px
namespace Go.Proofs.YtdkpmnefoobipaaGreatDoor
open Go.RowKit Px Go.Sort Go.Shelf Go.Lib
def IM (a b:Hd):Int:=if ltS a.1 b.1 then -1 else 1
def U2 (a:Hd):List Value:=[vS a.1,vS a.2]
theorem Bc (x y:Hd):ltOf IM x y=ltS x.1 y.1:=by
 unfold ltOf IM
 cases h1:ltS x.1 y.1 with
 | true=>simp
 | false=>simp
theorem swoH:SWO (ltOf IM) where
 irrefl x:=by rw[Bc];exact N3 _
 trans x y z h1 h2:=by rw[Bc]at *;exact Z3 h1 h2
 ntrans x y z h1 h2:=by
  rw[Bc]at *
  show ltS x.1 z.1=false
  change ltS x.1 y.1=false at h1
  change ltS y.1 z.1=false at h2
  cases e:ltS x.1 z.1 with
  | false=>rfl
  | true=>
   rcases N7 x.1 y.1 with h|h|h
   . rw[h]at h1;cases h1
   . rw[h,h2]at e;cases e
   . rw[Z3 h e]at h2;cases h2
theorem IL (x y:Hd) (W:World):Calls Tryz.prog 66 #[.agg #[vS x.1,vS x.2],.agg #[vS y.1,vS y.2]] W fun e w'=>e=.returned (.int .i64 (IM x y)) ∧ ∃ q os',w'=grow (W.drewN q) os':=by
 obtain⟨a,m⟩:=x
 obtain⟨b,n⟩:=y
 have hb:∀ t,binOp .lss t (vS a) (vS b)=Sem.pure (.bool (ltS a b)):=fun t=>by
  show Sem.pure (Value.bool (Op.bytesLess (ByteArray.mk a.toArray).toList (ByteArray.mk b.toArray).toList))=_
  rw[J3,J3]
 unfold IM
 simp only
 cases h1:ltS a b with
 | true=>
  rw[h1]at hb
  rw[C2 rfl]
  go_enter Tryz.func66,Tryz.ntmps66
  go_wp2
  go_ret
  exact⟨rfl,0,_,by rw[alloc_eq_grow,alloc_eq_grow,grow_grow];rfl⟩
 | false=>
  rw[h1]at hb
  rw[B8 (by simp)]
  go_enter Tryz.func66,Tryz.ntmps66
  go_wp2
  go_ret
  exact⟨rfl,0,_,by rw[alloc_eq_grow,alloc_eq_grow,grow_grow];rfl⟩
def V3 (l:List Hd):List Hd:=(pdq (ltOf IM) l.toArray 0 l.length (Lib.bitLen l.length) true true).toList
theorem CB (l:List Hd):(V3 l).length=l.length∧(V3 l).Perm l:=by
 have h:=pdq_sorts (ltOf IM) swoH l.toArray 0 l.length (Lib.bitLen l.length) true true (D4 _) (by simp) (Or.inl rfl)
 obtain⟨h1,-,h3⟩:=h.1
 unfold V3
 obtain⟨D,hD⟩:=H1 (pdq (ltOf IM) l.toArray 0 l.length (Lib.bitLen l.length) true true)
 rw[<-hD]at h1 h3 ⊢
 have hs:D.size=l.length:=by simpa using h1
 refine⟨by simpa using hs,?_⟩
 have e1:D.extract 0 l.length=D:=by rw[<-hs];simp
 have e2:l.toArray.extract 0 l.length=l.toArray:=by simp
 rw[e1,e2]at h3
 simpa using h3
theorem Jm {base:List Hd} {ms:List Mv} {o:List Hd} (hp:o.Perm ((Fs base ms).filter fun p=>!(p.2==[]))):V3 o=Cp base ms:=by
 have h:=(pdq_sorts (ltOf IM) swoH o.toArray 0 o.length (Lib.bitLen o.length) true true (D4 _) (by simp) (Or.inl rfl)).2
 obtain⟨s1,s2⟩:=CB o
 refine hdL_of (s2.trans hp) ?_
 have hnd:((V3 o).map (·.1)).Nodup:=by
  refine((s2.trans hp).map (·.1)).nodup_iff.2 ?_
  exact(EV base ms).sublist (List.filter_sublist.map _)
 have hg:∀ k (hk:k<(V3 o).length),(pdq (ltOf IM) o.toArray 0 o.length (Lib.bitLen o.length) true true)[k]! = (V3 o)[k]:=fun k hk=>by
  unfold V3 at hk ⊢
  rw[getElem!_pos _ k (by simpa using hk)]
  simp
 rw[List.pairwise_iff_getElem]
 intro i j hi hj hij
 have h5:=h i j (D4 _) hij (by omega)
 rw[Bc,hg i hi,hg j hj]at h5
 rcases N7 (V3 o)[i].1 (V3 o)[j].1 with q|q|q
 . exact q
 . have:=(List.pairwise_iff_getElem.1 hnd) i j (by simpa using hi) (by simpa using hj) hij
   simp only[List.getElem_map]at this
   exact F9 q this
 . rw[q]at h5;cases h5
def AQ (l:List Hd):List Value:=l.flatMap U2
theorem U7 (l:List Hd):(AQ l).length=l.length*2:=by
 induction l with
 | nil=>rfl
 | cons x l ih=>show(U2 x++AQ l).length=_;rw[D1,ih,List.length_cons,show(U2 x).length=2 from rfl];omega
theorem vHd_get (l:List Hd) (t:Nat) (h:t<l.length*2):(AQ l)[t]? = some ((U2 l[t / 2]!)[t % 2]!):=by
 induction l generalizing t with
 | nil=>simp at h
 | cons x l ih=>
  have e:AQ (x::l)=U2 x++AQ l:=rfl
  rw[e]
  rw[List.length_cons]at h
  have hl:(U2 x).length=2:=rfl
  by_cases h2:t<2
  . rw[E4 (by omega),show t / 2=0 by omega,show t % 2=t by omega,show(x::l)[0]! = x from rfl,A4 (by omega),getElem!_pos (U2 x) t (by omega)]
  . rw[E6 (by omega),hl,ih (t-2) (by omega),show t / 2=(t-2) / 2+1 by omega,show t % 2=(t-2) % 2 by omega]
    rfl
theorem Dj (l:List Hd):flatK U2 2 l.toArray=(AQ l).toArray:=by
 refine ext_get! (by rw[size_flatK,List.size_toArray,List.size_toArray,U7]) fun t ht=>?_
 have ht':t<l.length*2:=by simpa using ht
 rw[get_flatK U2 2 l.toArray t (by simpa using ht')]
 have h1:=vHd_get l t ht'
 have h2:t<(AQ l).length:=by rw[U7];exact ht'
 rw[getElem!_pos (AQ l).toArray t (by simpa using h2)]
 rw[A4 h2]at h1
 have h3:l.toArray[t / 2]! = l[t / 2]!:=by simp
 rw[h3,List.getElem_toArray]
 exact(G4 h1).symm
theorem Jj (cur:Array Value) (ts:List Value) (h:ts.length<=cur.size):(putCells id 0 ts.toArray cur).toList.take ts.length=ts:=by
 apply List.ext_getElem?
 intro j
 by_cases hj:j<ts.length
 . rw[C7 hj,Array.getElem?_toList]
   simp[putCells,hj,show j<cur.size by omega]
 . rw[List.getElem?_take_eq_none (by omega),E9 (by omega)]
theorem LM (l:List Hd) (hl0:l≠[]) (hl:l.length<=1000000):PRow Tryz.prog 65 55 2 [.func (.func 66) #[] #[]] (AQ l) (AQ (V3 l)):=by
 intro w v n hown hone
 have hpos:0<l.length:=List.length_pos_iff.2 hl0
 have hn:n=l.length:=by
  have:=hown.1
  rw[U7]at this
  omega
 subst hn
 obtain⟨hsl,hsp⟩:=CB l
 have hlr:(AQ (V3 l)).length=l.length*2:=by rw[U7,hsl]
 rcases hown.2 with⟨rfl,h0⟩|⟨g,cap,cur,rfl,hg,hb,hn,hcap,hsz,ht⟩
 . omega
 . have hH:HoldsK U2 2 w g 0 l.toArray:=by
    unfold HoldsK
    rw[Dj]
    intro j hj
    have hj':j<(AQ l).length:=by simpa using hj
    refine⟨?_,by simp[World.frozen?,hb]⟩
    have h1:(cur.toList.take (l.length*2))[j]? = (AQ l)[j]?:=by rw[ht]
    rw[C7 (by rw[<-U7];exact hj')]at h1
    simp only[World.cell?,hb,D0]
    simp only[Option.isSome_none,Bool.false_eq_true,if_false]
    rw[<-Array.getElem?_toList,h1,A4 hj',getElem!_pos (AQ l).toArray j (by simpa using hj')]
    simp
   have eg:∀ args w,(callFunc 66 args).run Tryz.prog w=.ok (.enter 66 args) w:=enters_of Tryz.func66 (by kernel_rfl) rfl
   have h:=AnyQ.slices_SortFunc_eq Tryz.sortHld 2 (fun w=>Tryz.isAgg55 w) (fun w=>Tryz.sizeOf55 w) U2 (fun _=>rfl) (fun x v hv=>by
    simp only[U2,List.mem_cons,List.not_mem_nil,or_false]at hv
    rcases hv with rfl|rfl<;>rfl) IM swoH 66 #[] g 0 cap l.toArray w eg (fun _ _ _ _ x y=>IL x y _) hH (D5.1 hb).1 (by simp;omega)
   simp only[List.size_toArray]at h
   refine h.mono ?_
   rintro e w' ⟨rfl,q,os,rfl⟩
   have hfl:sortWorldK U2 2 w g 0 q (pdq (ltOf IM) l.toArray 0 l.length (Lib.bitLen l.length) true true) os=grow (putRow id (Sort.ahead w q) g 0 (AQ (V3 l)).toArray) os:=by
    unfold sortWorldK putRowK
    rw[<-Dj]
    simp[V3]
   rw[hfl]
   have hgs:g<w.heap.size:=(D5.1 hb).1
   have hheap:(grow (putRow id (Sort.ahead w q) g 0 (AQ (V3 l)).toArray) os).heap[g]? = some (.cells (putCells id 0 (AQ (V3 l)).toArray cur) 55 (0,0)):=by
    show((putRow id (Sort.ahead w q) g 0 (AQ (V3 l)).toArray).heap++os)[g]? = _
    rw[Array.getElem?_append_left (by simp[putRow,mapBlock,Sort.ahead,hgs])]
    simp[putRow,mapBlock,Sort.ahead,Array.getElem?_modify,hb,onCells]
   refine⟨rfl,⟨hlr,.inr ⟨g,cap,_,O,hg,hheap,hn,hcap,by simp[putCells,hsz],?_⟩⟩,fun u hu=>?_,?_⟩
   . rw[<-hlr]
     exact Jj cur _ (by rw[hlr,hsz];exact Nat.mul_le_mul_right _ hn)
   . obtain⟨s,-,hs⟩:=List.mem_flatMap.1 hu
     simp only[U2,List.mem_cons,List.not_mem_nil,or_false]at hs
     rcases hs with rfl|rfl<;>rfl
   . refine⟨rfl,O,O,?_,fun k hk hne=>?_⟩
     . show w.heap.size<=((putRow id (Sort.ahead w q) g 0 (AQ (V3 l)).toArray).heap++os).size
       simp[putRow,mapBlock,Sort.ahead]
     . have:g≠k:=fun e=>hne (by rw[e];rfl)
       show((putRow id (Sort.ahead w q) g 0 (AQ (V3 l)).toArray).heap++os)[k]? = _
       rw[Array.getElem?_append_left (by simp[putRow,mapBlock,Sort.ahead,hk])]
       simp[putRow,mapBlock,Sort.ahead,Array.getElem?_modify,this]
end Go.Proofs.YtdkpmnefoobipaaGreatDoor
namespace Go.Proofs.YtdkpmnefoobipaaGreatDoor.Px
open Go.RowKit
variable {w:World} {st:PS} {a:Act} {seen:Array Nat} {g:Gh} {B id:Nat} {w0:Cx} {c:Code}
def ItSpec (P:Program) (gf:FuncId) (lb:Array Value) (xs:List (List Value)) (F:Nat->Nat->Prop) (w:World):Prop:=
 ∀ (l:Nat) (J:Nat->World->Prop) (Jx:World->Prop),
  (∀ i A A',J i A->Below A.heap.size A A'->J i A')->(∀ A A',Jx A->Below A.heap.size A A'->Jx A') →
  (∀ i x A,xs[i]? = some x->J i A->YieldAt Fence.wide 0 P l x.toArray A fun e A'=>(e=.returned (.bool true)∧J (i+1) A'∧Kp F A F A'∧GlobOk F A')∨(e=.returned (.bool false)∧Jx A')) →
  GlobOk F w->J 0 w->CallsIn Fence.wide 0 P gf (#[.func (.yield l) #[] #[]]++lb) w fun e w'=>(∃ v,e=.returned v)∧(J xs.length w'∨Jx w')
def ItR (P:Program) (xs:List (List Value)) (F:Nat->Nat->Prop) (w:World) (v:Value):Prop:=
 ∃ gf lb,v=.func (.func gf) #[] lb∧(∀ args w,(callFunc gf args).run P w=.ok (.enter gf args) w) ∧ ∀ F' w',Kp F w F' w'->ItSpec P gf lb xs F' w'
def dIt (P:Program) (xs:List (List Value)):DV:=.abs (ItR P xs)
theorem DRep.it {P:Program} {xs:List (List Value)} {F:Nat->Nat->Prop} {v:Value} (h:DRep F w v (dIt P xs)):ItR P xs F w v:=by
 cases h with
 | abs _ _ h=>exact h
section
variable {P:Program} {Q:Exit->PS->Prop}
end
theorem Rep.rl {w1:World} {g1:Gh} {r:Option Nat} {d:Nat} {hd:d<=w1.heap.size} (h:Rep B ⟨w1,g1,r,d,hd⟩ g st a w) (r':Option Nat):Rep B ⟨w1,g1,r',d,hd⟩ g st a w:=
 ⟨h.evo,h.base,h.f0,h.lim,h.size,h.defers,h.slots,h.boxes,h.maps,h.blk,h.dom,h.inj,h.toks,h.tf0,h.telt,h.tdis,h.tdom,h.tlen,h.glob,h.gown,h.ghp⟩
theorem Rep.mark (h:Rep B w0 g st a w) {ds:List Deferred} (hd:Dfr w0 g w ds):Rep B w0 g st { a with defers:=ds } w:=
 { h with size:=h.size,slots:=h.slots,defers:=hd }
theorem Rep.not_tok (h:Rep B w0 g st a w) {b:Nat} (hb:w.heap.size<=b):(∀ i,g.bl i≠some b) ∧ ∀ t T,g.tk t=some T->T.v.ownBlock≠some b:=by
 refine⟨fun i hi=>?_,fun t T hT e=>?_⟩
 . have:=(h.blk i b hi).2;omega
 . obtain⟨⟨n,xs,h1⟩,-⟩:=h.toks t T hT
   have:=(h1.lt b e).2
   omega
inductive ArgR (st:PS) (no:List Nat) (nw:List (Nat×Value)):Nat->List SV->Prop
 | nil {j:Nat}:ArgR st no nw j []
 | any {j:Nat} {l:List SV} (h:ArgR st no nw (j+1) l):ArgR st no nw j (.any::l)
 | keep {j:Nat} {x:SV} {l:List SV} (hn:no.contains j=false) (hx:SVle (st.get j) x) (h:ArgR st no nw (j+1) l):ArgR st no nw j (x::l)
 | new {j:Nat} {v:Value} {l:List SV} (hv:F8 nw j=some v) (ho:v.oneCell'=true) (h:ArgR st no nw (j+1) l):ArgR st no nw j (.d (.val v)::l)
theorem ArgR.get {no:List Nat} {nw:List (Nat×Value)} {j:Nat} {l:List SV} (h:ArgR st no nw j l):∀ (k:Nat) x,l[k]? = some x->x=.any∨(j+k ∉ no∧SVle (st.get (j+k)) x) ∨ ∃ v,F8 nw (j+k)=some v∧v.oneCell'=true∧x=.d (.val v):=by
 induction h with
 | nil=>intro k x h;simp at h
 | any _ ih=>
  intro k x h
  cases k with
  | zero=>simp at h;exact .inl h.symm
  | succ k=>have:=ih k x (by simpa using h);rwa [Nat.add_assoc,Nat.add_comm 1]at this
 | keep hn hx _ ih=>
  intro k x h
  cases k with
  | zero=>
   simp at h
   subst h
   refine .inr (.inl ⟨fun hm=>?_,hx⟩)
   rw[Nat.add_zero]at hm
   rw[List.contains_iff_mem.2 hm]at hn
   cases hn
  | succ k=>have:=ih k x (by simpa using h);rwa [Nat.add_assoc,Nat.add_comm 1]at this
 | new hv ho _ ih=>
  intro k x h
  cases k with
  | zero=>simp at h;subst h;exact .inr (.inr ⟨_,hv,ho,O⟩)
  | succ k=>have:=ih k x (by simpa using h);rwa [Nat.add_assoc,Nat.add_comm 1]at this
def Cx.at (w0:Cx) (g:Gh) (w:World) (h:w0.d0<=w.heap.size):Cx:=⟨w,g,w0.rl,w0.d0,h⟩
theorem Rep.rebase (h:Rep B w0 g st a w) (hd:w0.d0<=w.heap.size):Rep B (w0.at g w hd) g st a w:=
 { h with
  evo:=Evo.refl _ _
  size:=h.size
  slots:=h.slots
  defers:=h.defers
  gown:=fun q cs hq ho=>h.gown q cs hq (h.evo.own ho)
  ghp:=fun q cs hq=>by
   obtain⟨vs,e,T,z,h1⟩:=h.ghp q cs hq
   exact⟨vs,e,T,z,(h.evo.heap q (h.gown q cs hq)).trans h1⟩ }
def Vis (es:Array MapEntry) (ms:List (Value×DV)) (seen:Array Nat) (dn:List (Value×DV)):Prop:=∃ D R:List (MapEntry×(Value×DV)),(D++R).Perm (es.toList.zip ms)∧seen.toList=D.map (·.1.born)∧dn=D.map (·.2)
theorem Vis.start (es:Array MapEntry) (ms:List (Value×DV)):Vis es ms #[] []:=⟨[],es.toList.zip ms,by simp,rfl,rfl⟩
theorem BD {es:Array MapEntry} {e:MapEntry}:e∈(leftOf es seen).toList↔e∈es.toList∧e.born ∉ seen.toList:=by
 unfold leftOf
 simp
theorem Vis.step {es:Array MapEntry} {ms dn:List (Value×DV)} (h:Vis es ms seen dn) (hl:es.size=ms.length) {e:MapEntry} (he:e∈(leftOf es seen).toList):∃ p,(e,p)∈es.toList.zip ms∧Vis es ms (seen.push e.born) (dn++[p]):=by
 obtain⟨D,R,h1,h2,h3⟩:=h
 obtain⟨h4,h5⟩:=BD.1 he
 have h6:e∈(es.toList.zip ms).map (·.1):=by rw[List.map_fst_zip (by simp[hl])];exact h4
 obtain⟨⟨e',p⟩,hz,rfl⟩:=H5.1 h6
 refine⟨p,hz,?_⟩
 have h7:(e',p)∈D++R:=h1.mem_iff.2 hz
 have h8:(e',p)∈R:=by
  rcases List.mem_append.1 h7 with h|h
  . exact F9 (by rw[h2];exact H5.2 ⟨_,h,O⟩) h5
  . exact h
 obtain⟨R1,R2,rfl⟩:=List.append_of_mem h8
 refine⟨D++[(e',p)],R1++R2,?_,by simp[h2],by simp[h3]⟩
 refine List.Perm.trans ?_ h1
 rw[E8]
 have hm:(R1++(e',p)::R2).Perm ((e',p)::(R1++R2)):=List.perm_middle
 exact List.Perm.append_left D hm.symm
theorem Vis.done {es:Array MapEntry} {ms dn:List (Value×DV)} (h:Vis es ms seen dn) (hl:es.size=ms.length) (hn:(es.toList.map (·.born)).Nodup) (h0:(leftOf es seen).size=0):dn.Perm ms:=by
 obtain⟨D,R,h1,h2,h3⟩:=h
 have hR:R=[]:=by
  cases R with
  | nil=>rfl
  | cons z R=>
   have hz:z∈es.toList.zip ms:=h1.mem_iff.1 (by simp)
   have hze:z.1∈es.toList:=(List.of_mem_zip hz).1
   have hzs:z.1.born∈seen.toList:=by
    refine Decidable.byContradiction fun hc=>?_
    have:=BD.2 ⟨hze,hc⟩
    rw[Array.eq_empty_of_size_eq_zero h0]at this
    simp at this
   have hp:((D++z::R).map fun x=>x.1.born).Nodup:=by
    rw[(h1.map _).nodup_iff]
    have:(es.toList.zip ms).map (fun x=>x.1.born)=((es.toList.zip ms).map (·.1)).map (·.born):=by rw[List.map_map];rfl
    rw[this,List.map_fst_zip (by simp[hl])]
    exact hn
   rw[h2]at hzs
   rw[List.map_append,List.nodup_append]at hp
   exact F9 O (hp.2.2 _ hzs _ (by simp))
 subst hR
 rw[List.append_nil]at h1
 have h4:=h1.map (·.2)
 rw[List.map_snd_zip (by simp[hl])]at h4
 rw[h3]
 exact h4
def Self (rl:Option Nat) (d0:Nat) (g:Gh) (st:PS) (a:Act) (w:World):Prop:=∃ hd:d0<=w.heap.size,Rep w.heap.size ⟨w,g,rl,d0,hd⟩ g st a w
theorem Rep.self (h:Rep B w0 g st a w):Self w0.rl w0.d0 g st a w:=
 have hd:w0.d0<=w.heap.size:=E3 w0.hd h.evo.bel.size
 ⟨hd,{ h.rebase hd with base:=D6 _,f0:=fun b o hb=>h.f0 b o (E3 h.base hb),size:=h.size,slots:=h.slots,defers:=h.defers }⟩
def Stb (X:Gh->World->Prop):Prop:=∀ g w g' w',X g w->(∀ i b,g.bl i=some b->b<w.heap.size)->Evo g w g' w'->X g' w'
def PostX (rl:Option Nat) (d0:Nat) {ι:Type} (X:ι->Gh->World->Prop) (Q:Exit->PS->ι->Prop):Exit->Act->World->Prop:=fun e a w=>∃ g s i,Self rl d0 g s a w∧X i g w∧Q e s i
def PX (P:Program) (rl:Option Nat) (d0:Nat) {ι:Type} (X:ι->Gh->World->Prop) (c:Code) (Q:Exit->PS->ι->Prop) (st:PS) (i:ι):Prop:=
 ∀ g a w,Self rl d0 g st a w->X i g w->c.wpIn (rF rl) 0 P (PostX rl d0 X Q) a w
def Fq {ι:Type} (K:PS->ι->Prop) (Q:Exit->PS->ι->Prop):Exit->PS->ι->Prop
 | .normal,st,i=>K st i
 | e,st,i=>Q e st i
def DG {ι:Type} (id:Nat) (Q:Exit->PS->ι->Prop):Exit->PS->ι->Prop
 | .exit id',st,i=>bif Nat.beq id' id then Q .normal st i else Q (.exit id') st i
 | e,st,i=>Q e st i
def QRegX {ι:Type} (Q:Exit->PS->ι->Prop):Exit->PS->ι->Prop
 | .normal,st,i=>Q .normal st i
 | _,_,_=>False
section
variable {P:Program} {rl:Option Nat} {d0:Nat} {ι:Type} {X:ι->Gh->World->Prop} {Q:Exit->PS->ι->Prop} {i:ι}
theorem px_pw (hX:Stb (X i)) (h:∀ B w0,w0.rl=rl->PW P B w0 c (fun e s=>Q e s i) st):PX P rl d0 X c Q st i:=fun g a w ⟨hd,hr⟩ hx=>
 wpIn_mono (h _ ⟨w,g,rl,d0,hd⟩ rfl g a w hr) fun _ _ _ ⟨g',s,h1,h2⟩=>⟨g',s,i,h1.self,hX _ _ _ _ hx (fun i b hi=>(hr.blk i b hi).2) h1.evo,h2⟩
theorem Ak (h:Q .normal st i):PX P rl d0 X .skip Q st i:=fun g _ _ hs hx=>wpIn_skip ⟨g,st,i,hs,hx,h⟩
theorem FI (h:Q (.exit id) st i):PX P rl d0 X (.exit id) Q st i:=fun g _ _ hs hx=>wpIn_exit ⟨g,st,i,hs,hx,h⟩
theorem px_ret (h:Q .ret st i):PX P rl d0 X .ret Q st i:=fun g _ _ hs hx=>wpIn_ret ⟨g,st,i,hs,hx,h⟩
theorem I5 {x y:Code} (h:PX P rl d0 X x (Fq (PX P rl d0 X y Q) Q) st i):PX P rl d0 X (.seq x y) Q st i:=fun g a w hs hx=>
 wpIn_seq (wpIn_mono (h g a w hs hx) fun e a w ⟨g,s,j,h1,h2,h3⟩=>by
  cases e with
  | normal=>exact h3 g a w h1 h2
  | _=>exact⟨g,s,j,h1,h2,h3⟩)
theorem R4 (h:PX P rl d0 X c (DG id Q) st i):PX P rl d0 X (.block id c) Q st i:=fun g a w hs hx=>
 wpIn_block (wpIn_mono (h g a w hs hx) fun e _ _ ⟨g,s,j,h1,h2,h3⟩=>by
  cases e with
  | exit id'=>
   simp only[Exit.inBlock]
   by_cases e:id'=id
   . subst e
     rw[C2 rfl]
     refine⟨g,s,j,h1,h2,?_⟩
     simpa[DG,Nat.beq_refl]using h3
   . rw[B8 e]
     refine⟨g,s,j,h1,h2,?_⟩
     have:Nat.beq id' id=false:=by rw[<-Bool.not_eq_true];intro e';exact e (E5 e')
     simpa[DG,this]using h3
  | _=>exact⟨g,s,j,h1,h2,h3⟩)
theorem It {c:Operand} {x y:Code} {t:Bool} (hc:st.ev c=.d (.val (.bool t))) (h1:t=true->PX P rl d0 X x Q st i) (h2:t=false->PX P rl d0 X y Q st i):PX P rl d0 X (.cond c x y) Q st i:=fun g a w hs hx=>by
 obtain⟨hd,hr⟩:=hs
 have h:=hr.eval c
 rw[hc]at h
 have:a.eval c=.bool t:=DRep.val_eq h
 cases t with
 | true=>exact wpIn_cond_true this (h1 O g a w ⟨hd,hr⟩ hx)
 | false=>exact wpIn_cond_false this (h2 O g a w ⟨hd,hr⟩ hx)
theorem Self.le {st':PS} (hX:Stb (X i)) (h:Self rl d0 g st a w) (hx:X i g w) (hl:Le st st'):∃ g',Self rl d0 g' st' a w∧X i g' w:=by
 obtain⟨hd,hr⟩:=h
 obtain⟨g',h1⟩:=hr.le hl
 exact⟨g',h1.self,hX _ _ _ _ hx (fun i b hi=>(hr.blk i b hi).2) h1.evo⟩
theorem px_loop {κ:Type} (J:κ->PS) (f:κ->ι) (I:κ->Prop) (μ:κ->Nat) (k0:κ) (hX:∀ j,Stb (X j)) (hI:I k0) (hle:Le st (J k0)) (hf:i=f k0)
 (round:∀ k,I k->PX P rl d0 X c (Fq (fun s j=>∃ k',I k'∧μ k'<μ k∧Le s (J k')∧j=f k') Q) (J k) (f k)):PX P rl d0 X (.loop c) Q st i:=fun g a w hs hx=>by
 subst hf
 obtain⟨g',h1,h2⟩:=hs.le (hX _) hx hle
 refine AN (fun n a w=>∃ k,μ k=n∧I k ∧ ∃ g,Self rl d0 g (J k) a w∧X (f k) g w) (μ k0) ⟨k0,O,hI,g',h1,h2⟩ ?_
 rintro n a w ⟨k,rfl,hk,g,hs,hx⟩
 refine wpIn_mono (round k hk g a w hs hx) fun e a w ⟨g,s,j,h1,h2,h3⟩=>?_
 cases e with
 | normal=>
  obtain⟨k',h4,h5,h6,rfl⟩:=h3
  obtain⟨g',h7,h8⟩:=h1.le (hX _) h2 h6
  exact⟨μ k',h5,k',O,h4,g',h7,h8⟩
 | _=>exact⟨g,s,j,h1,h2,h3⟩
theorem N0 {ops:Array Oper} {R Q2:Exit->Act->World->Prop} {l':List Oper} (hne:∀ e a w,R e a w->e=.normal) (hq:∀ a w,R .normal a w->wpList P ops Q2 l' a w):∀ {l:List Oper} {a:Act} {w:World},wpList P ops R l a w->wpList P ops Q2 (l++l') a w
 | [],a,w,h=>hq a w h
 | o::l,a,w,h=>by
  rw[List.cons_append]
  unfold wpList at h ⊢
  split
  . rename_i hw
    rw[C2 hw]at h
    rcases h with h|⟨-,a',w',h⟩
    . refine .inl ?_
      unfold Oper.wp at h ⊢
      generalize (execOp a.eval o).run P w=r at h ⊢
      cases r with
      | ok x w'=>
       cases x with
       | value v=>exact N0 hne hq h
       | skip=>exact N0 hne hq h
       | defer d=>exact N0 hne hq h
       | enter f args=>
        refine h.mono fun e w'' he=>?_
        match e,he with
        | .returned v,he=>exact N0 hne hq he
        | .panicked ch,he=>exact F9 (hne _ _ _ he) (fun e=>by cases e)
        | .outgrown,⟨a1,w1,h1⟩=>exact F9 (hne _ _ _ h1) (fun e=>by cases e)
       | row row args=>exact h.mono fun v w'' he=>N0 hne hq he
       | _=>exact h.elim
      | halt x w'=>cases x<;>first|exact F9 (hne _ _ _ h) (fun e=>by cases e)|exact h.elim
    . exact F9 (hne _ _ _ h) (fun e=>by cases e)
  . rename_i hw
    rw[B8 hw]at h
    exact N0 hne hq h
end
open Go.RowKit Go.Maps Go.Sort Go.WideMaps
variable {F:Nat->Nat->Prop} {w w':World} {v:Value} {l:List Oper} {rs:List (Int×List (List DV))} {P:Program} {x:Operand} {g:Gh} {fs:List (Value×DV)} {st st':PS} {a:Act} {c:Code} {f:FuncId} {vs xs:List Value} {d0 id n E b N bo r:Nat} {o:Oper}
section
variable {ops:Array Oper} {K:PS->Prop} {rest:List Oper} {d:Option Nat} {ty:TypeId} {pos:String} {af:Array Edge} {gd:Option (Nat×Bool)}
end
section
variable {B:Nat} {w0:Cx} {Q:Exit->PS->Prop}
end
section
variable {sq:Bool} {ops:Array Oper} {K:PS->Prop} {rest:List Oper} {d:Option Nat} {ty:TypeId} {pos:String} {af:Array Edge} {gd:Option (Nat×Bool)}
end
structure HP where
 w:World
 F:Nat->Nat->Prop
 ex:Option Nat
structure HI where
 rows:List (Value×List (List UInt8))
 it:Option (Nat×List (List UInt8×DV)×List (List UInt8×DV))
 mp:Option (Nat×List (List UInt8×DV))
 fs:List (Value×DV)
structure HCo (p:HP) (fs:List (Value×DV)) (g:Gh) (w:World):Prop where
 os:w.os=p.w.os
 tape:w.tape=p.w.tape
 output:w.output=p.w.output
 size:p.w.heap.size<=w.heap.size
 block:∀ b,b<p.w.heap.size->p.ex≠some b->w.heap[b]? = p.w.heap[b]?
 f0:∀ b o,g.f0 b o->p.F b o
 new:∀ b o,p.w.heap.size<=b->p.F b o
 own:∀ b,P7 g w b->p.w.heap.size<=b
 gl:∀ q cs,F8 gs q=some cs->q<p.w.heap.size∧p.ex≠some q
 fs:∀ q∈fs,DRep (Fx g) w q.1 q.2
structure HR (E N:Nat) (rows:List (Value×List (List UInt8))) (g:Gh) (w:World):Prop where
 row:∀ (j:Nat) v xs,rows[j]? = some (v,xs)->0<xs.length∧w.ownsRow N E 1 v xs.length (xs.map vS) ∧ ∀ b,v.ownBlock=some b->¬ P7 g w b ∧ ∀ o,g.f0 b o->o<xs.length
 dis:∀ (j j':Nat) p p' b,rows[j]? = some p->rows[j']? = some p'->p.1.ownBlock=some b->p'.1.ownBlock=some b->j=j'
def HT (it:Option (Nat×List (List UInt8×DV)×List (List UInt8×DV))) (N:Nat) (g:Gh) (w:World):Prop:=
 ∀ r l dn,it=some (r,l,dn)->∃ bm es c seen cc,w.heap[r]? = some (.mapIter (some bm) c seen cc)∧AB w bm 0=some (.mp es c)∧c<=cc∧Av g w es c (K1 l)∧Vis es (K1 l) seen (K1 dn) ∧ ¬ P7 g w r∧Fx g bm 0∧N<=r∧(∀ q,dn.getLast? = some q->∃ (s0:Array Nat) (e:MapEntry),seen=s0.push e.born∧cc=c∧e∈es.toList∧e.key=vS q.1∧DRep (Fx g) w e.val q.2)
def HM (mp:Option (Nat×List (List UInt8×DV))) (p:HP) (g:Gh) (w:World):Prop:=
 ∀ bo l,mp=some (bo,l)->∃ (es:Array MapEntry) (c:Nat),w.heap[bo]? = some (.map es c)∧MapKept.Stamped es c∧es.toList.length=l.length∧(∀ (i:Nat) e q,es.toList[i]? = some e->l[i]? = some q->e.key=vS q.1 ∧ ∀ F w',DRep F w' e.val q.2) ∧ ¬ P7 g w bo∧(∀ o,¬ g.f0 bo o)∧(p.w.heap.size<=bo∨p.ex=some bo)
structure HX (E:Nat) (p:HP) (i:HI) (g:Gh) (w:World):Prop where
 co:HCo p i.fs g w
 rows:HR E p.w.heap.size i.rows g w
 it:HT i.it p.w.heap.size g w
 mp:HM i.mp p g w
theorem HCo.keep {p:HP} {g':Gh} (h:HCo p fs g w) (hos:w'.os=w.os) (ht:w'.tape=w.tape) (ho:w'.output=w.output) (hsz:w.heap.size<=w'.heap.size)
 (hb:∀ b,b<p.w.heap.size->p.ex≠some b->w'.heap[b]? = w.heap[b]?) (hf:∀ b o,g'.f0 b o->p.F b o) (hown:∀ b,P7 g' w' b->P7 g w b) (kp:Kp (Fx g) w (Fx g') w'):HCo p fs g' w':=
 ⟨hos.trans h.os,ht.trans h.tape,ho.trans h.output,E3 h.size hsz,fun b hb1 hb2=>(hb b hb1 hb2).trans (h.block b hb1 hb2),hf,h.new,fun b hb'=>h.own b (hown b hb'),h.gl,fun q hq=>(h.fs q hq).mono kp⟩
theorem HR.keep {rows:List (Value×List (List UInt8))} {g':Gh} (h:HR E N rows g w) (hb:∀ (j:Nat) v xs b,rows[j]? = some (v,xs)->v.ownBlock=some b->w'.heap[b]? = w.heap[b]? ∧ ∀ o,g'.f0 b o->g.f0 b o) (hown:∀ b,P7 g' w' b->P7 g w b):HR E N rows g' w':=
 ⟨fun j v xs hj=>by
  obtain⟨h1,h2,h3⟩:=h.row j v xs hj
  exact⟨h1,H8 h2 fun b hb'=>(hb j v xs b hj hb').1,fun b hb'=>⟨fun ho=>(h3 b hb').1 (hown b ho),fun o ho=>(h3 b hb').2 o ((hb j v xs b hj hb').2 o ho)⟩⟩,h.dis⟩
theorem HT.keep {it:Option (Nat×List (List UInt8×DV)×List (List UInt8×DV))} {g':Gh} (h:HT it N g w) (hb:∀ r l dn,it=some (r,l,dn)->w'.heap[r]? = w.heap[r]?) (hown:∀ b,P7 g' w' b->P7 g w b) (kp:Kp (Fx g) w (Fx g') w'):HT it N g' w':=fun r l dn hi=>by
 obtain⟨bm,es,c,seen,cc,h1,h2,h3,h4,h5,h6,h7,h9,h8⟩:=h r l dn hi
 obtain⟨k1,k2⟩:=kp bm 0 h7 (by rw[h2];rfl)
 refine⟨bm,es,c,seen,cc,(hb r l dn hi).trans h1,k2.trans h2,h3,h4.mono kp,h5,fun ho=>h6 (hown r ho),k1,h9,fun q hq=>?_⟩
 obtain⟨s0,e,e1,e2,e3,e4,e5⟩:=h8 q hq
 exact⟨s0,e,e1,e2,e3,e4,e5.mono kp⟩
theorem HM.keep {mp:Option (Nat×List (List UInt8×DV))} {p:HP} {g':Gh} (h:HM mp p g w) (hb:∀ bo l,mp=some (bo,l)->w'.heap[bo]? = w.heap[bo]? ∧ ∀ o,g'.f0 bo o->g.f0 bo o) (hown:∀ b,P7 g' w' b->P7 g w b):HM mp p g' w':=fun bo l hi=>by
 obtain⟨es,c,h1,h2,h3,h4,h5,h6,h7⟩:=h bo l hi
 exact⟨es,c,(hb bo l hi).1.trans h1,h2,h3,h4,fun ho=>h5 (hown bo ho),fun o ho=>h6 o ((hb bo l hi).2 o ho),h7⟩
theorem HX.stb {p:HP} (i:HI):Stb (HX E p i):=fun g w g' w' h hlt ev=>by
 have hown:∀ b,P7 g' w' b->P7 g w b:=fun b=>ev.own
 refine⟨h.co.keep ev.bel.os ev.bel.tape ev.bel.output ev.bel.size (fun b hb _=>ev.heap b fun ho=>by have:=h.co.own b ho;omega) (fun b o hf=>h.co.f0 b o (by rw[<-ev.f0];exact hf)) hown ev.fx,h.rows.keep (fun j v xs b hj hb=>⟨ev.heap b ((h.rows.row j v xs hj).2.2 b hb).1,fun o ho=>by rw[<-ev.f0];exact ho⟩) hown,h.it.keep (fun r l dn hi=>?_) hown ev.fx,h.mp.keep (fun bo l hi=>?_) hown⟩
 . obtain⟨bm,es,c,seen,cc,h1,h2,h3,h4,h5,h6,h7,h9,h8⟩:=h.it r l dn hi
   exact ev.heap r h6
 . obtain⟨es,c,h1,h2,h3,h4,h5,h6,h7⟩:=h.mp bo l hi
   exact⟨ev.heap bo h5,fun o ho=>by rw[<-ev.f0];exact ho⟩
theorem Self.chg {rl:Option Nat} (h:Self rl d0 g st a w) (F':Nat->Nat->Prop) (hsz:w.heap.size<=w'.heap.size) (h1:∀ b o,b<w.heap.size->g.f0 b o->F' b o) (h3:∀ b o,w'.heap.size<=b->F' b o)
 (h4:∀ b,b<w.heap.size->P7 g w b->w'.heap[b]? = w.heap[b]?) (h5:∀ b o,b<w.heap.size->Fx g b o->(AB w b o).isSome->AB w' b o=AB w b o) (h6:∀ q cs,F8 gs q=some cs->w'.heap[q]? = w.heap[q]?)
 (h7:∀ D:Nat,w.heap[D]? = some (.deferred (some []))->(∃ d∈a.defers,d={ target:=.collected D,args:=#[] })->w'.heap[D]? = w.heap[D]?):
 Self rl d0 { g with f0:=F' } st a w'∧Kp (Fx g) w (Fx { g with f0:=F' }) w' ∧ ∀ b,P7 { g with f0:=F' } w' b->P7 g w b:=by
 obtain⟨hd,r⟩:=h
 have kp:Kp (Fx g) w (Fx { g with f0:=F' }) w':=fun b o hf hs=>⟨⟨h1 b o (V4 hs) hf.1,hf.2.1,hf.2.2⟩,h5 b o (V4 hs) hf hs⟩
 have hown:∀ b,P7 { g with f0:=F' } w' b->P7 g w b:=fun b ho=>by
  rcases ho with ho|ho|ho
  . exact .inl (E3 hsz ho)
  . exact .inr (.inl ho)
  . exact .inr (.inr ho)
 have hbb:∀ i b,g.bl i=some b->w'.heap[b]? = w.heap[b]?:=fun i b hi=>h4 b (r.blk i b hi).2 (.inr (.inl ⟨i,hi⟩))
 have e:Ext g w { g with f0:=F' } w':=⟨kp,fun _ _ h=>h,fun _ T h=>⟨T,h,.inl rfl⟩,fun i b hi=>G5 (hbb i b hi)⟩
 refine⟨⟨E3 hd hsz,{ r with evo:=Evo.refl _ _,base:=D6 _,f0:=h3,size:=r.size,slots:=fun j=>(r.slots j).ext e,defers:=⟨r.defers.1,fun d hd'=>?_⟩,glob:=fun q cs hq=>(r.glob q cs hq).ext e,boxes:=fun i cs hi hlt=>?_,maps:=fun i ms hi hge=>?_,blk:=fun i b hi=>⟨fun o=>h1 b o (r.blk i b hi).2 ((r.blk i b hi).1 o),G2 (r.blk i b hi).2 hsz⟩,toks:=fun t T hT=>?_,tf0:=fun t T b o hT hb=>?_,gown:=fun q cs hq ho=>r.gown q cs hq (hown q ho),ghp:=fun q cs hq=>?_ }⟩,kp,hown⟩
 . obtain⟨D,q1,q2,q3,q4⟩:=r.defers.2 d hd'
   exact⟨D,q1,(h7 D q2 ⟨d,hd',q1⟩).trans q2,fun ho=>q3 (hown D ho),q4⟩
 . obtain⟨b,xs,T,q1,q2,q3,q4,q5⟩:=r.boxes i cs hi hlt
   refine⟨b,xs,T,q1,(hbb i b q1).trans q2,q3,fun j c hj=>?_,q5⟩
   obtain⟨x,q6,q7⟩:=q4 j c hj
   exact⟨x,q6,q7.ext e⟩
 . obtain⟨b,es,c,q1,q2,q3⟩:=r.maps i ms hi hge
   exact⟨b,es,c,q1,(hbb i b q1).trans q2,q3.mono kp⟩
 . obtain⟨⟨n,xs,q1⟩,q2⟩:=r.toks t T hT
   exact⟨⟨n,xs,H8 q1 fun b hb=>h4 b (q1.lt b hb).2 (.inr (.inr ⟨t,T,hT,hb⟩))⟩,q2⟩
 . obtain⟨⟨n,xs,q1⟩,q2⟩:=r.toks t T hT
   exact h1 b o (q1.lt b hb).2 (r.tf0 t T b o hT hb)
 . obtain⟨vs,q1,T,z,q2⟩:=r.ghp q cs hq
   exact⟨vs,q1,T,z,(h6 q cs hq).trans q2⟩
def PL (P:Program) (ops:Array Oper) (rl:Option Nat) (d0:Nat) {ι:Type} (X:ι->Gh->World->Prop) (K:PS->ι->Prop) (l:List Oper) (st:PS) (i:ι):Prop:=
 ∀ g a w,Self rl d0 g st a w->X i g w->wpList P ops (fun e a' w'=>e=.normal ∧ ∃ g' s j,Self rl d0 g' s a' w'∧X j g' w'∧Kp (Fx g) w (Fx g') w'∧K s j) l a w
section
variable {ops:Array Oper} {rl:Option Nat} {ι:Type} {X:ι->Gh->World->Prop} {K:PS->ι->Prop} {Q:Exit->PS->ι->Prop} {i:ι}
theorem AX {Q1 Q2:Exit->Act->World->Prop} (h:∀ e a w,Q1 e a w->Q2 e a w) (hne:∀ e a w,Q1 e a w->e=.normal) (hh:wpList P ops Q1 l a w):wpList P ops Q2 l a w:=by
 have:=N0 (Q2:=Q2) (l':=[]) hne (fun a w q=>h _ a w q) hh
 rwa [List.append_nil]at this
theorem J6 (h:K st i):PL P ops rl d0 X K [] st i:=fun g _ _ hs hx=>⟨rfl,g,st,i,hs,hx,Kp.same fun _ _ h=>h,h⟩
theorem pl_app {l':List Oper} (h:PL P ops rl d0 X (fun s j=>PL P ops rl d0 X K l' s j) l st i):PL P ops rl d0 X K (l++l') st i:=fun g a w hs hx=>
 N0 (fun _ _ _ h=>h.1) (fun a' w' ⟨_,g',_,_,h1,h2,h3,h4⟩=>AX (fun _ _ _ ⟨e,g2,s2,j2,q1,q2,q3,q4⟩=>⟨e,g2,s2,j2,q1,q2,h3.trans q3,q4⟩) (fun _ _ _ h=>h.1) (h4 g' a' w' h1 h2)) (h g a w hs hx)
theorem BU (h:PL P ops rl d0 X (fun s j=>PL P ops rl d0 X K l s j) [o] st i):PL P ops rl d0 X K (o::l) st i:=pl_app (l:=[o]) h
theorem pl_y (hX:Stb (X i)) (h:YR P true ops (fun s=>K s i) l st):PL P ops rl d0 X K l st i:=fun g _ w ⟨hd,hr⟩ hx=>
 AX (fun _ _ _ ⟨g',s,q1,e,q2⟩=>⟨e,g',s,i,q1.self,hX _ _ _ _ hx (fun i b hi=>(hr.blk i b hi).2) q1.evo,q1.evo.fx,q2⟩) (fun _ _ _ ⟨_,_,_,e,_⟩=>e) (h.sound (w0:=⟨w,g,rl,d0,hd⟩) (Q:=fun e s=>e=.normal∧K s i) (fun _ hs=>⟨rfl,hs⟩) hr)
theorem M6 (h:PL P l.toArray rl d0 X (fun s j=>Q .normal s j) l st i) (hnd:ndB l=true:=by rfl):PX P rl d0 X (.region id l.toArray false) Q st i:=fun g a w hs hx=>by
 refine wpIn_mono (wpIn_region_lit (Cy (Q:=PostX rl d0 X (QRegX Q)) (fun a w ⟨_,_,_,_,_,h⟩=>h) hnd ?_)) (fun e a w ⟨g,s,j,q1,q2,q3⟩=>by
  cases e with
  | normal=>exact⟨g,s,j,q1,q2,q3⟩
  | _=>exact q3.elim)
 exact AX (fun e _ _ ⟨h0,g',s,j,q1,q2,q3,q4⟩=>by subst h0;exact⟨g',s,j,q1,q2,q4⟩) (fun _ _ _ h=>h.1) (h g a w hs hx)
end
theorem Self.put {rl:Option Nat} (h:Self rl d0 g st a w) {x:SV} (hx:SRep g w v x) (d:Option Nat) (hd:∀ i,d=some i->i<st.n):Self rl d0 g (st.put d x) (a.put d v) w:=⟨h.1,h.2.put hx d hd⟩
theorem see_not {o:Nat} {ob:Obj} (h:w.heap[b]? = some ob) (h1:∀ xs T z,ob ≠ .cells xs T z) (h2:∀ es c,ob ≠ .map es c):AB w b o=none:=by
 unfold AB
 rw[h]
 cases ob<;>first|rfl|exact F9 rfl (h1 _ _ _)|exact F9 rfl (h2 _ _)
theorem Js {B k:Nat} (h:w.ownsRow B E k v n xs) (hb:v.ownBlock=some b):∃ cur z,w.heap[b]? = some (.cells cur E z):=by
 rcases h.2 with⟨rfl,_⟩|⟨gb,cap,cur,rfl,-,hg,-⟩
 . cases hb
 . cases hb;exact⟨_,_,hg⟩
section
variable {ops:Array Oper} {rl:Option Nat} {ι:Type} {X:ι->Gh->World->Prop} {K:PS->ι->Prop} {i:ι}
theorem Lb (hw:st.want ops o=some true) (h:∀ g a w,Self rl d0 g st a w->X i g w->∃ v w',((execOp a.eval o).run P w=.ok (.value v) w'∨((execOp a.eval o).run P w=.ok .skip w'∧v=undef)) ∧ ∃ g' s j,Self rl d0 g' s (a.put o.dst v) w'∧X j g' w'∧Kp (Fx g) w (Fx g') w'∧K s j):PL P ops rl d0 X K [o] st i:=fun g a w hs hx=>by
 obtain⟨v,w',hrun,h1⟩:=h g a w hs hx
 obtain⟨hd,hr⟩:=hs
 unfold wpList
 rw[C2 (H9 hr hw)]
 refine .inl ?_
 unfold Oper.wp
 rcases hrun with hrun|⟨hrun,rfl⟩
 . rw[hrun];exact⟨rfl,h1⟩
 . rw[hrun];exact⟨rfl,h1⟩
end
section
variable {ops:Array Oper} {rl:Option Nat} {d0 E:Nat} {p:HP} {K:PS->HI->Prop} {i:HI} {d:Option Nat} {ty:TypeId} {pos:String} {af:Array Edge} {gd:Option (Nat×Bool)}
theorem HX.put1 (hs:Self rl d0 g st a w) (hx:HX E p i g w) (r:Nat) (hos:w'.os=w.os) (ht:w'.tape=w.tape) (ho:w'.output=w.output) (hsz:w.heap.size<=w'.heap.size) (hne:∀ b,b<w.heap.size->b≠r->w'.heap[b]? = w.heap[b]?)
 (hr1:r<w.heap.size->¬ P7 g w r) (hr2:p.w.heap.size<=r∨p.ex=some r) (hr3:r<w.heap.size->∀ o,Fx g r o->AB w r o=none) (hr4:r<w.heap.size->w.heap[r]? = some (.deferred (some []))->∀ d∈a.defers,d ≠ { target:=.collected r,args:=#[] }) (hr5:r<w.heap.size->∀ cur T z,w.heap[r]? ≠ some (.cells cur T z)):
 Self rl d0 g st a w'∧Kp (Fx g) w (Fx g) w'∧HCo p i.fs g w'∧HR E p.w.heap.size i.rows g w'∧((∀ r' l dn,i.it=some (r',l,dn)->r'≠r)->HT i.it p.w.heap.size g w')∧((∀ bo l,i.mp=some (bo,l)->bo≠r)->HM i.mp p g w') ∧ ∀ b,P7 g w' b->P7 g w b:=by
 have hgl:∀ q cs,F8 gs q=some cs->q≠r:=fun q cs hq e=>by
  obtain⟨h1,h2⟩:=hx.co.gl q cs hq
  rcases hr2 with h|h
  . omega
  . exact h2 (e ▸ h)
 have hlt:∀ q cs,F8 gs q=some cs->q<w.heap.size:=fun q cs hq=>G2 (hx.co.gl q cs hq).1 hx.co.size
 obtain⟨s1,kp,hown⟩:=hs.chg g.f0 hsz (fun _ _ _ h=>h) (fun b o hb=>hs.2.f0 b o (E3 hsz hb)) (fun b hb hO=>hne b hb fun e=>hr1 (e ▸ hb) (e ▸ hO)) (fun b o hb hf hse=>by
  refine I2 (hne b hb fun e=>?_) o
  subst e
  rw[hr3 hb o hf]at hse
  cases hse) (fun q cs hq=>hne q (hlt q cs hq) (hgl q cs hq)) (fun D hD ⟨d,AV,hd2⟩=>by
   have hlt:=(D5.1 hD).1
   exact hne D hlt fun e=>by subst e;exact hr4 hlt hD d AV hd2)
 refine⟨s1,kp,hx.co.keep hos ht ho hsz (fun b hb1 hb2=>hne b (G2 hb1 hx.co.size) fun e=>?_) hx.co.f0 hown kp,hx.rows.keep (fun j v xs b hj hb=>?_) hown,fun hit=>hx.it.keep (fun r' l dn hi=>?_) hown kp,fun hmp=>hx.mp.keep (fun bo l hi=>?_) hown,hown⟩
 . rcases hr2 with h|h
   . omega
   . exact hb2 (e ▸ h)
 . obtain⟨h1,h2,h3⟩:=hx.rows.row j v xs hj
   obtain⟨cur,z,h4⟩:=Js h2 hb
   have hlt:=(h2.lt b hb).2
   exact⟨hne b hlt fun e=>hr5 (e ▸ hlt) _ _ _ (e ▸ h4),fun o h=>h⟩
 . obtain⟨bm,es,c,seen,cc,h1,-⟩:=hx.it r' l dn hi
   exact hne r' (D5.1 h1).1 (hit r' l dn hi)
 . obtain⟨es,c,h1,-⟩:=hx.mp bo l hi
   exact⟨hne bo (D5.1 h1).1 (hmp bo l hi),fun o h=>h⟩
end
section
variable {ops:Array Oper} {rl:Option Nat} {d0 E:Nat} {p:HP} {K:PS->HI->Prop} {i:HI} {d:Option Nat} {ty:TypeId} {pos:String} {af:Array Edge} {gd:Option (Nat×Bool)}
theorem Self.val (hs:Self rl d0 g st a w) (hx:st.ev x=.d (.val v)):a.eval x=v∧v.oneCell'=true:=by
 have:=hs.2.eval x
 rw[hx]at this
 generalize a.eval x=u at this
 have e:=DRep.val_eq this
 subst e
 refine⟨rfl,?_⟩
 generalize e:DV.val u=y at this
 cases this with
 | val _ h=>exact h
 | _=>cases e
end
def HMap (bo:Nat) (l:List (List UInt8×DV)) (w:World):Prop:=∃ (es:Array MapEntry) (c:Nat),w.heap[bo]? = some (.map es c)∧MapKept.Stamped es c∧es.toList.length=l.length ∧ ∀ (i:Nat) e q,es.toList[i]? = some e->l[i]? = some q->e.key=vS q.1 ∧ ∀ F w',DRep F w' e.val q.2
def HC (P:Program) (f:FuncId) (fs:List (Value×DV)) (args:List DV) (bo:Nat) (l l':List (List UInt8×DV)) (r:SV):Prop:=
 ∀ (F:Nat->Nat->Prop) (w:World) (vals:List Value),vals.length=args.length->(∀ (i:Nat) v x,vals[i]? = some v->args[i]? = some x->DRep F w v x)->GlobOk F w->(∀ q∈fs,DRep F w q.1 q.2)->(∀ o,¬ F bo o)->HMap bo l w →
  Calls P f vals.toArray w fun e w'=>∃ v,e=.returned v∧SRep (gF fun b o=>F b o∨w.heap.size<=b) w' v r∧HMap bo l' w'∧w'.os=w.os∧w'.tape=w.tape∧w'.output=w.output∧w.heap.size<=w'.heap.size ∧ ∀ b,b<w.heap.size->b≠bo->w'.heap[b]? = w.heap[b]?
section
variable {ops:Array Oper} {K:PS->Prop} {rest:List Oper} {ty:TypeId} {pos:String} {af:Array Edge} {gd:Option (Nat×Bool)}
end
section
variable {ops:Array Oper} {rl:Option Nat} {d0 E:Nat} {p:HP} {K:PS->HI->Prop} {i:HI} {d:Option Nat} {ty:TypeId} {pos:String} {af:Array Edge} {gd:Option (Nat×Bool)}
theorem M3 {f:Nat} {args:List DV} {l l':List (List UInt8×DV)} {r:SV} (hc:HC P f fs args bo l l' r) (hi:i.mp=some (bo,l)) (hfs:∀ q∈fs,q∈i.fs) (hres:DT r=true) (hd:G3 o st=true) (hw:st.want ops o=some true) (h:K (st.put o.dst r) { i with mp:=some (bo,l') })
 (hrun:∀ g a w,Self rl d0 g st a w->HX E p i g w->∃ vals:List Value,vals.length=args.length∧(∀ (i:Nat) v x,vals[i]? = some v->args[i]? = some x->DRep (Fx g) w v x)∧(execOp a.eval o).run P w=.ok (.enter f vals.toArray) w):PL P ops rl d0 (HX E p) K [o] st i:=fun g a w hs hX=>by
 obtain⟨vals,v1,v2,hrun⟩:=hrun g a w hs hX
 obtain⟨es,c,h1,h2,h3,h4,h5,h6,h7⟩:=hX.mp bo l hi
 have M3:=hc (Fx g) w vals v1 v2 hs.2.gok (fun q hq=>hX.co.fs q (hfs q hq)) (fun o ho=>h6 o ho.1) ⟨es,c,h1,h2,h3,h4⟩
 unfold wpList
 rw[C2 (H9 hs.2 hw)]
 refine .inl ?_
 unfold Oper.wp
 rw[hrun]
 show Calls P f _ w _
 refine M3.mono ?_
 rintro e w' ⟨v,rfl,r1,⟨es',c',m1,m2,m3,m4⟩,r3,r4,r5,r6,r7⟩
 obtain⟨s1,kp,c1,c2,c3,c4,hown⟩:=HX.put1 (w':=w') hs hX bo r3 r4 r5 r6 r7 (fun _=>h5) h7 (fun _ o hf=>F9 hf.1 (h6 o)) (fun _ e=>by rw[h1]at e;cases e) (fun _ _ _ _ e=>by rw[h1]at e;cases e)
 refine⟨rfl,g,_,{ i with mp:=some (bo,l') },s1.put (SRep.of_call hs.2 r1 hres) _ (F5 (st:=st) hd),⟨c1,c2,c3 fun r' l1 dn hi' e=>?_,fun bo' l1 e=>?_⟩,kp,h⟩
 . obtain⟨bm,es',c',seen,cc,t1,-⟩:=hX.it r' l1 dn hi'
   rw[e,h1]at t1
   cases t1
 . cases e
   exact⟨es',c',m1,m2,m3,m4,fun ho=>h5 (hown bo ho),h6,h7⟩
end
section
variable {rl:Option Nat} {d0 E:Nat} {p:HP} {Q:Exit->PS->HI->Prop} {i:HI}
theorem px_tell {ι:Type} {X:ι->Gh->World->Prop} {Q:Exit->PS->ι->Prop} {i:ι} (hX:Stb (X i)) (h0:∀ B w0 g a w,Rep B w0 g st a w->∃ g',Evo g w g' w∧Rep B w0 g' st' a w) (h:PX P rl d0 X c Q st' i):PX P rl d0 X c Q st i:=fun g a w ⟨hd,hr⟩ hx=>by
 obtain⟨g',h1,h2⟩:=h0 _ _ g a w hr
 exact h g' a w h2.self (hX _ _ _ _ hx (fun i b hi=>(hr.blk i b hi).2) h1)
end
/-! regions that draw their order, with loads from cells that are fixed -/
section
variable {rl:Option Nat} {d0 E:Nat} {p:HP} {b off:Nat} {us:List Value} {K:PS->HI->Prop} {i:HI} {Q:Exit->PS->HI->Prop}
end
section
variable {ops:Array Oper} {rl:Option Nat} {d0 E:Nat} {p:HP} {K:PS->HI->Prop} {K':PS->HI->Prop} {Q:Exit->PS->HI->Prop} {i:HI}
theorem KL (s i:Nat) {ms:List (Value×DV)} (hs:st.get s=.mb i) (hi:st.bget i=some [.mc ms]) (hge:Nat.ble 500000 i=true:=by rfl):∀ B w0 g a w,Rep B w0 g st a w->∃ g',Evo g w g' w∧Rep B w0 g' ((st.kill i).put (some s) (.d (.mp ms))) a w:=fun B w0 g a w hr=>by
 obtain⟨ev,hr'⟩:=hr.kill i
 have hv:=hr.slots s
 rw[hs]at hv
 obtain⟨b,q1,q2⟩:=hv
 obtain⟨b',es,ck,r1,r2,r3⟩:=hr.maps i ms hi (B0 hge)
 rw[q1]at r1
 cases r1
 have hd:DRep (Fx (g.delb i)) w (a.tmps.getD s undef) (.mp ms):=by
  rw[q2]
  refine .mp (es:=es) (ck:=ck) ?_ r3.2.1 ⟨(hr.blk i b q1).1 0,fun j hj=>?_,fun t T n' c' hT hTv=>?_⟩ r3.1 (fun k e p he hp=>(r3.2.2 k e p he hp).1) fun k e p he hp=>((r3.2.2 k e p he hp).2).mono ev.fx
  . unfold AB
    rw[r2]
  . obtain⟨h1,h2⟩:=Gh.delb_bl hj
    exact h2 (hr.inj j i b h1 q1)
  . exact F9 q1 ((hr.toks t T hT).2 i b (by rw[hTv];rfl))
 refine⟨_,ev,{ hr' with lim:=hr'.lim,size:=hr'.size,boxes:=hr'.boxes,maps:=hr'.maps,dom:=hr'.dom,tdom:=hr'.tdom,tlen:=hr'.tlen,glob:=hr'.glob,slots:=fun j=>?_ }⟩
 rw[O5]
 by_cases e:j=s
 . rw[C2 e,e];exact hd
 . rw[B8 e];exact hr'.slots j
end
section
variable {ops:Array Oper} {K:PS->Prop} {rest:List Oper} {d:Option Nat} {ty:TypeId} {pos:String} {af:Array Edge} {gd:Option (Nat×Bool)}
end
section
variable {rl:Option Nat} {d0 E:Nat} {p:HP} {us:List Value} {i:HI} {Q:Exit->PS->HI->Prop} {b off:Nat}
end
structure EP where
 w:World
 F:Nat->Nat->Prop
 ex:Nat->Prop
variable {p:EP}
abbrev EB:=List (Nat×(List Value×Nat))
structure EI where
 bs:EB
 fs:List (Value×DV)
 it:Option (Nat×List (Value×DV)×List (Value×DV))
variable {i:EI} {M:SV->EI->Prop}
def HTe (it:Option (Nat×List (Value×DV)×List (Value×DV))) (N:Nat) (g:Gh) (w:World):Prop:=
 ∀ r l dn,it=some (r,l,dn)->∃ bm es c seen cc,w.heap[r]? = some (.mapIter (some bm) c seen cc)∧AB w bm 0=some (.mp es c)∧c<=cc∧Av g w es c l∧Vis es l seen dn ∧ ¬ P7 g w r∧Fx g bm 0∧N<=r∧(∀ q,dn.getLast? = some q->∃ (s0:Array Nat) (e:MapEntry),seen=s0.push e.born∧cc=c∧e∈es.toList∧e.key=q.1∧DRep (Fx g) w e.val q.2)
theorem HTe.keep {it:Option (Nat×List (Value×DV)×List (Value×DV))} {g':Gh} (h:HTe it N g w) (hb:∀ r l dn,it=some (r,l,dn)->w'.heap[r]? = w.heap[r]?) (hown:∀ b,P7 g' w' b->P7 g w b) (kp:Kp (Fx g) w (Fx g') w'):HTe it N g' w':=fun r l dn hi=>by
 obtain⟨bm,es,c,seen,cc,h1,h2,h3,h4,h5,h6,h7,h9,h8⟩:=h r l dn hi
 obtain⟨k1,k2⟩:=kp bm 0 h7 (by rw[h2];rfl)
 refine⟨bm,es,c,seen,cc,(hb r l dn hi).trans h1,k2.trans h2,h3,h4.mono kp,h5,fun ho=>h6 (hown r ho),k1,h9,fun q hq=>?_⟩
 obtain⟨s0,e,e1,e2,e3,e4,e5⟩:=h8 q hq
 exact⟨s0,e,e1,e2,e3,e4,e5.mono kp⟩
structure HE (p:EP) (i:EI) (g:Gh) (w:World):Prop where
 os:w.os=p.w.os
 tape:w.tape=p.w.tape
 output:w.output=p.w.output
 size:p.w.heap.size<=w.heap.size
 block:∀ b,b<p.w.heap.size->¬ p.ex b->w.heap[b]? = p.w.heap[b]?
 f0:∀ b o,g.f0 b o->p.F b o
 new:∀ b o,p.w.heap.size<=b->p.F b o
 own:∀ b,P7 g w b->p.w.heap.size<=b
 gl:∀ q cs,F8 gs q=some cs->q<p.w.heap.size ∧ ¬ p.ex q
 fs:∀ q∈i.fs,DRep (Fx g) w q.1 q.2
 bs:∀ (b:Nat) (xs:List Value) (T:Nat),F8 i.bs b=some (xs,T)->w.heap[b]? = some (.cells xs.toArray T (0,0)) ∧ ¬ P7 g w b∧(∀ k,¬ g.f0 b k)∧(p.w.heap.size<=b∨p.ex b)
 it:HTe i.it p.w.heap.size g w
theorem HE.stb (i:EI):Stb (HE p i):=fun g w g' w' h hlt ev=>by
 have hown:∀ b,P7 g' w' b->P7 g w b:=fun b=>ev.own
 refine⟨ev.bel.os.trans h.os,ev.bel.tape.trans h.tape,ev.bel.output.trans h.output,E3 h.size ev.bel.size,fun b hb hx=>(ev.heap b fun ho=>by have:=h.own b ho;omega).trans (h.block b hb hx),fun b o hf=>h.f0 b o (by rw[<-ev.f0];exact hf),h.new,fun b ho=>h.own b (hown b ho),h.gl,fun q hq=>(h.fs q hq).mono ev.fx,fun b xs T hb=>?_,h.it.keep (fun r l dn hi=>?_) hown ev.fx⟩
 . obtain⟨h1,h2,h3,h4⟩:=h.bs b xs T hb
   exact⟨(ev.heap b h2).trans h1,fun ho=>h2 (hown b ho),fun k hk=>h3 k (by rw[<-ev.f0];exact hk),h4⟩
 . obtain⟨bm,es,c,seen,cc,h1,h2,h3,h4,h5,h6,-⟩:=h.it r l dn hi
   exact ev.heap r h6
def ExV (vs:List Value) (ds:List DV):Prop:=∀ (j:Nat) u v,vs[j]? = some u->ds[j]? = some (.val v)->u=v
section
variable {rl:Option Nat} {i i':EI} {w w':World}
theorem HE.turn (hs:Self rl d0 g st a w) (hx:HE p i g w) (hos:w'.os=w.os) (ht:w'.tape=w.tape) (ho:w'.output=w.output) (hsz:w.heap.size<=w'.heap.size)
 (hne:∀ b,b<w.heap.size->F8 i.bs b=none->w'.heap[b]? = w.heap[b]?)
 (hb:∀ (b:Nat) (xs:List Value) (T:Nat),F8 i'.bs b=some (xs,T)->w'.heap[b]? = some (.cells xs.toArray T (0,0))∧(F8 i.bs b≠none∨w.heap.size<=b))
 (hf:∀ q∈i'.fs,q∈i.fs∨DRep (Fx g) w q.1 q.2∨DRep (Fx { g with f0:=fun b o=>g.f0 b o∧F8 i'.bs b=none }) w' q.1 q.2) (hit:i'.it=i.it):
 Self rl d0 { g with f0:=fun b o=>g.f0 b o∧F8 i'.bs b=none } st a w'∧Kp (Fx g) w (Fx { g with f0:=fun b o=>g.f0 b o∧F8 i'.bs b=none }) w'∧HE p i' { g with f0:=fun b o=>g.f0 b o∧F8 i'.bs b=none } w':=by
 have hr:=hs.2
 have hid:∀ b,F8 i.bs b≠none->∃ (xs:List Value) (T:Nat),w.heap[b]? = some (.cells xs.toArray T (0,0)) ∧ ¬ P7 g w b∧(∀ k,¬ g.f0 b k)∧(p.w.heap.size<=b∨p.ex b):=fun b hb=>by
  cases e:F8 i.bs b with
  | none=>exact F9 e hb
  | some q=>obtain⟨xs,T⟩:=q;exact⟨xs,T,hx.bs b xs T e⟩
 have none_of:∀ b,((∃ (xs:List Value) (T:Nat),w.heap[b]? = some (.cells xs.toArray T (0,0)) ∧ ¬ P7 g w b∧(∀ k,¬ g.f0 b k)∧(p.w.heap.size<=b∨p.ex b))->False)->F8 i.bs b=none:=fun b h=>by
  cases e:F8 i.bs b with
  | none=>rfl
  | some q=>exact(h (hid b (by rw[e];simp))).elim
 obtain⟨s1,kp,hown⟩:=hs.chg (w':=w') (fun b o=>g.f0 b o∧F8 i'.bs b=none) hsz (fun b o hlt hf0=>⟨hf0,by
  cases e:F8 i'.bs b with
  | none=>rfl
  | some q=>
   obtain⟨xs,T⟩:=q
   rcases(hb b xs T e).2 with h1|h1
   . obtain⟨_,_,_,_,h3,_⟩:=hid b h1;exact F9 hf0 (h3 o)
   . omega⟩) (fun b o hlt=>⟨hr.f0 b o (E3 hsz hlt),by
  cases e:F8 i'.bs b with
  | none=>rfl
  | some q=>obtain⟨xs,T⟩:=q;have:=(D5.1 (hb b xs T e).1).1;omega⟩) (fun b hlt hO=>hne b hlt (none_of b fun⟨_,_,_,h2,_⟩=>h2 hO)) (fun b o hlt hF hse=>I2 (hne b hlt (none_of b fun⟨_,_,_,_,h3,_⟩=>h3 o hF.1)) o) (fun q cs hq=>hne q (G2 (hx.gl q cs hq).1 hx.size) (none_of q fun⟨_,_,_,_,_,h4⟩=>by
  obtain⟨h5,h6⟩:=hx.gl q cs hq
  rcases h4 with h4|h4
  . omega
  . exact h6 h4)) (fun D hD _=>hne D (D5.1 hD).1 (none_of D fun⟨_,_,h1,_⟩=>by rw[hD]at h1;cases h1))
 refine⟨s1,kp,hos.trans hx.os,ht.trans hx.tape,ho.trans hx.output,E3 hx.size hsz,fun b hb1 hb2=>(hne b (G2 hb1 hx.size) (none_of b fun⟨_,_,_,_,_,h4⟩=>?_)).trans (hx.block b hb1 hb2),fun b o hf=>hx.f0 b o hf.1,hx.new,fun b hO=>hx.own b (hown b hO),hx.gl,fun q hq=>?_,fun b xs T e=>?_,hit ▸ hx.it.keep (fun r l dn hi=>?_) hown kp⟩
 . rcases h4 with h4|h4
   . omega
   . exact hb2 h4
 . rcases hf q hq with h1|h1|h1
   . exact(hx.fs q h1).mono kp
   . exact h1.mono kp
   . exact h1
 . obtain⟨h1,h2⟩:=hb b xs T e
   refine⟨h1,fun hO=>?_,fun k hk=>?_,?_⟩
   . rcases h2 with h2|h2
     . obtain⟨_,_,_,h3,_⟩:=hid b h2
       exact h3 (hown b hO)
     . have hlt:=(D5.1 h1).1
       rcases hO with h3|⟨j,h3⟩|⟨t,T',h3,h4⟩
       . omega
       . have:=(hr.blk j _ h3).2;omega
       . obtain⟨⟨n',xs',h5⟩,-⟩:=hr.toks t T' h3
         have:=(h5.lt _ h4).2
         omega
   . rw[hk.2]at e;cases e
   . rcases h2 with h2|h2
     . obtain⟨_,_,_,_,_,h3⟩:=hid b h2;exact h3
     . exact .inl (E3 hx.size h2)
 . obtain⟨bm,es,c,seen,cc,h1,-⟩:=hx.it r l dn hi
   exact hne r (D5.1 h1).1 (none_of r fun⟨_,_,h2,_⟩=>by rw[h1]at h2;cases h2)
theorem HE.put1 (hs:Self rl d0 g st a w) (hx:HE p i g w) (r:Nat) {ob:Obj} (hr0:w.heap[r]? = some ob) (hnc:∀ xs T z,ob ≠ .cells xs T z) (hnm:∀ es c,ob ≠ .map es c) (hos:w'.os=w.os) (ht:w'.tape=w.tape) (ho:w'.output=w.output) (hsz:w.heap.size<=w'.heap.size) (hne:∀ b,b<w.heap.size->b≠r->w'.heap[b]? = w.heap[b]?)
 (hr1:¬ P7 g w r) (hr2:p.w.heap.size<=r) (hr4:w.heap[r]? = some (.deferred (some []))->∀ d∈a.defers,d ≠ { target:=.collected r,args:=#[] }):
 Self rl d0 g st a w'∧Kp (Fx g) w (Fx g) w'∧(∀ b,P7 g w' b->P7 g w b) ∧ ∀ it',HTe it' p.w.heap.size g w'->HE p ⟨i.bs,i.fs,it'⟩ g w':=by
 have hlt:∀ q cs,F8 gs q=some cs->q<w.heap.size:=fun q cs hq=>G2 (hx.gl q cs hq).1 hx.size
 obtain⟨s1,kp,hown⟩:=hs.chg g.f0 hsz (fun _ _ _ h=>h) (fun b o hb=>hs.2.f0 b o (E3 hsz hb)) (fun b hb hO=>hne b hb fun e=>hr1 (e ▸ hO)) (fun b o hb hf hse=>by
  refine I2 (hne b hb fun e=>?_) o
  subst e
  rw[see_not hr0 hnc hnm]at hse
  cases hse) (fun q cs hq=>hne q (hlt q cs hq) fun e=>by have:=(hx.gl q cs hq).1;omega) (fun D hD ⟨d,AV,hd2⟩=>hne D (D5.1 hD).1 fun e=>by subst e;exact hr4 hD d AV hd2)
 refine⟨s1,kp,hown,fun it' hit=>⟨hos.trans hx.os,ht.trans hx.tape,ho.trans hx.output,E3 hx.size hsz,fun b hb1 hb2=>(hne b (G2 hb1 hx.size) fun e=>by omega).trans (hx.block b hb1 hb2),hx.f0,hx.new,fun b hO=>hx.own b (hown b hO),hx.gl,fun q hq=>(hx.fs q hq).mono kp,fun b xs T e=>?_,hit⟩⟩
 obtain⟨h1,h2,h3,h4⟩:=hx.bs b xs T e
 refine⟨(hne b (D5.1 h1).1 fun e=>?_).trans h1,fun hO=>h2 (hown b hO),h3,h4⟩
 rw[e,hr0]at h1
 exact hnc _ _ _ (G4 h1)
theorem HE.below (hs:Self rl d0 g st a w) (hx:HE p i g w) (hb:Below w.heap.size w w'):
 Self rl d0 g st a w'∧Kp (Fx g) w (Fx g) w'∧(∀ b,P7 g w' b->P7 g w b) ∧ ∀ it',HTe it' p.w.heap.size g w'->HE p ⟨i.bs,i.fs,it'⟩ g w':=by
 have hlt:∀ q cs,F8 gs q=some cs->q<w.heap.size:=fun q cs hq=>G2 (hx.gl q cs hq).1 hx.size
 obtain⟨s1,kp,hown⟩:=hs.chg g.f0 hb.size (fun _ _ _ h=>h) (fun b o h=>hs.2.f0 b o (E3 hb.size h)) (fun b h _=>hb.block b h) (fun b o h _ _=>I2 (hb.block b h) o) (fun q cs hq=>hb.block q (hlt q cs hq)) (fun D hD _=>hb.block D (D5.1 hD).1)
 refine⟨s1,kp,hown,fun it' hit=>⟨hb.os.trans hx.os,hb.tape.trans hx.tape,hb.output.trans hx.output,E3 hx.size hb.size,fun b hb1 hb2=>(hb.block b (G2 hb1 hx.size)).trans (hx.block b hb1 hb2),hx.f0,hx.new,fun b hO=>hx.own b (hown b hO),hx.gl,fun q hq=>(hx.fs q hq).mono kp,fun b xs T e=>?_,hit⟩⟩
 obtain⟨h1,h2,h3,h4⟩:=hx.bs b xs T e
 exact⟨(hb.block b (D5.1 h1).1).trans h1,fun hO=>h2 (hown b hO),h3,h4⟩
end
/-! operations -/
def LN:List Value->Nat->List Value->List Value
 | xs,_,[]=>xs
 | xs,o,v::vs=>LN (xs.set o v) (o+1) vs
section
variable {ops:Array Oper} {rl:Option Nat} {K:PS->EI->Prop} {d:Option Nat} {ty:TypeId} {pos:String} {af:Array Edge} {gd:Option (Nat×Bool)}
end
/-! operations on exact values, without memory -/
section
variable {sq:Bool} {ops:Array Oper} {K:PS->Prop} {rest:List Oper} {d:Option Nat} {ty:TypeId} {pos:String} {af:Array Edge} {gd:Option (Nat×Bool)}
end
theorem Co {fn:Func} {R:Ending->World->Prop} {tmps:Array Value}
 (hR:∀ w2,Self none p.w.heap.size g st { tmps:=tmps,defers:=[] } w2->HE p i g w2->∃ v,(results fn tmps).run P w2=.ok v w2∧R (.returned v) w2):
 ∀ (ds:List Deferred) (w:World),Self none p.w.heap.size g st { tmps:=tmps,defers:=ds } w->HE p i g w->LeavesInM Fence.wide 0 P fn tmps R ds .returning w:=by
 intro ds
 induction ds with
 | nil=>exact fun w h hx=>hR w h hx
 | cons d ds ih=>
  intro w h hx
  obtain⟨hnd,hd⟩:=h.2.defers
  obtain⟨D,h1,h2,h3,h4⟩:=hd d (List.mem_cons_self ..)
  have hnd2:=List.nodup_cons.1 hnd
  refine⟨fun e=>(by cases e),.inl ⟨D,w.putObj D (.deferred none),by rw[h1],run_takeDeferred h2,?_⟩⟩
  have h5:Self none p.w.heap.size g st { tmps:=tmps,defers:=ds } w:=⟨h.1,h.2.mark (ds:=ds) ⟨hnd2.2,fun d' hd'=>hd d' (List.mem_cons_of_mem _ hd')⟩⟩
  obtain⟨s1,kp,hown,c1⟩:=HE.put1 (w':=w.putObj D (.deferred none)) h5 hx D h2 (fun _ _ _ e=>by cases e) (fun _ _ e=>by cases e) rfl rfl rfl (by simp) (fun b _ hb=>World.putObj_heap_other hb) h3 h4 (fun _ d' hd' e=>hnd2.1 (by rw[h1,<-e];exact hd'))
  refine ih _ s1 (c1 i.it (hx.it.keep (fun r' l dn hi=>World.putObj_heap_other fun e=>?_) hown kp))
  obtain⟨bm,es,c,seen,cc,t1,-⟩:=hx.it r' l dn hi
  rw[e,h2]at t1
  cases t1
def QRe (P:Program) (rs:List ResultVar) (M:SV->EI->Prop):Exit->PS->EI->Prop:=fun e s j=>∃ r,IY P rs r e s∧M r j
theorem HB {fn:Func} {rs:List ResultVar} {args:List DV} (hf:P.funcs[f]? = some fn) (hb:fn.body=some c) (hn:fn.ntmps=n) (hrs:fn.results=rs.toArray) (hl:args.length<=n) (hlim:n<=10000)
 {vals:List Value} (hvl:vals.length=args.length) (hv:∀ (i:Nat) v x,vals[i]? = some v->args[i]? = some x->DRep F w v x) (hgo:GlobOk F w) (hpw:p.w=w) {F0:Nat->Nat->Prop} (hF0:∀ b o,F b o->F0 b o) (hF1:∀ b o,w.heap.size<=b->F0 b o) {i0:EI} (hX:HE p i0 (gF F0) w)
 (h:PX P none w.heap.size (HE p) c (QRe P rs M) ⟨n,CU 0 args,[],[]⟩ i0):Calls P f vals.toArray w fun e w'=>∃ v g j r,e=.returned v∧SRep (gF fun b o=>p.F b o∧F8 j.bs b=none) w' v r∧HE p j g w'∧M r j:=by
 refine T4 hf hb ?_
 have hrep:Rep w.heap.size ⟨w,gF F0,none,w.heap.size,D6 _⟩ (gF F0) ⟨n,CU 0 args,[],[]⟩ { tmps:=vals.toArray++Array.replicate (fn.ntmps-vals.toArray.size) undef,defers:=[] } w:=by
  refine { evo:=Evo.refl _ _,base:=D6 _,f0:=fun b o h=>hF1 b o h,lim:=hlim,size:=by simp;omega,defers:=Dfr.nil _ _ _,slots:=fun i=>?_,boxes:=fun i cs hi=>(by cases hi),maps:=fun i ms hi=>(by cases hi),blk:=fun i b hi=>(by cases hi),dom:=fun i b hi=>(by cases hi),inj:=fun i j b hi=>(by cases hi),toks:=fun t T hT=>(by cases hT),tf0:=fun t T b o hT=>(by cases hT),telt:=fun t T hT=>(by cases hT),tdis:=fun t t' T T' b h1=>(by cases h1),tdom:=fun t T hT=>(by cases hT),tlen:=fun t n ht=>(by cases ht),glob:=hgo.rep (Kp.same fun b o hF=>Fx.gF (hF0 b o hF)),gown:=hgo.own,ghp:=fun q cs hq=>(hgo q cs hq).2 }
  unfold PS.get
  simp only[CW,D4,if_true,Nat.sub_zero]
  cases hx:args[i]? with
  | none=>trivial
  | some x=>
   have hlt:i<vals.length:=by rw[hvl];exact(A6.1 hx).1
   have h1:=hv i _ x (A4 hlt) hx
   have h2:(vals.toArray++Array.replicate (fn.ntmps-vals.toArray.size) undef).getD i undef=vals[i]:=by
    simp[Array.getD,hlt]
    omega
   simp only[Option.map_some]
   show DRep _ w _ x
   rw[h2]
   exact h1.mono (Kp.same fun b o hF=>Fx.gF (hF0 b o hF))
 refine wpIn_mono (h _ _ w ⟨D6 _,hrep⟩ hX) fun e a' w' ⟨g,st,j,h1,h2,r,h3,h4⟩=>?_
 have fin:(∃ xs,ResV P st rs xs∧r=P2 xs)->LeavesInM Fence.wide 0 P fn a'.tmps (fun e w'=>∃ v g j r,e=.returned v∧SRep (gF fun b o=>p.F b o∧F8 j.bs b=none) w' v r∧HE p j g w'∧M r j) a'.defers .returning w':=by
  rintro⟨xs,hres,rfl⟩
  have h1':Self none p.w.heap.size g st a' w':=by rw[hpw];exact h1
  refine Co (i:=j) (fun w' h1 hx'=>?_) a'.defers w' h1' h2
  obtain⟨vs,h4',h5,h6⟩:=Ad h1.2 hres
  have hrun:(results fn a'.tmps).run P w'=.ok (if h:vs.toArray.size=1 then vs.toArray[0]else .tuple vs.toArray) w':=by
   rw[show results fn a'.tmps=(fn.results.mapM (Dy a'.tmps) >>= fun vs=>pure (if h:vs.size=1 then vs[0]else .tuple vs))from rfl,hrs,Array.mapM_eq_mapM_toList]
   simp only[Sem.run_bind,Sem.run_map]
   rw[h4']
   rfl
  have h7:∀ (i:Nat) v x,vs[i]? = some v->xs[i]? = some x->DRep (Fx (gF fun b o=>p.F b o∧F8 j.bs b=none)) w' v x:=fun i v x hv hx=>
   (h6 i v x hv hx).mono (Kp.same fun b o hf=>Fx.gF ⟨hx'.f0 b o hf.1,by
    cases e:F8 j.bs b with
    | none=>rfl
    | some q=>obtain⟨ys,T⟩:=q;exact F9 hf.1 ((hx'.bs b ys T e).2.2.1 o)⟩)
  refine⟨_,hrun,_,g,j,_,O,?_,hx',h4⟩
  match vs,xs,h5,h7 with
  | [],[],_,_=>exact⟨[],O,O,fun i y x hy=>by simp at hy⟩
  | [v],[x],_,h7=>exact h7 0 v x O O
  | v::v'::vs,x::x'::xs,h5,h7=>exact⟨v::v'::vs,by simp,h5,h7⟩
 cases e with
 | normal=>exact fin h3
 | ret=>exact fin h3
 | _=>exact h3.elim
theorem own_gF (h:P7 (gF F) w b):w.heap.size<=b:=by
 rcases h with h|⟨i,h⟩|⟨t,T,h,-⟩
 . exact h
 . cases h
 . cases h
theorem glob_lt (hgo:GlobOk F w) {q:Nat} {cs:List DV} (hq:F8 gs q=some cs):q<w.heap.size:=by
 obtain⟨vs,-,T,z,h2⟩:=(hgo q cs hq).2
 exact(D5.1 h2).1
theorem FO {fn:Func} {rs:List ResultVar} {args:List DV} {r:SV} (hf:P.funcs[f]? = some fn) (hb:fn.body=some c) (hn:fn.ntmps=n) (hrs:fn.results=rs.toArray) (hl:args.length<=n)
 (h:∀ p d0,(∀ b,¬ p.ex b)->PX P none d0 (HE p) c (QRe P rs fun r' _=>r'=r) ⟨n,CU 0 args,[],[]⟩ ⟨[],[],none⟩) (hlim:Nat.ble n 10000=true:=by rfl) (hres:DT r=true:=by rfl):PCalls P f args r:=by
 intro F w vals hvl hv hgo
 obtain⟨p,hp⟩:∃ p:EP,p=⟨w,fun b o=>F b o∨w.heap.size<=b,fun _=>False⟩:=⟨_,rfl⟩
 have hX:HE p ⟨[],[],none⟩ (gF fun b o=>F b o∨w.heap.size<=b) w:=by
  subst hp
  exact⟨rfl,rfl,rfl,D6 _,fun _ _ _=>rfl,fun _ _ h=>h,fun _ _ h=>.inr h,fun b ho=>own_gF ho,fun q cs hq=>⟨glob_lt hgo hq,fun h=>h⟩,fun q hq=>by simp at hq,fun b xs T e=>(by cases e),fun r l dn e=>(by cases e)⟩
 refine(HB hf hb hn hrs hl (B0 hlim) hvl hv hgo (p:=p) (by rw[hp]) (fun b o h=>.inl h) (fun b o h=>.inr h) hX (h p _ (by rw[hp];exact fun _ h=>h))).mono ?_
 rintro e w' ⟨v,g,j,r',rfl,h1,h2,rfl⟩
 subst hp
 refine⟨v,O,?_,h2.os,h2.tape,h2.output,h2.size,fun b hb=>h2.block b hb fun h=>h⟩
 have kp:Kp (Fx (gF fun b o=>(F b o∨w.heap.size<=b)∧F8 j.bs b=none)) w' (Fx (gF fun b o=>F b o∨w.heap.size<=b)) w':=Kp.same fun b o hf=>Fx.gF hf.1.1
 cases r' with
 | d x=>exact DRep.mono h1 kp
 | tup xs=>
  obtain⟨vs,q1,q2,q3⟩:=h1
  exact⟨vs,q1,q2,fun i y x hy hx=>(q3 i y x hy hx).mono kp⟩
 | any=>trivial
 | _=>cases hres
def EMem (F:Nat->Nat->Prop) (i:EI) (w:World):Prop:=
 (∀ (b:Nat) (xs:List Value) (T:Nat),F8 i.bs b=some (xs,T)->w.heap[b]? = some (.cells xs.toArray T (0,0)) ∧ ∀ k,¬ F b k)∧(∀ q∈i.fs,DRep F w q.1 q.2) ∧ ∀ q cs,F8 gs q=some cs->F8 i.bs q=none
def EF (F:Nat->Nat->Prop) (w:World) (j:EI) (b o:Nat):Prop:=(F b o∨w.heap.size<=b)∧F8 j.bs b=none
def HCE (P:Program) (f:FuncId) (args:List DV) (i:EI) (M:SV->EI->Prop):Prop:=
 ∀ (F:Nat->Nat->Prop) (w:World) (vals:List Value),vals.length=args.length->(∀ (j:Nat) v x,vals[j]? = some v->args[j]? = some x->DRep F w v x)->GlobOk F w->EMem F i w →
  Calls P f vals.toArray w fun e w'=>∃ v r j,e=.returned v∧M r j∧SRep (gF (EF F w j)) w' v r∧(∀ q∈j.fs,DRep (EF F w j) w' q.1 q.2) ∧
   (∀ (b:Nat) (xs:List Value) (T:Nat),F8 j.bs b=some (xs,T)->w'.heap[b]? = some (.cells xs.toArray T (0,0))∧(F8 i.bs b≠none∨w.heap.size<=b))∧w'.os=w.os∧w'.tape=w.tape∧w'.output=w.output∧w.heap.size<=w'.heap.size ∧ ∀ b,b<w.heap.size->F8 i.bs b=none->w'.heap[b]? = w.heap[b]?
theorem HCE.mono {args:List DV} {M':SV->EI->Prop} (h:HCE P f args i M) (hm:∀ r j,M r j->M' r j):HCE P f args i M':=fun F w vals h1 h2 h3 h4=>(h F w vals h1 h2 h3 h4).mono fun _ _ ⟨v,r,j,e,q,hh⟩=>⟨v,r,j,e,hm _ _ q,hh⟩
def RH (f:Nat) (caps:List DV) (F:Nat->Nat->Prop) (w:World) (v:Value):Prop:=∃ vs:List Value,v=.func (.func f) #[] vs.toArray∧vs.length=caps.length ∧ ∀ (j:Nat) u x,vs[j]? = some u->caps[j]? = some x->DRep F w u x
abbrev dH (f:Nat) (caps:List DV):DV:=.abs (RH f caps)
section
variable {ops:Array Oper} {rl:Option Nat} {K:PS->EI->Prop} {d:Option Nat} {ty:TypeId} {pos:String} {af:Array Edge} {gd:Option (Nat×Bool)}
end
section
variable {sq:Bool} {ops:Array Oper} {K:PS->Prop} {rest:List Oper} {d:Option Nat} {ty:TypeId} {pos:String} {af:Array Edge} {gd:Option (Nat×Bool)}
end
/-! hidden memory begins and ends -/
section
variable {ops:Array Oper} {rl:Option Nat} {K:PS->EI->Prop} {Q:Exit->PS->EI->Prop}
end
/-! short words -/
section
variable {ops:Array Oper} {rl:Option Nat} {K:PS->EI->Prop} {Q:Exit->PS->EI->Prop}
theorem N8 (h:YR P true ops (fun s=>PL P ops rl d0 (HE p) K l s i) [o] st):PL P ops rl d0 (HE p) K (o::l) st i:=BU (pl_y (HE.stb i) h)
theorem DX {c:Operand} {x y:Code} (hc:st.ev c=.d (.val (.bool true))) (h:PX P rl d0 (HE p) x Q st i):PX P rl d0 (HE p) (.cond c x y) Q st i:=It hc (fun _=>h) fun e=>by cases e
theorem Ix {c:Operand} {x y:Code} (hc:st.ev c=.d (.val (.bool false))) (h:PX P rl d0 (HE p) y Q st i):PX P rl d0 (HE p) (.cond c x y) Q st i:=It hc (fun e=>by cases e) fun _=>h
theorem U8 (h:K st i):Fq K Q .normal st i:=h
theorem Hm (h:Q .normal st i):DG id Q .normal st i:=h
theorem LS {rs:List ResultVar} (xs:List DV) (h:ResV P st rs xs) (hM:M (P2 xs) i):QRe P rs M .ret st i:=⟨_,⟨xs,h,rfl⟩,hM⟩
theorem Ld {κ:Type} (J:κ->PS) (f:κ->EI) (I:κ->Prop) (μ:κ->Nat) (k0:κ) (hI:I k0) (hf:i=f k0) (hle:Le st (J k0))
 (round:∀ k,I k->PX P rl d0 (HE p) c (Fq (fun s j=>∃ k',I k'∧μ k'<μ k∧Le s (J k')∧j=f k') Q) (J k) (f k)):PX P rl d0 (HE p) (.loop c) Q st i:=px_loop J f I μ k0 HE.stb hI hle hf round
theorem Lc (h:∀ B w0,w0.rl=rl->PW P B w0 c (fun e s=>Q e s i) st):PX P rl d0 (HE p) c Q st i:=px_pw (HE.stb i) h
end
class MapTy (P:Program) (T:Nat):Prop where
 und:∃ kt et,P.underlying T=some (.map kt et)
theorem Vis.permG {es:Array MapEntry} {l dn:List (Value×DV)} {seen:Array Nat} (h:Vis es l seen dn) (hl:es.size=l.length):∃ rl,(dn++rl).Perm l:=by
 obtain⟨D,R,h1,-,h3⟩:=h
 refine⟨R.map (·.2),?_⟩
 have h4:=h1.map (·.2)
 rw[List.map_snd_zip (by simp[hl]),List.map_append,<-h3]at h4
 exact h4
section
variable {ops:Array Oper} {rl:Option Nat} {K:PS->EI->Prop} {Q:Exit->PS->EI->Prop} {d:Option Nat} {ty:TypeId} {pos:String} {af:Array Edge} {gd:Option (Nat×Bool)}
theorem pl_rge {T:Nat} {l:List (Value×DV)} [hM:MapTy P T] (hx:st.ev x=.d (.mp l))
 (h:∀ r,K (st.put d (.d (.val (.pointer (some ⟨r,0,none⟩))))) ⟨i.bs,i.fs,some (r,l,[])⟩) (hd:G3 ⟨d,.range T x,ty,pos,af,gd⟩ st=true:=by kernel_rfl) (hw:st.want ops ⟨d,.range T x,ty,pos,af,gd⟩=some true:=by rfl):
 PL P ops rl d0 (HE p) K [⟨d,.range T x,ty,pos,af,gd⟩] st i:=Lb hw fun g a w hs hX=>by
 have h1:=hs.2.eval x
 rw[hx]at h1
 obtain⟨bm,es,c,q1,q2,q3,q4,q5,q6⟩:=DRep.mapd h1
 obtain⟨kt,et,m1⟩:=hM.und
 have hlt:bm<w.heap.size:=(D5.1 q2).1
 have hb1:Below w.heap.size w (w.alloc (.mapIter (some bm) c #[] c)):=(Below.refl _ w).alloc (D6 _) _
 obtain⟨s1,kp,hown,c1⟩:=HE.below hs hX hb1
 refine⟨_,_,.inl ?_,g,_,⟨i.bs,i.fs,some (w.heap.size,l,[])⟩,s1.put (x:=.d (.val _)) (DRep.val _ O) _ (F5 (st:=st) hd),c1 _ fun r l' dn e=>?_,kp,h _⟩
 . show(execOp a.eval ⟨d,.range T x,ty,pos,af,gd⟩).run P w=_
   simp only[execOp,q1,Sem.run_bind,run_range_map w T kt et bm es c m1 q2,C1,Sem.run_pure]
 . cases e
   have hsee:AB (w.alloc (.mapIter (some bm) c #[] c)) bm 0=some (.mp es c):=by
    rw[I2 (hb1.block bm hlt)]
    unfold AB
    rw[q2]
   refine⟨bm,es,c,#[],c,World.alloc_heap_new w _,hsee,D6 _,Av.mono ⟨q5,q4,q6⟩ kp,Vis.start es _,fun ho=>?_,(kp bm 0 q3 (by unfold AB;rw[q2];rfl)).1,hX.size,fun q hq=>by cases hq⟩
   obtain⟨nb,nt⟩:=hs.2.not_tok (D6 w.heap.size)
   rcases ho with h2|⟨j,h2⟩|⟨t,T',h2,h3⟩
   . have:(w.alloc (.mapIter (some bm) c #[] c)).heap.size=w.heap.size+1:=by simp
     omega
   . exact nb j h2
   . exact nt t T' h2 h3
theorem pl_nxe {l dn:List (Value×DV)} (hi:i.it=some (r,l,dn)) (hx:st.ev x=.d (.val (.pointer (some ⟨r,0,none⟩)))) (h0:dn.Perm l->K (st.put d (.tup [dB false])) i)
 (h1:∀ k v rl,(k,v)∈l->(dn++(k,v)::rl).Perm l->k.oneCell'=true->K (st.put d (.tup [dB true,.val k,v])) ⟨i.bs,i.fs,some (r,l,dn++[(k,v)])⟩) (hone:∀ q∈l,q.1.oneCell'=true) (hd:G3 ⟨d,.next x false,ty,pos,af,gd⟩ st=true:=by kernel_rfl) (hw:st.want ops ⟨d,.next x false,ty,pos,af,gd⟩=some true:=by rfl):
 PL P ops rl d0 (HE p) K [⟨d,.next x false,ty,pos,af,gd⟩] st i:=Lb hw fun g a w hs hX=>by
 have hv:=(hs.val hx).1
 obtain⟨bm,es,c,seen,cc,t1,t2,t3,t4,t5,t6,t7,t9,t8⟩:=hX.it r l dn hi
 have t2':=FD t2
 rcases run_next_at (P:=P) w ty r bm c cc seen es c t1 t2' t4.2.1.1 t3 with⟨e0,hrun⟩|⟨e,he,w1,hw1,hrun⟩
 . refine⟨_,w,.inl (by
    show(execOp a.eval ⟨d,.next x false,ty,pos,af,gd⟩).run P w=_
    simp only[execOp,hv,Sem.run_bind,hrun,C1,Sem.run_pure]),g,_,i,hs.put (x:=.tup [dB false]) ⟨[.bool false],rfl,rfl,fun j u y hu hy=>?_⟩ _ (F5 (st:=st) hd),hX,Kp.same fun _ _ h=>h,h0 (t5.done t4.1 t4.2.1.2.1 e0)⟩
   match j with
   | 0=>cases hu;cases hy;exact DRep.val _ O
   | j+1=>simp at hu
 . obtain⟨⟨k,v⟩,hq1,hq2⟩:=t5.step t4.1 he
   have hmem:(k,v)∈l:=(List.of_mem_zip hq1).2
   have hk1:=hone _ hmem
   obtain⟨rl,hrl⟩:=hq2.permG t4.1
   rw[E8]at hrl
   obtain⟨j,hj⟩:=List.mem_iff_getElem?.1 hq1
   have hjj:=List.getElem?_zip_eq_some.1 hj
   have hek:=t4.2.2 j e _ (by simpa using hjj.1) hjj.2
   have hh:w1.heap=w.heap:=by rcases hw1 with rfl|rfl<;>rfl
   have hrlt:r<w1.heap.size:=by rw[hh];exact(D5.1 t1).1
   have hsz:(w1.putObj r (.mapIter (some bm) c (seen.push e.born) c)).heap.size=w.heap.size:=by rw[World.putObj_size,hh]
   obtain⟨s1,kp,hown,c1⟩:=HE.put1 (w':=w1.putObj r (.mapIter (some bm) c (seen.push e.born) c)) hs hX r t1 (fun _ _ _ e=>by cases e) (fun _ _ e=>by cases e) (by rcases hw1 with rfl|rfl<;>rfl) (by rcases hw1 with rfl|rfl<;>rfl) (by rcases hw1 with rfl|rfl<;>rfl) (by rw[hsz];exact D6 _) (fun b hb JO=>(World.putObj_heap_other JO).trans (by rw[hh])) t6 t9 (fun e=>by rw[t1]at e;cases e)
   refine⟨_,_,.inl (by
    show(execOp a.eval ⟨d,.next x false,ty,pos,af,gd⟩).run P w=_
    simp only[execOp,hv,Sem.run_bind,hrun,C1,Sem.run_pure]
    rfl),g,_,⟨i.bs,i.fs,some (r,l,dn++[(k,v)])⟩,s1.put (x:=.tup [dB true,.val k,v]) ⟨[.bool true,e.key,e.val],rfl,rfl,fun j u y hu hy=>?_⟩ _ (F5 (st:=st) hd),c1 _ fun r' l' dn' e'=>?_,kp,h1 k v rl hmem hrl hk1⟩
   . match j with
     | 0=>cases hu;cases hy;exact DRep.val _ O
     | 1=>cases hu;cases hy;rw[hek.1];exact DRep.val _ hk1
     | 2=>cases hu;cases hy;exact hek.2.mono kp
     | j+3=>simp at hu
   . cases e'
     obtain⟨k1,k2⟩:=kp bm 0 t7 (by rw[t2];rfl)
     refine⟨bm,es,c,seen.push e.born,c,World.putObj_heap_same hrlt,k2.trans t2,D6 _,t4.mono kp,hq2,fun ho=>t6 (hown r ho),k1,t9,fun q hq=>?_⟩
     rw[List.getLast?_concat]at hq
     cases hq
     exact⟨seen,e,O,O,(BD.1 he).1,hek.1,hek.2.mono kp⟩
theorem Hq {l dn:List (Value×DV)} {k:Value} {v:DV} (hi:i.it=some (r,l,dn)) (hl:dn.getLast? = some (k,v)) (hx:st.ev x=.d (.val (.pointer (some ⟨r,0,none⟩)))) (hk1:k.oneCell'=true) (h:K (st.put d (.tup [.val k,v])) i)
 (hd:G3 ⟨d,.entry x,ty,pos,af,gd⟩ st=true:=by kernel_rfl) (hw:st.want ops ⟨d,.entry x,ty,pos,af,gd⟩=some true:=by rfl):
 PL P ops rl d0 (HE p) K [⟨d,.entry x,ty,pos,af,gd⟩] st i:=Lb hw fun g a w hs hX=>by
 have hv:=(hs.val hx).1
 obtain⟨bm,es,c,seen,cc,t1,t2,t3,t4,t5,t6,t7,t9,t8⟩:=hX.it r l dn hi
 obtain⟨s0,e,rfl,rfl,e3,e4,e5⟩:=t8 _ hl
 have hrun:=run_entry_at (P:=P) w r bm cc s0 es cc e t1 (FD t2) e3 t4.2.1.2.1
 refine⟨_,w,.inl (by
  show(execOp a.eval ⟨d,.entry x,ty,pos,af,gd⟩).run P w=_
  simp only[execOp,hv,Sem.run_bind,hrun,C1,Sem.run_pure]),g,_,i,hs.put (x:=.tup [.val k,v]) ⟨[e.key,e.val],rfl,rfl,fun j u y hu hy=>?_⟩ _ (F5 (st:=st) hd),hX,Kp.same fun _ _ h=>h,h⟩
 match j with
 | 0=>cases hu;cases hy;rw[e4];exact DRep.val _ hk1
 | 1=>cases hu;cases hy;exact e5
 | j+2=>simp at hu
end
/-! functions compared with nil -/
section
variable {sq:Bool} {ops:Array Oper} {K:PS->Prop} {rest:List Oper} {d:Option Nat} {ty:TypeId} {pos:String} {af:Array Edge} {gd:Option (Nat×Bool)}
end
abbrev vI (n:Int):Value:=.int .i64 n
section
variable {sq:Bool} {ops:Array Oper} {K:PS->Prop} {rest:List Oper} {d:Option Nat} {ty:TypeId} {pos:String} {af:Array Edge} {gd:Option (Nat×Bool)}
end
def RowAt (bs:EB) (E k:Nat) (v:Value) (n:Nat) (cells:List Value):Prop:=
 cells.length=n*k∧((v=.slice none 0 0∧n=0) ∨ ∃ b c xs,v=.slice (some ⟨b,0,none⟩) n c∧0<n∧n<=c∧c<=maxLen∧F8 bs b=some (xs,E)∧xs.length=c*k∧xs.take (n*k)=cells)
theorem RowAt.nil (bs:EB) (E k:Nat):RowAt bs E k (.slice none 0 0) 0 []:=⟨by simp,.inl ⟨rfl,rfl⟩⟩
theorem RowAt.keep {bs bs':EB} {k:Nat} {cells:List Value} (h:RowAt bs E k v n cells) (hb:∀ b,v.ownBlock=some b->F8 bs' b=F8 bs b):RowAt bs' E k v n cells:=by
 refine⟨h.1,?_⟩
 rcases h.2 with h|⟨b,c,xs,rfl,h2,h3,h4,h5,h6⟩
 . exact .inl h
 . exact .inr ⟨b,c,xs,O,h2,h3,h4,(hb b O).trans h5,h6⟩
theorem RowAt.blk {bs:EB} {k:Nat} {cells:List Value} (h:RowAt bs E k v n cells) (hb:v.ownBlock=some b):∃ xs,F8 bs b=some (xs,E):=by
 rcases h.2 with⟨rfl,-⟩|⟨b',c,xs,rfl,h2,h3,h4,h5,h6⟩
 . cases hb
 . cases hb;exact⟨xs,h5⟩
theorem RowAt.one {bs:EB} {k:Nat} {cells:List Value} (h:RowAt bs E k v n cells):v.oneCell'=true:=by
 rcases h.2 with⟨rfl,-⟩|⟨b',c,xs,rfl,-⟩<;>rfl
theorem RowAt.pos {bs:EB} {k:Nat} {cells:List Value} (h:RowAt bs E k v n cells) (hn:0<n):∃ b c xs,v=.slice (some ⟨b,0,none⟩) n c∧n<=c∧c<=maxLen∧F8 bs b=some (xs,E)∧xs.length=c*k∧xs.take (n*k)=cells:=by
 rcases h.2 with⟨-,h⟩|⟨b,c,xs,h1,h2,h3⟩
 . omega
 . exact⟨b,c,xs,h1,h3⟩
theorem RowAt.zero {bs:EB} {k:Nat} {cells:List Value} (h:RowAt bs E k v 0 cells):v=.slice none 0 0:=by
 rcases h.2 with⟨h,-⟩|⟨b,c,xs,h1,h2,h3⟩
 . exact h
 . omega
theorem RowAt.data {bs:EB} {k:Nat} {cells:List Value} {es:List (List DV)} (h:RowAt bs E k v n cells) (hbs:∀ (b:Nat) (xs:List Value) (T:Nat),F8 bs b=some (xs,T)->w.heap[b]? = some (.cells xs.toArray T (0,0)) ∧ ∀ o,F b o)
 (hn:es.length=n) (hk:∀ e∈es,e.length=k) (hd:∀ (m:Nat) l (q:Nat) x,es[m]? = some l->l[q]? = some x->∃ u,cells[m*k+q]? = some u∧u.oneCell'=true∧DRep F w u x):DRep F w v (.sl k es):=by
 rcases h.2 with⟨rfl,h0⟩|⟨b,c,xs,rfl,h2,h3,h4,h5,h6,h7⟩
 . have:es=[]:=List.eq_nil_of_length_eq_zero (by omega)
   rw[this]
   exact .nil
 . obtain⟨g1,g2⟩:=hbs b xs E h5
   have hget:∀ m q,m<n->q<k->∃ l x u,es[m]? = some l∧l[q]? = some x∧cells[m*k+q]? = some u∧u.oneCell'=true∧DRep F w u x:=fun m q hm hq=>by
    obtain⟨l,hl⟩:∃ l,es[m]? = some l:=⟨_,A4 (by omega)⟩
    have hlk:=hk l (B2 hl)
    obtain⟨x,hx⟩:∃ x,l[q]? = some x:=⟨_,A4 (by omega)⟩
    obtain⟨u,h8,h9,h10⟩:=hd m l q x hl hx
    exact⟨l,x,u,hl,hx,h8,h9,h10⟩
   have hcx:∀ j u,cells[j]? = some u->xs[j]? = some u:=fun j u hj=>by
    rw[<-h7]at hj
    have hlt:=(A6.1 hj).1
    rw[F3]at hlt
    rwa [C7 (by omega)]at hj
   refine .sl (fun m q=>(cells[m*k+q]?).getD undef) hn.symm h3 (by unfold maxLen at h4;omega) hk (fun _=>⟨b,0,rfl,fun m q hm hq=>?_⟩) (fun m q hm hq=>?_) (fun m q e x he hx=>?_)
   . obtain⟨l,x,u,-,-,h8,-⟩:=hget m q hm hq
     refine⟨?_,g2 _⟩
     rw[h8,D0]
     simp[World.cell?,g1,hcx _ _ h8]
   . obtain⟨l,x,u,-,-,h8,h9,-⟩:=hget m q hm hq
     rw[h8];exact h9
   . obtain⟨u,h8,-,h10⟩:=hd m e q x he hx
     rw[h8];exact h10
section
variable {ops:Array Oper} {rl:Option Nat} {K:PS->EI->Prop} {d:Option Nat} {ty:TypeId} {pos:String} {af:Array Edge} {gd:Option (Nat×Bool)}
end
def InR (i:EI) (bo:Nat) (v:Value) (El:Nat) (rs:List (Int×List (List DV))) (cells:List Value):Prop:=
 (∀ (j:Nat) r,rs[j]? = some r->cells[j*2]? = some (vI r.1) ∧ ∃ lv lc,cells[j*2+1]? = some lv∧RowAt i.bs El 3 lv r.2.length lc∧(∀ b,lv.ownBlock=some b->b≠bo∧v.ownBlock≠some b) ∧ ∀ (m:Nat) l,r.2[m]? = some l->l.length=3 ∧ ∀ (q:Nat) x,l[q]? = some x->∃ u,lc[m*3+q]? = some u∧u.oneCell'=true∧(u,x)∈i.fs) ∧
 ∀ (j j':Nat) (lv lv':Value) b,cells[j*2+1]? = some lv->cells[j'*2+1]? = some lv'->lv.ownBlock=some b->lv'.ownBlock=some b->j=j'
def RA (i:EI) (bo Er El:Nat) (rs:List (Int×List (List DV))):Prop:=
 ∃ xs0 To v cells,F8 i.bs bo=some (xs0,To)∧xs0[0]? = some v∧RowAt i.bs Er 2 v rs.length cells∧v.ownBlock≠some bo∧InR i bo v El rs cells
theorem set0 {u:Value} (h:xs[0]? = some v):(LN xs 0 [u])[0]? = some u:=by
 have hlt:=(A6.1 h).1
 simp[LN,hlt]
theorem exv_one (hl:vs.length=1) (h:ExV vs [.val v]):vs=[v]:=by
 match vs,hl with
 | [u],_=>rw[h 0 u v rfl rfl]
theorem exv_two {v':Value} (hl:vs.length=2) (h:ExV vs [.val v,.val v']):vs=[v,v']:=by
 match vs,hl with
 | [u,u'],_=>rw[h 0 u v rfl rfl,h 1 u' v' rfl rfl]
theorem RA.start {Er El To:Nat} {xs0:List Value} (h:F8 i.bs bo=some (xs0,To)) (h0:xs0[0]? = some (.slice none 0 0)):RA i bo Er El []:=
 ⟨xs0,To,_,[],h,h0,RowAt.nil _ _ _,by simp[Value.ownBlock],fun j r hj=>by simp at hj,fun j j' lv lv' b hj=>by simp at hj⟩
theorem RA.push {Er El To b':Nat} {xs0 news cells:List Value} {v':Value} {bs':EB} {fs':List (Value×DV)} {it':Option (Nat×List (Value×DV)×List (Value×DV))} {n:Int}
 (h1:F8 i.bs bo=some (xs0,To)) (h2:xs0[0]? = some v) (h4:v.ownBlock≠some bo) (h5:InR i bo v El rs cells) (hcl:cells.length=rs.length*2)
 (q1:v'.ownBlock=some b') (q2:RowAt bs' Er 2 v' (rs.length+1) (cells++news)) (q3:v.ownBlock=some b'∨F8 i.bs b'=none) (q4:∀ b,b≠b'->v.ownBlock≠some b->F8 bs' b=F8 i.bs b) (q5:news.length=2) (q6:ExV news [.val (vI n),.val (.slice none 0 0)]) (q7:vs.length=1) (q8:ExV vs [.val v']) (hfs:∀ q∈i.fs,q∈fs'):
 RA ⟨(bo,(LN xs0 0 vs,To))::bs',fs',it'⟩ bo Er El (rs++[(n,[])]):=by
 rw[exv_one q7 q8]
 rw[exv_two q5 q6]at q2
 have hbo:b'≠bo:=fun e=>by
  rcases q3 with q3|q3
  . exact h4 (e ▸ q3)
  . rw[e,h1]at q3;cases q3
 have hlv:∀ b,(∃ xs,F8 i.bs b=some (xs,El))->v.ownBlock≠some b->b≠b':=fun b ⟨xs,hb⟩ hv e=>by
  rcases q3 with q3|q3
  . exact hv (e ▸ q3)
  . rw[<-e,hb]at q3;cases q3
 have hget:∀ j,j<cells.length->(cells++[vI n,.slice none 0 0])[j]? = cells[j]?:=fun j hj=>E4 hj
 have hrow:RowAt ((bo,(LN xs0 0 [v'],To))::bs') Er 2 v' (rs++[(n,([]:List (List DV)))]).length (cells++[vI n,.slice none 0 0]):=by
  rw[D1]
  refine q2.keep fun b hb=>?_
  rw[q1]at hb;cases hb
  rw[I3,B8 hbo]
 refine⟨_,To,v',_,by rw[I3,C2 rfl],set0 h2,hrow,fun e=>?_,fun j r hj=>?_,fun j j' lv lv' b e1 e2 e3 e4=>?_⟩
 . rw[q1]at e;cases e;exact hbo O
 . rcases G0 j rs.length with hlt|hge
   . rw[E4 hlt]at hj
     obtain⟨t1,lv,lc,t2,t3,t4,t5⟩:=h5.1 j r hj
     refine⟨by rw[hget _ (by omega)];exact t1,lv,lc,by rw[hget _ (by omega)];exact t2,t3.keep fun b hb=>?_,fun b hb=>⟨(t4 b hb).1,fun e=>?_⟩,fun m l hm=>⟨(t5 m l hm).1,fun q x hx=>?_⟩⟩
     . have hb':=hlv b (t3.blk hb) (t4 b hb).2
       rw[I3,B8 (t4 b hb).1]
       exact q4 b hb' (t4 b hb).2
     . rw[q1]at e;cases e
       exact hlv _ (t3.blk hb) (t4 _ hb).2 O
     . obtain⟨u,u1,u2,u3⟩:=(t5 m l hm).2 q x hx
       exact⟨u,u1,u2,hfs _ u3⟩
   . rw[E6 hge]at hj
     obtain⟨hq,hq2⟩:=A6.1 hj
     have h0:j=rs.length:=by simp at hq;omega
     subst h0
     simp at hq2
     subst hq2
     refine⟨?_,.slice none 0 0,[],?_,RowAt.nil _ _ _,fun b hb=>(by cases hb),fun m l hm=>by simp at hm⟩
     . rw[<-hcl,E6 (D6 _),Nat.sub_self];rfl
     . rw[<-hcl,E6 (by omega),Nat.add_sub_cancel_left];rfl
 . have key:∀ j (lv:Value) b,(cells++[vI n,.slice none 0 0])[j*2+1]? = some lv->lv.ownBlock=some b->cells[j*2+1]? = some lv:=fun j lv b e hb=>by
    rcases G0 (j*2+1) cells.length with hlt|hge
    . rwa [E4 hlt]at e
    . rw[E6 hge]at e
      have hq:=(A6.1 e).1
      have h0:j*2+1-cells.length=1:=by simp at hq;omega
      rw[h0]at e
      cases e
      cases hb
   exact h5.2 j j' lv lv' b (key j lv b e1 e3) (key j' lv' b e2 e4) e3 e4
theorem RA.data {Er El:Nat} (h:RA i bo Er El rs) (hbs:∀ (b:Nat) (xs:List Value) (T:Nat),F8 i.bs b=some (xs,T)->w.heap[b]? = some (.cells xs.toArray T (0,0)) ∧ ∀ o,F b o) (hfs:∀ q∈i.fs,DRep F w q.1 q.2):
 DRep F w (.pointer (some ⟨bo,0,none⟩)) (.ref [.sl 2 (rs.map fun r=>[.val (vI r.1),.sl 3 r.2])]):=by
 obtain⟨xs0,To,v,cells,h1,h2,h3,h4,h5⟩:=h
 obtain⟨g1,g2⟩:=hbs bo xs0 To h1
 have hv:DRep F w v (.sl 2 (rs.map fun r=>[.val (vI r.1),.sl 3 r.2])):=by
  refine h3.data hbs (by simp) (fun e he=>?_) fun m l q x hm hq=>?_
  . obtain⟨r,-,rfl⟩:=H5.1 he;rfl
  . rw[B5,B7]at hm
    obtain⟨r,hr,rfl⟩:=hm
    obtain⟨t1,lv,lc,t2,t3,t4,t5⟩:=h5.1 m r hr
    match q with
    | 0=>cases hq;exact⟨_,t1,O,DRep.val _ O⟩
    | 1=>
     cases hq
     refine⟨lv,t2,t3.one,t3.data hbs O (fun e he=>?_) fun m' l' q' x' hm' hq'=>?_⟩
     . obtain⟨m',hm'⟩:=List.mem_iff_getElem?.1 he
       exact(t5 m' e hm').1
     . obtain⟨u,u1,u2,u3⟩:=(t5 m' l' hm').2 q' x' hq'
       exact⟨u,u1,u2,hfs _ u3⟩
    | q+2=>simp at hq
 refine .ref (fun _=>v) (fun j hj=>?_) fun j x hj=>?_
 . have:j=0:=by simpa using hj
   subst this
   exact⟨by simp[World.cell?,g1,h2],g2 _,h3.one⟩
 . match j with
   | 0=>cases hj;exact hv
   | j+1=>simp at hj
section
variable {rl:Option Nat} {w w':World}
end
section
variable {B:Nat} {w0:Cx} {Q:Exit->PS->Prop}
end
section
variable {rl:Option Nat} {Q:Exit->PS->EI->Prop}
theorem Iv (h0:∀ B w0 g a w,Rep B w0 g st a w->∃ g',Evo g w g' w∧Rep B w0 g' st' a w) (h:PX P rl d0 (HE p) c Q st' i):PX P rl d0 (HE p) c Q st i:=px_tell (HE.stb i) h0 h
end
section
variable {ops:Array Oper} {rl:Option Nat} {K:PS->EI->Prop}
end
/-! regions that draw their order -/
section
variable {rl:Option Nat} {b off:Nat} {us:List Value} {K:PS->EI->Prop} {Q:Exit->PS->EI->Prop}
end
section
variable {rl:Option Nat} {K:PS->EI->Prop}
end
section
variable {sq:Bool} {ops:Array Oper} {K:PS->Prop} {rest:List Oper} {d:Option Nat} {ty:TypeId} {pos:String} {af:Array Edge} {gd:Option (Nat×Bool)}
end
section
variable {sq:Bool} {ops:Array Oper} {K:PS->Prop} {rest:List Oper} {d:Option Nat} {ty:TypeId} {pos:String} {af:Array Edge} {gd:Option (Nat×Bool)}
end
theorem Iw {rl:Option Nat} {Q:Exit->PS->EI->Prop} {l:Array Oper} (h:∀ B w0,w0.rl=rl->PW P B w0 (.region id l true) (fun e s=>Q e s i) st):PX P rl d0 (HE p) (.region id l true) Q st i:=Lc h
section
variable {sq:Bool} {ops:Array Oper} {K:PS->Prop} {rest:List Oper} {d:Option Nat} {ty:TypeId} {pos:String} {af:Array Edge} {gd:Option (Nat×Bool)}
end
end Go.Proofs.YtdkpmnefoobipaaGreatDoor.Px
namespace Go.Proofs
open Go.Shelf
shelf_try shelf_lay Lays.n287 Nm 287 at Tryz as Tryz.pu
shelf_try shelf_lay Lays.n105 Nm 105 at Tryz as Tryz.repeat
shelf_try shelf_lay Lays.n166 Nm 166 at Tryz as Tryz.bws
shelf_try shelf_lay Lays.n167 Nm 167 at Tryz as Tryz.bwb
shelf_try shelf_lay Lays.n169 Nm 169 at Tryz as Tryz.bst
shelf_tried
end Go.Proofs
namespace Go.Proofs.YtdkpmnefoobipaaGreatDoor
open Go.RowKit Px
namespace Px
section
variable {P:Program} {sq:Bool} {ops:Array Oper} {K:PS->Prop} {rest:List Oper} {st:PS} {d:Option Nat} {ty:TypeId} {pos:String} {af:Array Edge} {gd:Option (Nat×Bool)}
theorem yBni {t t':Nat} {x:Operand} (hx:st.ev x=.d (.val .nilIface)) (hI:P.underlying t=some (.interface (P.methodsAt t)):=by kernel_rfl) (h:YR P sq ops K rest (st.put d (.d (.val (.bool false))))) (zz:zk ops st ⟨d,.binOp .neq t x (.const .nilIface) t',ty,pos,af,gd⟩ .no=true:=by kernel_rfl):
 YR P sq ops K (⟨d,.binOp .neq t x (.const .nilIface) t',ty,pos,af,gd⟩::rest) st:=I1 (AF .neq t t' x (.const .nilIface) hx rfl (fun w=>by
  have e:(eqGuard .neq t x (.const .nilIface) .nilIface .nilIface >>= fun _=>binOp .neq t .nilIface .nilIface)=binOp .neq t .nilIface .nilIface:=by cases x<;>rfl
  rw[e]
  exact run_neq_nil_nil w t hI) O (zd zz)) (zo zz) (zw zz) h
end
end Px
theorem Iy (M:Nat) (hM:1000000000000000000<=M):∀ (t:F4) (acc k:Nat),t.all S7=true->acc<10 ^ k->k+t.length<=18->Lib.parseUintM M acc t=.ok (t.foldl (fun n b=>10*n+dv b) acc)
 | [],acc,k,_,_,_=>rfl
 | c::r,acc,k,h,ha,hk=>by
  rw[List.all_cons,C6]at h
  have hc:=MP h.1
  have h2:48<=c.toNat∧c.toNat<=57:=by have:=h.1;unfold S7 at this;simpa using this
  have hp:(10:Nat) ^ (k+1)<=10 ^ 18:=Nat.pow_le_pow_right (by omega) (by simp only[List.length_cons]at hk;omega)
  have e:(10:Nat) ^ (k+1)=10*10 ^ k:=by rw[Nat.pow_succ,Nat.mul_comm]
  have e2:acc*10+(c.toNat-48)=10*acc+dv c:=by unfold dv;omega
  have hlt:10*acc+dv c<10 ^ (k+1):=by omega
  have e18:(10:Nat) ^ 18=1000000000000000000:=by decide
  rw[Lib.parseUintM,C2 h2,B8 (by omega),e2,B8 (by omega),List.foldl_cons]
  exact Iy M hM r _ (k+1) h.2 hlt (by simp only[List.length_cons]at hk;omega)
theorem parse_b {t:F4} (h:t.all S7=true) (hn:t≠[]) (hl:t.length<=18):Lib.parseUintB 64 t=.ok (H0 t):=by
 rw[Lib.parseUintB,B8 hn]
 exact Iy _ (by decide) t 0 0 h (by decide) (by omega)
theorem wPUi {t:F4} (h:t.all S7=true) (hn:t≠[]) (hl:t.length<=18):PCalls Tryz.prog 120 [dS t,dI 10,dI 64] (.tup [dU (H0 t),.val .nilIface]):=
 PCalls.of_any (us:=[.int .u64 (H0 t),.nilIface]) rfl (by simp[Value.oneCell']) fun F w vals hl2 hr hg=>by
  obtain rfl:vals=[vS t,.int .i64 10,.int .i64 64]:=BL (us:=[vS t,.int .i64 10,.int .i64 64]) hl2 hr
  refine(Any.internal_strconv_ParseUint_10_at64 Tryz.pu ⟨t.toArray⟩ (show t.toArray.size<=9223372036854775806 by rw[List.size_toArray];omega) w).mono ?_
  rintro e w' ⟨rfl,hw⟩
  have e2:Lib.parseUintB 64 (ByteArray.mk t.toArray).data.toList=.ok (H0 t):=parse_b h hn hl
  rw[e2]
  refine⟨rfl,?_⟩
  rcases hw with rfl|rfl
  . exact .refl _ _
  . exact Lib.bytesWorld_below w _ _
theorem wPU {t:F4} (h:t.all S7=true) (hn:t≠[]) (hl:t.length<=18):PCalls Tryz.prog 87 [dS t,dI 10,dI 64] (.tup [dU (H0 t),.val .nilIface]):=by
 have c1:=wPUi h hn hl
 obtain⟨n,hn⟩:=H1 (H0 t)
 rw[<-hn]at c1 ⊢
 refine L7 Tryz.func87 O Tryz.ntmps87 Tryz.results87 fun B w0=>?_
 refine B4 (C9 O (C9 O (yQ (B4 (B1 O (B1 O (B1 O (yC (c1) O O (Aw O ?_)))))))));refine yX O O (yX O O (C9 O (C9 O (yQ (A5 (B4 (B1 O ?_)))))));refine yBni O (h:=?_);refine yQ (B9 O (A7 (B4 (B1 O (C9 O (C9 O (yQ (C4 ?_))))))))
 exact Cu O O O
open Go.RowKit Px
namespace Px
section
variable {P:Program} {sq:Bool} {ops:Array Oper} {K:PS->Prop} {rest:List Oper} {st:PS} {d:Option Nat} {ty:TypeId} {pos:String} {af:Array Edge} {gd:Option (Nat×Bool)}
end
end Px
variable {l:List Nat} {i:Nat}
theorem rdG_at {t:F4} (h:9*i<t.length):(Dz t)[i]? = some (H0 ((t.take (t.length-9*i)).drop (t.length-9*i-9))):=by
 induction i generalizing t with
 | zero=>
  rw[BQ (by intro e;rw[e]at h;simp at h)]
  simp
 | succ i ih=>
  rw[BQ (by intro e;rw[e]at h;simp at h),List.getElem?_cons_succ,ih (by rw[F3];omega),F3,List.take_take]
  have e1:min (t.length-9) t.length-9*i=t.length-9*(i+1):=by omega
  rw[e1,Nat.min_eq_left (by omega)]
theorem Ir {t:F4} (h:t.length<=9*i):(Dz t).length<=i:=by
 induction i generalizing t with
 | zero=>
  have:t=[]:=List.length_eq_zero_iff.1 (by omega)
  rw[this,Ct];simp
 | succ i ih=>
  by_cases hn:t=[]
  . rw[hn,Ct];simp
  . rw[BQ hn,List.length_cons]
    have:=ih (t:=t.take (t.length-9)) (by rw[F3];omega)
    omega
theorem Af (t:F4):(Dz t).length<=t.length:=by
 have:=Ir (t:=t) (i:=t.length) (by omega)
 exact this
theorem LR {t:F4} (h:9*i<t.length):(Dz t).take (i+1)=(Dz t).take i++[H0 ((t.take (t.length-9*i)).drop (t.length-9*i-9))]:=by
 rw[G7,rdG_at h];rfl
theorem Bm (a:F4):(K4 a).1.length<=a.length:=by
 have hb:(AM a).length<=a.length:=by unfold AM;split<;>simp
 unfold K4
 split
 . exact E3 (List.dropWhile_suffix _).length_le hb
 . simp
theorem all_sub {t:F4} (h:t.all S7=true) (a b:Nat):((t.take a).drop b).all S7=true:=by
 rw[E7]at h ⊢
 exact fun x hx=>h x (List.mem_of_mem_take (List.mem_of_mem_drop hx))
abbrev dG (x:Nat):List DV:=[dU x]
abbrev MQ (b:Bool) (l:List Nat):List DV:=[dB b,.sl 1 (l.map dG)]
abbrev mgT:Nat:=130*100000+5
theorem wRead (a:F4) (ha:a.length<=1000000):PCalls Tryz.prog 54 [dS a] (.d (.agg (MQ (K4 a).2 (Dz (K4 a).1)))):=by
 have c1:=Et a (by omega)
 have hl:(K4 a).1.length<=1000000:=E3 (Bm a) ha
 have hD:=Bn a
 obtain⟨t,ht⟩:=H1 ((K4 a).1)
 obtain⟨b,hb⟩:=H1 ((K4 a).2)
 rw[<-ht,<-hb]at c1
 rw[<-ht]at hl hD
 rw[<-ht,<-hb]
 clear ht hb
 have hsz:=Af t
 obtain⟨g,hg⟩:=H1 (Dz t)
 refine L7 Tryz.func54 O Tryz.ntmps54 Tryz.results54 fun B w0=>?_
 refine B4 (yZ (cs:=[_,_]) O O (yQ (B4 (B1 O (yC (c1) O O (Aw O (yX O O (yX O O (C9 O ?_)))))))));refine C9 O (yQ (B4 (C9 O (yQ ?_))));refine FJ 5 mgT 1 O O O ?_;refine A5 (B4 (B1 O (P4 O (C9 O (yQ (A9 ?_))))));refine G6 (fun i:Nat=>⟨37,[(2,.bx 2 0),(3,.d (dS t)),(4,.d (dB b)),(5,.ts mgT 1 (((Dz t).take i).map dG)),(6,.d (dI ((t.length:Int)-9*i)))],[(2,[.d (dB false),.d (.val (.slice none 0 0))])],[(mgT,(((Dz t).take i).map dG).length)]⟩) (fun i=>9*i<t.length+9) (fun i=>t.length+9-9*i) 0 (by omega)
  ⟨rfl,⟨.refl _,.refl _,.refl _,.refl _,.of_eq (H4 (fun n:Int=>SV.d (dI n)) (by simp)),C8⟩,⟨⟨_,rfl,.refl _,.refl _,C8⟩,C8⟩,⟨rfl,C8⟩,rfl⟩ ?_
 intro i hi
 refine A5 (B4 (B1 O (yB O O O O (yQ (B6 ?_)))));refine H7 O (fun h=>?_) (fun h=>?_)
 . simp at h
   have h9:9*i<t.length:=by omega
   have hn:=LR h9
   have hx:(t.take ((t.length:Int)-9*i).toNat).drop (((t.length-9*i-9:Nat):Int)).toNat=(t.take (t.length-9*i)).drop (t.length-9*i-9):=by
    rw[H6,(by omega:((t.length:Int)-9*i).toNat=t.length-9*i)]
   have hlen:((t.take (t.length-9*i)).drop (t.length-9*i-9)).length<=9:=by rw[M9,F3];omega
   have hlen0:0<((t.take (t.length-9*i)).drop (t.length-9*i-9)).length:=by rw[M9,F3];omega
   have c2:=wPU (all_sub hD (t.length-9*i) (t.length-9*i-9)) (by intro e;rw[e]at hlen0;simp at hlen0) (by omega)
   have hw1:IntKind.i64.wrap ((t.length:Int)-9*i-9)=(t.length:Int)-9*i-9:=H2 _ (by omega)
   have hm:(if (t.length:Int)-9*i-9 > 0 then (t.length:Int)-9*i-9 else 0)=((t.length-9*i-9:Nat):Int):=by split<;>omega
   obtain⟨x,hxx⟩:=H1 (H0 ((t.take (t.length-9*i)).drop (t.length-9*i-9)))
   rw[<-hxx]at c2 hn
   obtain⟨s,hs⟩:=H1 ((t.take (t.length-9*i)).drop (t.length-9*i-9))
   rw[<-hs]at c2 hx
   obtain⟨zs,hzs⟩:=H1 ((Dz t).take i)
   have hzl:zs.length<=1000000:=by rw[hzs,F3];omega
   rw[<-hzs]at hn ⊢
   refine A7 (A5 (A9 (B4 (B1 O (B1 O (yB O O O O (yI O O O (B1 O ?_))))))));rw[hw1];rw[hm]
   refine ySlh (by omega) (by omega) (by omega) hx O O O (yC (c2) O O (Aw O (yX O O (yX O O (C9 O (C9 O (yQ (B3 (Ib O ?_)))))))));refine B1 O ?_;refine yR (es:=[[_]]) O O O O O ?_;refine yT (es':=(zs++[x]).map dG) (m:=((zs++[x]).map dG).length) (by simp;omega) (by simp;omega) O O O O O (by simp) (by simp) ?_;refine Fu O (yQ (B3 (B1 O (yB O O O O (C9 O (yQ (B6 ?_)))))));rw[hw1]
   refine⟨i+1,by omega,by omega,rfl,⟨.refl _,.refl _,.refl _,.of_eq (by rw[hn];rfl),.of_eq (H4 (fun n=>SV.d (dI n)) (by omega)),C8⟩,⟨⟨_,rfl,.refl _,.refl _,C8⟩,C8⟩,⟨(by rw[hn];rfl),C8⟩,rfl⟩
 . simp at h
   have e:(Dz t).take i=Dz t:=D9 (Ir (by omega))
   rw[e]
   refine F6 (B4 (B1 O (Ib O (yG (ys:=[_,_]) O O (yS (cs':=[_,_]) O O O O O (yQ (C4 ?_)))))))
   exact K9 _ (.agg J5 O O O O .nil) O
def R7 (l:List Nat) (i:Nat):Nat:=l[i]?.getD 0
theorem Fg (h:gok l) (i:Nat):R7 l i<1000000000:=by
 unfold R7
 cases e:l[i]? with
 | none=>simp
 | some x=>exact h x (B2 e)
theorem Fh (h:l.length<=i):R7 l i=0:=by unfold R7;rw[E9 h];rfl
theorem T3 {x:Nat} (h:l[i]? = some x):R7 l i=x:=by unfold R7;rw[h];rfl
theorem T5 (l:List Nat) (i:Nat):J0 (l.take (i+1))=J0 (l.take i)+1000000000 ^ i*R7 l i:=by
 rcases G0 i l.length with h|h
 . rw[G7,Ah,A4 h,T3 (A4 h)]
   simp[J0,Nat.min_eq_left (Nat.le_of_lt h)]
 . rw[D9 (by omega),D9 h,Fh h]
   simp
theorem Z4 (l:List Nat) (x:Nat):J0 (l++[x])=J0 l+1000000000 ^ l.length*x:=by rw[Ah];simp[J0]
theorem Bf {x:Nat} (h:gok l) (hx:x<1000000000):gok (l++[x]):=Di.2 ⟨h,by intro y hy;have:y=x:=(by simpa using hy);omega⟩
/-! sums -/
def M5 (m n:List Nat):Nat->List Nat×Nat
 | 0=>([],0)
 | i+1=>((M5 m n i).1++[(R7 m i+(M5 m n i).2+R7 n i) % 1000000000],(R7 m i+(M5 m n i).2+R7 n i) / 1000000000)
theorem As {m n:List Nat} (hm:gok m) (hn:gok n) (i:Nat):(M5 m n i).1.length=i∧gok (M5 m n i).1∧(M5 m n i).2<=1∧J0 (M5 m n i).1+1000000000 ^ i*(M5 m n i).2=J0 (m.take i)+J0 (n.take i):=by
 induction i with
 | zero=>simp[M5,J0,gok]
 | succ i ih=>
  obtain⟨h1,h2,h3,h4⟩:=ih
  have a1:=Fg hm i
  have a2:=Fg hn i
  obtain⟨v,hv⟩:=H1 (R7 m i+(M5 m n i).2+R7 n i)
  rw[M5,<-hv]
  refine⟨by simp[h1],Bf h2 (by omega),by show v / 1000000000<=1;omega,?_⟩
  show J0 ((M5 m n i).1++[v % 1000000000])+1000000000 ^ (i+1)*(v / 1000000000)=_
  rw[Z4,h1,T5,T5,Nat.pow_succ]
  obtain⟨p,hp⟩:=H1 (1000000000 ^ i)
  rw[<-hp]at h4 ⊢
  have e1:p*(v % 1000000000)+p*1000000000*(v / 1000000000)=p*v:=by
   rw[Nat.mul_assoc,<-Nat.mul_add,Nat.mod_add_div]
  have e2:p*v=p*R7 m i+p*(M5 m n i).2+p*R7 n i:=by rw[hv,Nat.mul_add,Nat.mul_add]
  omega
def Z1 (m n:List Nat):List Nat:=(M5 m n (max m.length n.length)).1++(if 0<(M5 m n (max m.length n.length)).2 then [(M5 m n (max m.length n.length)).2]else [])
theorem KY (m n:List Nat) (i:Nat):M5 m n i=M5 n m i:=by
 induction i with
 | zero=>rfl
 | succ i ih=>rw[M5,M5,ih,show R7 m i+(M5 n m i).2+R7 n i=R7 n i+(M5 n m i).2+R7 m i by omega]
theorem Hp (m n:List Nat):Z1 m n=Z1 n m:=by unfold Z1;rw[KY,Nat.max_comm]
theorem Ho {m n:List Nat} (hm:gok m) (hn:gok n):gok (Z1 m n)∧J0 (Z1 m n)=J0 m+J0 n:=by
 obtain⟨h1,h2,h3,h4⟩:=As hm hn (max m.length n.length)
 rw[D9 (by omega),D9 (by omega)]at h4
 unfold Z1
 split
 . refine⟨Bf h2 (by omega),?_⟩
   rw[Z4,h1]
   exact h4
 . rename_i h
   rw[show(M5 m n (max m.length n.length)).2=0 by omega]at h4
   simpa using ⟨h2,h4⟩
/-! differences -/
def N1 (m n:List Nat):Nat->List Nat×Nat
 | 0=>([],0)
 | i+1=>if R7 m i<(N1 m n i).2+R7 n i then ((N1 m n i).1++[R7 m i+1000000000-((N1 m n i).2+R7 n i)],1)else ((N1 m n i).1++[R7 m i-((N1 m n i).2+R7 n i)],0)
theorem Y0 {m n:List Nat} (hm:gok m) (hn:gok n) (i:Nat):(N1 m n i).1.length=i∧gok (N1 m n i).1∧(N1 m n i).2<=1∧J0 (N1 m n i).1+J0 (n.take i)=J0 (m.take i)+1000000000 ^ i*(N1 m n i).2:=by
 induction i with
 | zero=>simp[N1,J0,gok]
 | succ i ih=>
  obtain⟨h1,h2,h3,h4⟩:=ih
  have a1:=Fg hm i
  have a2:=Fg hn i
  rw[T5,T5,Nat.pow_succ]
  obtain⟨c,hc⟩:=H1 ((N1 m n i).2)
  obtain⟨p,hp⟩:=H1 (1000000000 ^ i)
  rw[N1]
  rw[<-hc]at h3 h4 ⊢
  rw[<-hp]at h4 ⊢
  split
  . rename_i h
    refine⟨by simp[h1],Bf h2 (by omega),D6 _,?_⟩
    simp only
    rw[Z4,h1,<-hp]
    obtain⟨d,hd⟩:=H1 (R7 m i+1000000000-(c+R7 n i))
    rw[<-hd]
    have e1:p*d+p*c+p*R7 n i=p*R7 m i+p*1000000000:=by
     rw[<-Nat.mul_add,<-Nat.mul_add,<-Nat.mul_add]
     congr 1
     omega
    omega
  . rename_i h
    refine⟨by simp[h1],Bf h2 (by omega),D4 _,?_⟩
    simp only
    rw[Z4,h1,<-hp]
    obtain⟨d,hd⟩:=H1 (R7 m i-(c+R7 n i))
    rw[<-hd]
    have e1:p*d+p*c+p*R7 n i=p*R7 m i:=by
     rw[<-Nat.mul_add,<-Nat.mul_add]
     congr 1
     omega
    omega
theorem LI {m n:List Nat} (hm:gok m) (hn:gok n) (hl:n.length<=m.length) (hle:J0 n<=J0 m):gok (N1 m n m.length).1∧J0 (N1 m n m.length).1=J0 m-J0 n:=by
 obtain⟨h1,h2,h3,h4⟩:=Y0 hm hn m.length
 rw[D9 (D6 _),D9 hl]at h4
 refine⟨h2,?_⟩
 have h5:=Ff h2
 rw[h1]at h5
 rcases Nat.le_one_iff_eq_zero_or_eq_one.1 h3 with h6|h6
 . rw[h6]at h4;omega
 . rw[h6]at h4;omega
/-! products -/
/-! comparisons -/
def EG (m n:List Nat):Nat->Int
 | 0=>0
 | i+1=>if R7 m i<R7 n i then -1 else if R7 n i<R7 m i then 1 else EG m n i
theorem KS {m n:List Nat} (hm:gok m) (hn:gok n) (i:Nat):EG m n i=if J0 (m.take i)<J0 (n.take i)then -1 else if J0 (n.take i)<J0 (m.take i)then 1 else 0:=by
 induction i with
 | zero=>simp[EG,J0]
 | succ i ih=>
  have gtk:∀ {l:List Nat},gok l->J0 (l.take i)<1000000000 ^ i:=fun {l} h=>by
   have h1:gok (l.take i):=fun x hx=>h x (List.mem_of_mem_take hx)
   refine G2 (Ff h1) (Nat.pow_le_pow_right (by omega) ?_)
   rw[F3];omega
  have b1:=gtk hm
  have b2:=gtk hn
  rw[EG,ih,T5,T5]
  obtain⟨p,hp⟩:=H1 (1000000000 ^ i)
  rw[<-hp]at b1 b2 ⊢
  rcases Nat.lt_trichotomy (R7 m i) (R7 n i)with h|h|h
  . rw[C2 h]
    have:p*(R7 m i+1)<=p*R7 n i:=Nat.mul_le_mul_left _ h
    rw[Nat.mul_add]at this
    rw[C2 (by omega)]
  . simp only[h,Nat.lt_irrefl,if_false,Nat.add_lt_add_iff_right]
  . have:p*(R7 n i+1)<=p*R7 m i:=Nat.mul_le_mul_left _ h
    rw[Nat.mul_add]at this
    rw[B8 (by omega),C2 h,B8 (by omega),C2 (by omega)]
theorem grp_ge {n:Nat} (h:n≠0):1000000000 ^ ((L5 n).length-1)<=n:=by
 induction n using Nat.strongRecOn with
 | _ n ih=>
  rw[DB h,List.length_cons,Nat.add_sub_cancel]
  by_cases h':n / 1000000000=0
  . rw[h',Z5];simp;omega
  . have h1:=ih (n / 1000000000) (Nat.div_lt_self (by omega) (by omega)) h'
    have h2:0<(L5 (n / 1000000000)).length:=List.length_pos_iff.2 fun e=>h' (grp_nil.1 e)
    obtain⟨k,hk⟩:∃ k,(L5 (n / 1000000000)).length=k+1:=⟨_,(Nat.sub_add_cancel h2).symm⟩
    rw[hk,Nat.add_sub_cancel]at h1
    rw[hk,Nat.pow_succ]
    omega
theorem X8 {x y:Nat} (h:(L5 x).length<(L5 y).length):x<y:=by
 have hy:y≠0:=fun e=>by rw[e,Z5]at h;simp at h
 have h1:=grp_ge hy
 have h2:=Ff (L0 x)
 rw[O2]at h2
 have h3:1000000000 ^ (L5 x).length<=1000000000 ^ ((L5 y).length-1):=Nat.pow_le_pow_right (by omega) (by omega)
 omega
def EH (m n:List Nat):Int:=if m.length≠n.length then (m.length:Int)-n.length else EG m n m.length
theorem Ed (x y:Nat):(EH (L5 x) (L5 y)<0↔x<y)∧(0<EH (L5 x) (L5 y)↔y<x):=by
 unfold EH
 by_cases h:(L5 x).length=(L5 y).length
 . rw[B8 (by simpa using h),KS (L0 x) (L0 y),D9 (D6 _),D9 (by omega),O2,O2]
   rcases Nat.lt_trichotomy x y with h1|h1|h1
   . rw[C2 h1];omega
   . rw[B8 (by omega),B8 (by omega)];omega
   . rw[B8 (by omega),C2 h1];omega
 . rw[C2 h]
   rcases Nat.lt_or_gt_of_ne h with h1|h1
   . have:=X8 h1;omega
   . have:=X8 h1;omega
open Go.RowKit Px
theorem wCut (l:List Nat) (hl:l.length<=1000000):PCalls Tryz.prog 88 [.sl 1 (l.map dG)] (.d (.sl 1 ((N4 l).map dG))):=by
 obtain⟨r,hr⟩:=H1 (N4 l)
 rw[<-hr]
 refine L7 Tryz.func88 O Tryz.ntmps88 Tryz.results88 fun B w0=>?_
 refine B4 (C9 O (yQ (A5 (A9 ?_))));refine G6 (fun n:Nat=>⟨21,[(0,.d (.sl 1 ((l.take n).map dG)))],[],[]⟩) (fun n=>n<=l.length∧N4 (l.take n)=r) (fun n=>n) l.length ⟨D6 _,by rw[I4,hr]⟩
  ⟨rfl,⟨.of_eq (by rw[I4];rfl),C8⟩,C8,C8,rfl⟩ ?_
 rintro n ⟨hn,hc⟩
 have hlen:(l.take n).length=n:=by rw[F3];omega
 have hnx:∀ x,(l.take n)[n-1]? = some x->0<n->l.take n=l.take (n-1)++[x]:=fun x hx h0=>by
  obtain⟨m,rfl⟩:∃ m,n=m+1:=⟨n-1,by omega⟩
  rw[C7 (by omega)]at hx
  rw[G7,Nat.add_sub_cancel]at *
  rw[hx];rfl
 have htk:((l.take n).map dG).take (((n-1:Nat):Int)).toNat=(l.take (n-1)).map dG:=by
  rw[H6,<-List.map_take,List.take_take,Nat.min_eq_left (by omega)]
 obtain⟨c,hcc⟩:=H1 (l.take n)
 rw[<-hcc]at hc hlen hnx htk ⊢
 rcases F7 n with h0|h0
 . have hc0:c=[]:=List.length_eq_zero_iff.1 (by omega)
   subst hc0
   have hr0:r=[]:=hc.symm
   subst hr0
   refine A5 (B4 (B1 O (yN O (yB O O O O (B1 O (yO O (yO O (yO O (yO O ?_)))))))));refine yO O (yO O (yO O (I6 O O (yQ (B9 O (F6 (B4 (B1 O (C9 O ?_)))))))));refine yQ (C4 ?_)
   exact J2 O O
 have u1:decide (((c.map dG).length:Int) > 0)=true:=C5 (by rw[D3];omega)
 obtain⟨x,hx⟩:∃ x,c[n-1]? = some x:=⟨_,A4 (by omega)⟩
 have ex:=ix dG c ((n-1:Nat):Int) (n-1) x rfl hx
 have hw:IntKind.i64.wrap (((c.map dG).length:Int)-1)=((n-1:Nat):Int):=by rw[D3,H2 _ (by omega)];omega
 have hcl:((n-1:Nat):Int)<=((c.map dG).length:Int):=by rw[D3];omega
 have hs:=hnx x hx h0
 have hcs:=KQ (l.take (n-1)) x
 rw[<-hs,hc]at hcs
 rcases F7 x with hx0|hx0
 . subst hx0
   rw[C2 rfl]at hcs
   refine A5 (B4 (B1 O (yN O (yB O O O O (B1 O ?_)))));rw[u1];refine B1 O (B1 O (yN O (yB O O O O ?_)));rw[hw];refine yW ex (by omega) O O (K7 O O (yB O O O O (J7 O O (yQ (E0 O (A7 (A9 (B3 (B1 O ?_)))))))));refine B1 O (yN O (yB O O O O ?_));rw[hw];refine yDh (by omega) hcl O O (C9 O (yQ (LU (B6 ?_))))
   exact⟨n-1,⟨by omega,hcs.symm⟩,by omega,rfl,⟨.of_eq (by rw[<-htk];rfl),C8⟩,C8,C8,rfl⟩
 . rw[B8 (by omega)]at hcs
   have u2:((x:Int)==0)=false:=by simp;omega
   refine A5 (B4 (B1 O (yN O (yB O O O O (B1 O ?_)))));rw[u1];refine B1 O (B1 O (yN O (yB O O O O ?_)));rw[hw];refine yW ex (by omega) O O (K7 O O (yB O O O O (J7 O O (yQ (B6 ?_)))));rw[u2];refine B9 O (F6 (B4 (B1 O (C9 O (yQ (C4 ?_))))))
   rw[hcs]
   exact J2 O O
theorem KT {m n:List Nat} (i:Nat) {x y:Nat} (hx:m[i]? = some x) (hy:n[i]? = some y):EG m n (i+1)=if x<y then -1 else if y<x then 1 else EG m n i:=by
 rw[EG,T3 hx,T3 hy]
theorem Kv (l r:List Nat) (hl:l.length<=1000000) (hr:r.length<=1000000):PCalls Tryz.prog 84 [.sl 1 (l.map dG),.sl 1 (r.map dG)] (.d (dI (EH l r))):=by
 unfold EH
 by_cases hne:l.length≠r.length
 . rw[C2 hne]
   have u1:(((l.map dG).length:Int) != ((r.map dG).length:Int))=true:=by simp;omega
   have hw:IntKind.i64.wrap (((l.map dG).length:Int)-((r.map dG).length:Int))=(l.length:Int)-r.length:=by rw[D3,D3,H2 _ (by omega)]
   refine L7 Tryz.func84 O Tryz.ntmps84 Tryz.results84 fun B w0=>?_
   refine B4 (C9 O (yQ (A5 (B4 (B1 O (yN O (B1 O (yN O (yB O O O O ?_)))))))));refine yQ (B6 ?_);rw[u1];refine E0 O (B4 (B1 O (yN O (B1 O (yN O (yB O O O O (C9 O (yQ (C4 ?_)))))))));refine A8 ?_;rw[hw]
   exact J2 O O
 rw[B8 hne]
 have hlr:l.length=r.length:=by omega
 have u1:(((l.map dG).length:Int) != ((r.map dG).length:Int))=false:=by simp;omega
 obtain⟨z,hz⟩:=H1 (EG l r l.length)
 rw[<-hz]
 have hw:IntKind.i64.wrap (((l.map dG).length:Int)-1)=(l.length:Int)-1:=by rw[D3,H2 _ (by omega)]
 refine L7 Tryz.func84 O Tryz.ntmps84 Tryz.results84 fun B w0=>?_
 refine B4 (C9 O (yQ (A5 (B4 (B1 O (yN O (B1 O (yN O (yB O O O O ?_)))))))));refine yQ (B6 ?_);rw[u1];refine B9 O (A7 (A5 (B4 (B1 O (yN O (yB O O O O (C9 O (yQ (A9 ?_)))))))));rw[hw]
 refine G6 (fun i:Nat=>⟨43,[(0,.d (.sl 1 (l.map dG))),(1,.d (.sl 1 (r.map dG))),(5,.d (dI ((i:Int)-1)))],[],[]⟩) (fun i=>i<=l.length∧EG l r i=z) (fun i=>i) l.length ⟨D6 _,hz.symm⟩
  ⟨rfl,⟨.refl _,.refl _,.refl _,C8⟩,C8,C8,rfl⟩ ?_
 rintro i ⟨hi,hc⟩
 rcases F7 i with h0|h0
 . subst h0
   have hz0:z=0:=hc.symm
   subst hz0
   have u2:decide (((0:Nat):Int)-1 ≥ 0)=false:=C3 (by omega)
   refine A5 (B4 (B1 O (yB O O O O (yQ (B9 O (F6 (B4 (C9 O (yQ ?_)))))))));refine C4 ?_;rw[u2]
   exact J2 O O
 obtain⟨j,rfl⟩:∃ j,i=j+1:=⟨i-1,by omega⟩
 have u2:decide (((j+1:Nat):Int)-1 ≥ 0)=true:=C5 (by omega)
 obtain⟨x,hx⟩:∃ x,l[j]? = some x:=⟨_,A4 (by omega)⟩
 obtain⟨y,hy⟩:∃ y,r[j]? = some y:=⟨_,A4 (by omega)⟩
 have ex:=ix dG l (((j+1:Nat):Int)-1) j x (by omega) hx
 have ey:=ix dG r (((j+1:Nat):Int)-1) j y (by omega) hy
 have hn:=KT j hx hy
 rw[hc]at hn
 have hw2:IntKind.i64.wrap (((j+1:Nat):Int)-1-1)=(j:Int)-1:=by rw[H2 _ (by omega)];omega
 by_cases hxy:x<y
 . rw[C2 hxy]at hn
   have u3:decide ((x:Int)<(y:Int))=true:=C5 (by omega)
   subst hn
   refine A5 (B4 (B1 O (yB O O O O (yQ (B6 ?_)))));rw[u2];refine E0 O (A7 (A5 (A9 (A9 (A5 ?_)))));refine G1 Tryz.mixed (by kernel_rfl) ?_;refine B1 O (B1 O (yW ex (by omega) O O (K7 O O (B1 O (B1 O (yW ey (by omega) O O (K7 O O (yB O O O O (C9 O ?_)))))))));refine yQ (B6 ?_);rw[u3];refine E0 O (B4 (C9 O (yQ (C4 (C0 (C0 (A8 (A8 (C0 ?_)))))))));refine A8 ?_
   exact J2 O O
 rw[B8 hxy]at hn
 have u3:decide ((x:Int)<(y:Int))=false:=C3 (by omega)
 by_cases hyx:y<x
 . rw[C2 hyx]at hn
   have u4:decide ((x:Int) > (y:Int))=true:=C5 (by omega)
   subst hn
   refine A5 (B4 (B1 O (yB O O O O (yQ (B6 ?_)))));rw[u2];refine E0 O (A7 (A5 (A9 (A9 (A5 ?_)))));refine G1 Tryz.mixed (by kernel_rfl) ?_;refine B1 O (B1 O (yW ex (by omega) O O (K7 O O (B1 O (B1 O (yW ey (by omega) O O (K7 O O (yB O O O O (C9 O ?_)))))))));refine yQ (B6 ?_);rw[u3];refine B9 O (A5 ?_);refine G1 Tryz.mixed (by kernel_rfl) ?_;refine B1 O (B1 O (yW ex (by omega) O O (K7 O O (B1 O (B1 O (yW ey (by omega) O O (K7 O O (yB O O O O (C9 O ?_)))))))));refine yQ (B6 ?_);rw[u4];refine E0 O (B4 (C9 O (yQ (C4 (C0 (C0 (A8 (A8 (C0 ?_)))))))));refine A8 ?_
   exact J2 O O
 rw[B8 hyx]at hn
 have u4:decide ((x:Int) > (y:Int))=false:=C3 (by omega)
 refine A5 (B4 (B1 O (yB O O O O (yQ (B6 ?_)))));rw[u2];refine E0 O (A7 (A5 (A9 (A9 (A5 ?_)))));refine G1 Tryz.mixed (by kernel_rfl) ?_;refine B1 O (B1 O (yW ex (by omega) O O (K7 O O (B1 O (B1 O (yW ey (by omega) O O (K7 O O (yB O O O O (C9 O ?_)))))))));refine yQ (B6 ?_);rw[u3];refine B9 O (A5 ?_);refine G1 Tryz.mixed (by kernel_rfl) ?_;refine B1 O (B1 O (yW ex (by omega) O O (K7 O O (B1 O (B1 O (yW ey (by omega) O O (K7 O O (yB O O O O (C9 O ?_)))))))));refine yQ (B6 ?_);rw[u4];refine B9 O (A7 (B3 (B1 O (yB O O O O (C9 O (yQ (B6 ?_)))))));rw[hw2]
 exact⟨j,⟨by omega,hn.symm⟩,by omega,rfl,⟨.refl _,.refl _,.refl _,C8⟩,C8,C8,rfl⟩
end Go.Proofs.YtdkpmnefoobipaaGreatDoor