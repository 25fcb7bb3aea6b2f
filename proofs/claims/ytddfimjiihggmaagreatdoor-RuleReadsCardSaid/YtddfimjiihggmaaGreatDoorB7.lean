/- A rule for strings.Builder's String: what its row holds, as a string; the builder and its row are told no more. -/
import Derived.Test.YtddfimjiihggmaaGreatDoorB6
import Derived.Lib.AppendIntMem
set_option maxHeartbeats 16000000
set_option maxRecDepth 20000
namespace Go.Proofs.YtddfimjiihggmaaGreatDoor.Px
open Go.RowKit Go.Shelf
variable {g:Gh}
theorem Ce (w:World) (a:Addr) (n b:Nat) (h:b≠a.block):(w.freeze a n).heap[b]? = w.heap[b]?:=by
 unfold World.freeze
 split
 . rfl
 . simp only[Array.getElem?_modify]
   rw[B5 (fun e=>h e.symm)]
theorem LA (w:World) (a:Addr) (n:Nat):(w.freeze a n).heap.size=w.heap.size:=by
 unfold World.freeze
 split
 . rfl
 . simp
theorem frz_see (w:World) (a:Addr) (n b o:Nat):Z3 (w.freeze a n) b o=Z3 w b o:=by
 by_cases h:b=a.block
 . subst h
   unfold World.freeze
   split
   . rfl
   . unfold Z3
     simp only[Array.getElem?_modify,if_true]
     cases w.heap[a.block]? with
     | none=>rfl
     | some x=>cases x<;>rfl
 . exact L3 (Ce w a n b h) o
theorem Ih (w:World) (a:Addr) (n b:Nat):(w.freeze a n).shape? b=w.shape? b:=by
 by_cases h:b=a.block
 . subst h
   unfold World.freeze
   split
   . rfl
   . unfold World.shape?
     simp only[Array.getElem?_modify,if_true]
     cases w.heap[a.block]? with
     | none=>rfl
     | some x=>cases x<;>rfl
 . exact J9 (Ce w a n b h)
def PS.tdel (st:PS) (t:Nat):PS:={ st with t:=st.t.filter fun p=>!Nat.beq p.1 t }
theorem KM (st:PS) (t j:Nat):(st.tdel t).tget j=if j=t then none else st.tget j:=Ck st.t t j
def Gh.delt (g:Gh) (t:Nat):Gh:={ g with tk:=fun j=>if j=t then none else g.tk j }
theorem Gh.delt_tk {t j:Nat} {T:Tk} (h:(g.delt t).tk j=some T):g.tk j=some T∧j≠t:=by
 simp only[Gh.delt]at h
 split at h
 . cases h
 . rename_i e;exact⟨h,e⟩
theorem JW {w w':World} {base E k n:Nat} {v:Value} {xs:List Value} (h:w.ownsRow base E k v n xs) (hh:∀ b,v.ownBlock=some b->w'.heap[b]? = w.heap[b]?):w'.ownsRow base E k v n xs:=by
 refine⟨h.1,?_⟩
 rcases h.2 with h1|⟨g,cap,cur,h1,h2,h3,h4⟩
 . exact .inl h1
 . exact .inr ⟨g,cap,cur,h1,h2,(hh g (by rw[h1];rfl)).trans h3,h4⟩
theorem Rep.frz {B:Nat} {w0:Cx} {st:PS} {a:Act} {w:World} (h:Rep B w0 g st a w) {t gb n c:Nat} {T:Tk} (hT:g.tk t=some T) (hv:T.v=.slice (some ⟨gb,0,none⟩) n c) (m:Nat):Rep B w0 (g.delt t) (st.tdel t) a (w.freeze ⟨gb,0,none⟩ m):=by
 have hob:T.v.ownBlock=some gb:=by rw[hv];rfl
 have ev:Evo g w (g.delt t) (w.freeze ⟨gb,0,none⟩ m):=⟨Lib.below_freeze (Below.refl 0 w) (E7 _) m,rfl,fun b o hf _=>⟨⟨hf.1,hf.2.1,fun t' T' n' c' q1 q2=>hf.2.2 t' T' n' c' (Gh.delt_tk q1).1 q2⟩,frz_see _ _ _ _ _⟩,fun b hb=>Ce _ _ _ _ fun e=>hb (.inr (.inr ⟨t,T,hT,by rw[hob,e]⟩)),fun _ _ h=>.inl h,fun _ T' h'=>.inl ⟨T',(Gh.delt_tk h').1,.inl rfl⟩,fun t' T' _ h' hb=>.inr (.inr ⟨t',T',(Gh.delt_tk h').1,hb⟩),fun _ _ _ _ _=>Ih _ _ _ _⟩
 have srep:∀ v x,SRep g w v x->SRep (g.delt t) (w.freeze ⟨gb,0,none⟩ m) v x:=fun v x hx=>
  hx.extp ev.fx (fun _ _ _ h=>h) (fun t' k es _ T' hT'=>⟨T',(Gh.delt_tk hT').1,.inl rfl⟩) fun _ _ _ _=>Ih _ _ _ _
 have hne:∀ i b,g.bl i=some b->(w.freeze ⟨gb,0,none⟩ m).heap[b]? = w.heap[b]?:=fun i b hi=>Ce _ _ _ _ fun e=>(h.toks t T hT).2 i gb hob (by rw[hi,e])
 refine { h with evo:=h.evo.trans ev,defers:=h.defers.evo ev,base:=by rw[LA];exact h.base,f0:=h.f0,lim:=h.lim,size:=h.size,slots:=fun j=>srep _ _ (h.slots j),glob:=fun q cs hq=>srep _ (.rd cs) (h.glob q cs hq),boxes:=fun j cs hj hlt=>?_,maps:=fun j ms hj hge=>?_,blk:=fun j b hj=>⟨(h.blk j b hj).1,by rw[LA];exact(h.blk j b hj).2⟩,dom:=h.dom,inj:=h.inj,toks:=fun t' T' hT'=>?_,tf0:=fun t' T' b o hT' hb=>h.tf0 t' T' b o (Gh.delt_tk hT').1 hb,telt:=fun t' T' hT'=>h.telt t' T' (Gh.delt_tk hT').1,tdis:=fun t1 t2 T1 T2 b h1 h2=>h.tdis t1 t2 T1 T2 b (Gh.delt_tk h1).1 (Gh.delt_tk h2).1,tdom:=fun t' T' hT'=>?_,tlen:=fun t' n' ht'=>?_ }
 . obtain⟨b,xs,T0,h2,h3,h4,h5,h6⟩:=h.boxes j cs hj hlt
   refine⟨b,xs,T0,h2,(hne j b h2).trans h3,h4,fun q c0 hq=>?_,h6⟩
   obtain⟨x,h8,h9⟩:=h5 q c0 hq
   exact⟨x,h8,srep _ _ h9⟩
 . obtain⟨b,es,c0,h4,h5,h6⟩:=h.maps j ms hj hge
   exact⟨b,es,c0,h4,(hne j b h4).trans h5,h6.mono ev.fx⟩
 . obtain⟨h1,h2⟩:=Gh.delt_tk hT'
   obtain⟨⟨n',xs,h3⟩,h4⟩:=h.toks t' T' h1
   exact⟨⟨n',xs,JW h3 fun b hb=>Ce _ _ _ _ fun e=>h2 (h.tdis t' t T' T gb h1 hT (by rw[hb,e]) hob)⟩,h4⟩
 . obtain⟨h1,h2⟩:=Gh.delt_tk hT'
   rw[KM,B5 h2]
   exact h.tdom t' T' h1
 . rw[KM]at ht'
   split at ht'
   . cases ht'
   . rename_i e
     obtain⟨T',A,c0,h1,h2⟩:=h.tlen t' n' ht'
     exact⟨T',A,c0,by simp only[Gh.delt];rw[B5 e];exact h1,h2⟩
set_option maxRecDepth 100000 in
theorem str_raw {P:Program} {ρ:Ren} (L:Lays.n169 P ρ) (X:Builder.Extra P ρ) (b g cap cells:Nat) (l:List UInt8) (w:World) (h0:l≠[]) (c0:w.cell? ⟨b,1,none⟩=some (.slice (some ⟨g,0,none⟩) l.length cap)) (hsh:w.shape? g=some (ρ.t 5,cells)) (hn:l.length<=cells) (hcap:l.length<=cap) (hm:l.length<=9223372036854775807)
 (hcell:∀ (j:Nat) x,l[j]? = some x->w.cell? ((⟨g,0,none⟩:Addr).add j)=some (.int .u8 x.toNat)):
 Calls P (ρ.f 169) #[.pointer (some ⟨b,0,none⟩)] w fun e w'=>e=.returned (.string ⟨l.toArray⟩)∧w'=w.drew.freeze ⟨g,0,none⟩ l.length:=by
 have hl0:l.length≠0:=by simpa using h0
 have c1:w.drew.cell? ⟨b,1,none⟩=some (.slice (some ⟨g,0,none⟩) l.length cap):=c0
 have hSD:(Builtin.unsafeSliceData_ #[(ρ.t 37)] (ρ.t 127) #[.slice (some ⟨g,0,none⟩) l.length cap]).run P w.drew=.ok (.pointer (some ⟨g,0,none⟩)) w.drew:=
  Lib.run_unsafeSliceData_row _ _ _ _ _ _ (by omega)
 have hUS:(Builtin.unsafeString_ #[(ρ.t 127),(ρ.t 3)] (ρ.t 9) #[.pointer (some ⟨g,0,none⟩),.int .i64 l.length]).run P w.drew=.ok (.string ⟨l.toArray⟩) (w.drew.freeze ⟨g,0,none⟩ l.length):=
  Lib.run_unsafeString_row w.drew (ρ.t 127) (ρ.t 3) (ρ.t 9) (ρ.t 5) L.t127 X.cellsByte g cells hsh l h0 hn hm hcell
 have mixed:=L.mixed
 have t72:=L.t72;have a72:=L.a72;have z72:=L.z72;have v72:=L.v72;have u72:=run_underlying L.t72
 have t70:=L.t70;have a70:=L.a70;have z70:=L.z70;have v70:=L.v70;have u70:=run_underlying L.t70
 have t37:=L.t37;have a37:=L.a37;have z37:=L.z37;have v37:=L.v37;have u37:=run_underlying L.t37
 have t127:=L.t127;have a127:=L.a127;have z127:=L.z127;have v127:=L.v127;have u127:=run_underlying L.t127
 have t3:=L.t3;have a3:=L.a3;have z3:=L.z3;have v3:=L.v3;have u3:=run_underlying L.t3
 have t9:=L.t9;have a9:=L.a9;have z9:=L.z9;have v9:=L.v9;have u9:=run_underlying L.t9
 have t5:=X.t5;have a5:=X.a5;have z5:=X.z5;have v5:=X.v5;have u5:=run_underlying X.t5
 go_enter L.f169,Body.n169_ntmps ρ
 go_wp2
 go_region_o
 all_goals (go_wp2;go_ret;exact⟨rfl,C⟩)
section
variable {P:Program} {ops:Array Oper} {K:PS->Prop} {rest:List Oper} {st:PS} {d:Option Nat} {ty:TypeId} {pos:String} {af:Array Edge} {gd:Option (Nat×Bool)}
theorem yStr {f e t:Nat} {l:List UInt8} {es:List (List DV)} {x:Operand} {x0:SV} {ts:Array TypeId} {ρ:Ren} [hB:HasBody P f] (L:Lays.n169 P ρ) (X:Builder.Extra P ρ) (hf:ρ.f 169=f) (hE:t / 100000=ρ.t 5) (h0:l≠[]) (hes:es=l.map fun c=>[DV.val (.int .u8 c.toNat)]) (hx:st.ev x=.bx e 0) (hi:st.bget e=some [x0,.ts t 1 es]) (ht:st.tget t=some es.length)
 (h:YR P true ops K rest (((st.kill e).tdel t).put d (.d (dS l)))) (hlt:Nat.blt e 500000=true:=by rfl) (hd:I1 ⟨d,.call { callee:=.value (.func f),args:=#[x],argTypes:=ts },ty,pos,af,gd⟩ st=true:=by kernel_rfl) (hw:st.want ops ⟨d,.call { callee:=.value (.func f),args:=#[x],argTypes:=ts },ty,pos,af,gd⟩=some true:=by rfl):
 YR P true ops K (⟨d,.call { callee:=.value (.func f),args:=#[x],argTypes:=ts },ty,pos,af,gd⟩::rest) st:=by
 subst hf
 refine .any C fun B w0 Q hQ g a w hr=>?_
 have h1:=hr.eval x
 rw[hx]at h1
 obtain⟨b,hb,hax⟩:=h1
 obtain⟨b',xs,T0,q1,q2,q3,q4,q5⟩:=hr.boxes e _ hi (C0 hlt)
 rw[hb]at q1
 cases q1
 obtain⟨x1,q6,q7,q8⟩:=q4 1 (.ts t 1 es) rfl
 obtain⟨T,A,c,r1,r2⟩:=hr.tlen t _ ht
 obtain⟨hk,hT⟩:=q8 T r1
 have hx1:x1=T.v:=(hT A _ c r2).2 rfl
 obtain⟨⟨n',xs',-,hown⟩,-⟩:=hr.toks t T r1
 have hlen:es.length=l.length:=by rw[hes,A8]
 have hl0:0<l.length:=List.length_pos_iff.2 h0
 rcases hown with⟨hv,h00⟩|⟨gb,cap,cur,hv,-,hg,hnc,hcm,hcs,-⟩
 . rw[r2]at hv
   have:=(Value.slice.inj hv).2.1
   omega
 have hv2:T.v=.slice (some ⟨gb,0,none⟩) n' cap:=hv
 rw[r2]at hv
 have hn':es.length=n':=(Value.slice.inj hv).2.1
 obtain⟨A2,c2,news,s1,-,s3,-,s5,s6,-,s8⟩:=DRep.row q7
 obtain⟨b2,off2,s9,s10⟩:=s6 (by omega)
 rw[hx1,hv2,s9]at s1
 have hbo:gb=b2∧0=off2:=by
  have:=J0 (Value.slice.inj s1).1
  cases this
  exact⟨rfl,C⟩
 obtain⟨rfl,rfl⟩:=hbo
 have hcell:∀ (j:Nat) y,l[j]? = some y->w.cell? ((⟨gb,0,none⟩:Addr).add j)=some (.int .u8 y.toNat):=fun j y hj=>by
  obtain⟨u,u1,u2⟩:=s8 j 0 [DV.val (.int .u8 y.toNat)] _ (by rw[hes,C6,hj];rfl) rfl
  rw[Nat.mul_one,Nat.add_zero]at u1
  have:=(s10 j u u1).1
  rw[DRep.val_eq u2]at this
  rw[Addr.add_lit]
  exact this
 have hc1:w.cell? ⟨b,1,none⟩=some (.slice (some ⟨gb,0,none⟩) l.length cap):=by
  have:x1=.slice (some ⟨gb,0,none⟩) l.length cap:=by rw[hx1,hv2,<-hn',hlen]
  rw[<-this]
  simp only[World.cell?,q2,Option.isSome_none,Bool.false_eq_true,if_false]
  exact q6
 have hsh:w.shape? gb=some (ρ.t 5,cur.size):=by
  rw[<-hE,<-hr.telt t T r1]
  simp[World.shape?,hg]
 have V0:=str_raw L X b gb cap cur.size l w h0 hc1 hsh (by rw[hcs,hk];omega) (by omega) (by unfold maxLen at hcm;omega) hcell
 have hrun:(execOp a.eval ⟨d,.call { callee:=.value (.func (ρ.f 169)),args:=#[x],argTypes:=ts },ty,pos,af,gd⟩).run P w=.ok (.enter (ρ.f 169) #[.pointer (some ⟨b,0,none⟩)]) w:=by
  simp only[execOp,resolve,Act.eval,Deferred.ofValue,Sem.run_bind,Sem.run_pure,D4,invoke]
  rw[hB.run]
  simp[hax]
 unfold wpList
 rw[B9 (M4 hr hw)]
 refine .inl ?_
 unfold Oper.wp
 rw[hrun]
 show Calls P (ρ.f 169) _ w _
 refine V0.mono ?_
 rintro en w' ⟨rfl,rfl⟩
 have r3:Rep B w0 g st a w.drew:=hr.grow (Below.drew (Below.refl _ _))
 have r4:=(r3.kill e).2
 have r5:=r4.frz (t:=t) (T:=T) r1 hv2 l.length
 exact h.sound hQ (r5.put (x:=.d (dS l)) (DRep.val _ C) _ (H6 (st:=st) hd))
end
open Go.RowKit
variable {x y:Operand} {T i n te:Nat} {zs:List Value} {l:List UInt8}
section
variable {P:Program} {B:Nat} {w0:Cx} {Q:Exit->PS->Prop} {st:PS} {c:Code}
theorem IQ (s:Nat) (hs:st.get s=.tx i T n) (h:PW P B w0 c Q (st.put (some s) (.bx i 0))):PW P B w0 c Q st:=fun g a w hr=>by
 have hv:=hr.slots s
 rw[hs]at hv
 obtain⟨b,h1,h2,-⟩:=hv
 refine h g a w { hr with lim:=hr.lim,size:=hr.size,boxes:=hr.boxes,maps:=hr.maps,dom:=hr.dom,tdom:=hr.tdom,tlen:=hr.tlen,glob:=hr.glob,slots:=fun j=>?_ }
 rw[Q5]
 by_cases e:j=s
 . rw[B9 e,e];exact⟨b,h1,h2⟩
 . rw[B5 e];exact hr.slots j
end
section
variable {P:Program} {sq:Bool} {ops:Array Oper} {K:PS->Prop} {rest:List Oper} {st:PS} {d:Option Nat} {ty:TypeId} {pos:String} {af:Array Edge} {gd:Option (Nat×Bool)}
theorem PG (T:TypeId) {e:Nat} [hz:ZeroOf P T zs] (hi:st.bget e=none) (hd:I1 ⟨some e,.alloc T,ty,pos,af,gd⟩ st=true):
 M6 P ⟨some e,.alloc T,ty,pos,af,gd⟩ st (.tx e T zs.length) (.box e (zs.map fun z=>.d (.val z))):=fun st2 ha=>by
 intro B w0 g a w K Q hr hK
 obtain⟨z,h1,h2⟩:=hz.run w
 have hrun:(execOp a.eval ⟨some e,.alloc T,ty,pos,af,gd⟩).run P w=.ok (.value (.pointer (some ⟨w.heap.size,0,none⟩))) (w.alloc (.cells zs.toArray T)):=by
  rw[<-h2]
  simp[execOp,Instr.alloc,newVar,newRow,go_sem,h1]
 have hin:e<st2.n:=H6 (ha.dst hd) e rfl
 have hlim:st2.n<=10000:=hr.lim
 have hrep:=hr.newb e T (ha.fresh rfl e rfl e (Al (by omega)) hi) hin zs.toArray (zs.map fun z=>.d (.val z)) (by simp) (fun j c hj=>by
  rw[C6,C7]at hj
  obtain⟨y,h3,rfl⟩:=hj
  exact⟨y,by simpa using h3,DRep.val y (hz.one y (B8 h3))⟩) (fun u hu=>hz.one u (by simpa using hu))
 unfold Oper.wp
 rw[hrun]
 refine hK _ _ _ (hrep.put (x:=.tx e T zs.length) ?_ _ (H6 (st:=st2.bput e _) (ha.dst hd)))
 refine⟨w.heap.size,by simp[Gh.addb],rfl,?_⟩
 unfold World.shape?
 rw[heap_alloc_new]
 simp
theorem yQa {e:Nat} [hz:ZeroOf P T zs] (hi:st.bget e=none)
 (h:YR P sq ops K rest ((st.bput e (zs.map fun z=>.d (.val z))).put (some e) (.tx e T zs.length))) (zz:zk ops st ⟨some e,.alloc T,ty,pos,af,gd⟩ (.box e (zs.map fun z=>.d (.val z)))=true:=by kernel_rfl):
 YR P sq ops K (⟨some e,.alloc T,ty,pos,af,gd⟩::rest) st:=Dr (PG T hi (zd zz)) (zo zz) (zw zz) h
theorem DI (hx:st.ev y=.tx i T n) (h:YR P sq ops K rest (st.put d (.tx i T n))) (zz:zk ops st ⟨d,.move y,ty,pos,af,gd⟩ .no=true:=by kernel_rfl):YR P sq ops K (⟨d,.move y,ty,pos,af,gd⟩::rest) st:=M3 (lm (x:=.tx i T n) hx (zd zz)) (zo zz) (zw zz) h
theorem yQl {i' T' n':Nat} {off:Nat} {cs:List SV} [AggOf P T false 1] (hx:st.ev y=.bx i off) (hi:st.bget i=some cs) (hc:cs[off]? = some (.tx i' T' n')) (h:YR P sq ops K rest (st.put d (.tx i' T' n'))) (zz:zk ops st ⟨d,.load T y,ty,pos,af,gd⟩ .no=true:=by kernel_rfl) (h5:Nat.blt i 500000=true:=by rfl):YR P sq ops K (⟨d,.load T y,ty,pos,af,gd⟩::rest) st:=M3 (Je T y (C0 h5) hx hi hc (zd zz)) (zo zz) (zw zz) h
theorem yQs {i' T' n':Nat} {z:Operand} {off:Nat} {cs cs':List SV} [AggOf P T false 1] (hz:st.ev z=.bx i off) (hi:st.bget i=some cs) (hy:st.ev y=.tx i' T' n') (hcs:cs.set off (.tx i' T' n')=cs') (h:YR P sq ops K rest ((st.bput i cs').put d .any)) (hle:Nat.blt off cs.length=true:=by kernel_rfl) (zz:zk ops st ⟨d,.store T z y,ty,pos,af,gd⟩ (.box i cs')=true:=by kernel_rfl) (h5:Nat.blt i 500000=true:=by rfl):YR P sq ops K (⟨d,.store T z y,ty,pos,af,gd⟩::rest) st:=by subst hcs;exact Dr (JC (x:=.tx i' T' n') (C0 h5) hz hi hy C (C0 hle) (zd zz)) (zo zz) (zw zz) h
theorem ls_nilT (x:Operand) (hx:st.ev x=.tx i T n) (hd:I1 ⟨d,.nilCheck x,ty,pos,af,gd⟩ st=true):M6 P ⟨d,.nilCheck x,ty,pos,af,gd⟩ st (.bx i 0) .no:=fun st2 ha=>
 OpS.value (ha.dst hd) fun _ _ g a w h=>by
  have h1:=h.eval x
  rw[ha.ev x (by simp[Op.operands]),hx]at h1
  obtain⟨b,h2,h3,-⟩:=h1
  refine⟨.pointer (some ⟨b,0,none⟩),w,?_,Below.refl _ _,b,h2,C⟩
  simp[execOp,h3]
theorem Hp (hx:st.ev x=.tx i T n) (h:YR P sq ops K rest (st.put d (.bx i 0))) (zz:zk ops st ⟨d,.nilCheck x,ty,pos,af,gd⟩ .no=true:=by kernel_rfl):
 YR P sq ops K (⟨d,.nilCheck x,ty,pos,af,gd⟩::rest) st:=M3 (ls_nilT x hx (zd zz)) (zo zz) (zw zz) h
theorem ls_toU (S D:TypeId) (x:Operand) {t:Nat} {j:TypeInfo} (hs:P.underlying S=some (.pointer t)) (hD:P.underlying D=some .unsafePointer) (ht:P.info? t=some j) (hj:j.size≠0) (hn:0<n) (hx:st.ev x=.tx i T n) (hd:I1 ⟨d,.convert S D x,ty,pos,af,gd⟩ st=true):M6 P ⟨d,.convert S D x,ty,pos,af,gd⟩ st (.tx i T n) .no:=fun st2 ha=>
 OpS.value (ha.dst hd) fun _ _ g a w h=>by
  have h1:=h.eval x
  rw[ha.ev x (by simp[Op.operands]),hx]at h1
  obtain⟨b,h2,h3,h4⟩:=h1
  refine⟨.pointer (some ⟨b,0,none⟩),w,?_,Below.refl _ _,b,h2,C,h4⟩
  simp[execOp,h3,Lib.run_to_unsafe w ⟨b,0,none⟩ hs hD ht hj h4 hn,Result.andThen]
theorem yQu {S D:Nat} {t:Nat} {j:TypeInfo} (hs:P.underlying S=some (.pointer t)) (hD:P.underlying D=some .unsafePointer) (ht:P.info? t=some j) (hj:j.size≠0) (hn:0<n) (hx:st.ev x=.tx i T n) (h:YR P sq ops K rest (st.put d (.tx i T n))) (zz:zk ops st ⟨d,.convert S D x,ty,pos,af,gd⟩ .no=true:=by kernel_rfl):
 YR P sq ops K (⟨d,.convert S D x,ty,pos,af,gd⟩::rest) st:=M3 (ls_toU S D x hs hD ht hj hn hx (zd zz)) (zo zz) (zw zz) h
theorem ls_ofU (S D:TypeId) (x:Operand) {u:Nat} {j:TypeInfo} (hs:P.underlying S=some .unsafePointer) (hD:P.underlying D=some (.pointer u)) (hu:P.info? u=some j) (hl:liesAt P P.depth T (n / P.cellsOf T) 0 u 1=true) (hx:st.ev x=.tx i T n) (hd:I1 ⟨d,.convert S D x,ty,pos,af,gd⟩ st=true):M6 P ⟨d,.convert S D x,ty,pos,af,gd⟩ st (.tx i T n) .no:=fun st2 ha=>
 OpS.value (ha.dst hd) fun _ _ g a w h=>by
  have h1:=h.eval x
  rw[ha.ev x (by simp[Op.operands]),hx]at h1
  obtain⟨b,h2,h3,h4⟩:=h1
  refine⟨.pointer (some ⟨b,0,none⟩),w,?_,Below.refl _ _,b,h2,C,h4⟩
  simp[execOp,h3,Lib.run_from_unsafe w ⟨b,0,none⟩ hs hD hu h4 hl,Result.andThen]
theorem yQc {S D:Nat} {u:Nat} {j:TypeInfo} (hs:P.underlying S=some .unsafePointer) (hD:P.underlying D=some (.pointer u)) (hu:P.info? u=some j) (hl:liesAt P P.depth T (n / P.cellsOf T) 0 u 1=true) (hx:st.ev x=.tx i T n) (h:YR P sq ops K rest (st.put d (.tx i T n))) (zz:zk ops st ⟨d,.convert S D x,ty,pos,af,gd⟩ .no=true:=by kernel_rfl):
 YR P sq ops K (⟨d,.convert S D x,ty,pos,af,gd⟩::rest) st:=M3 (ls_ofU S D x hs hD hu hl hx (zd zz)) (zo zz) (zw zz) h
theorem ls_same (f:Nat) (x:Operand) (ts:Array TypeId) (hf:∀ v w,(callFunc f #[v]).run P w=.ok (.value v) w) (hx:st.ev x=.tx i T n) (hd:I1 ⟨d,.call { callee:=.value (.func f),args:=#[x],argTypes:=ts },ty,pos,af,gd⟩ st=true):M6 P ⟨d,.call { callee:=.value (.func f),args:=#[x],argTypes:=ts },ty,pos,af,gd⟩ st (.tx i T n) .no:=fun st2 ha=>
 OpS.value (ha.dst hd) fun _ _ g a w h=>by
  have h1:=h.eval x
  rw[ha.ev x (by simp[Op.operands,Call.operands]),hx]at h1
  obtain⟨b,h2,h3,h4⟩:=h1
  refine⟨.pointer (some ⟨b,0,none⟩),w,?_,Below.refl _ _,b,h2,C,h4⟩
  simp only[execOp,resolve,Act.eval,Deferred.ofValue,Sem.run_bind,Sem.run_pure,D4,invoke]
  simp[h3,hf]
theorem yQn {f:Nat} {ts:Array TypeId} (hf:∀ v w,(callFunc f #[v]).run P w=.ok (.value v) w) (hx:st.ev x=.tx i T n) (h:YR P sq ops K rest (st.put d (.tx i T n))) (zz:zk ops st ⟨d,.call { callee:=.value (.func f),args:=#[x],argTypes:=ts },ty,pos,af,gd⟩ .no=true:=by kernel_rfl):
 YR P sq ops K (⟨d,.call { callee:=.value (.func f),args:=#[x],argTypes:=ts },ty,pos,af,gd⟩::rest) st:=M3 (ls_same f x ts hf hx (zd zz)) (zo zz) (zw zz) h
theorem FQ {tp te:TypeId} (w:World) (a:Addr) (hp:P.underlying tp=some (.pointer te)):(binOp .eql tp (.pointer (some a)) (.pointer none)).run P w=.ok (.bool false) w:=by
 have h:∀ d:Nat,(Op.equalIn (d+1) tp (.pointer (some a)) (.pointer none)).run P w=.ok false w:=fun d=>by
  simp[Op.equalIn,run_underlying hp]
 simp only[binOp]
 simp[Op.equal,Op.maxDepth,h 9999]
theorem FR {tp te:TypeId} (w:World) (hp:P.underlying tp=some (.pointer te)):(binOp .eql tp (.pointer none) (.pointer none)).run P w=.ok (.bool true) w:=by
 have h:∀ d:Nat,(Op.equalIn (d+1) tp (.pointer none) (.pointer none)).run P w=.ok true w:=fun d=>by
  simp[Op.equalIn,run_underlying hp]
 simp only[binOp]
 simp[Op.equal,Op.maxDepth,h 9999]
theorem ls_eqn (t t':TypeId) (x:Operand) (hp:P.underlying t=some (.pointer te)) (hx:st.ev x=.tx i T n) (hd:I1 ⟨d,.binOp .eql t x (.const (.pointer none)) t',ty,pos,af,gd⟩ st=true):M6 P ⟨d,.binOp .eql t x (.const (.pointer none)) t',ty,pos,af,gd⟩ st (.d (.val (.bool false))) .no:=fun st2 ha=>
 OpS.value (ha.dst hd) fun _ _ g a w h=>by
  have h1:=h.eval x
  rw[ha.ev x (by simp[Op.operands]),hx]at h1
  obtain⟨b,h2,h3,h4⟩:=h1
  refine⟨.bool false,w,?_,Below.refl _ _,DRep.val _ C⟩
  have h5:a.eval (.const (.pointer none))=.pointer none:=rfl
  simp only[execOp,h3,h5]
  simp[eqGuard,FQ w _ hp,Result.andThen]
theorem yQe {t t':Nat} (hp:P.underlying t=some (.pointer te)) (hx:st.ev x=.tx i T n) (h:YR P sq ops K rest (st.put d (.d (.val (.bool false))))) (zz:zk ops st ⟨d,.binOp .eql t x (.const (.pointer none)) t',ty,pos,af,gd⟩ .no=true:=by kernel_rfl):
 YR P sq ops K (⟨d,.binOp .eql t x (.const (.pointer none)) t',ty,pos,af,gd⟩::rest) st:=M3 (ls_eqn t t' x hp hx (zd zz)) (zo zz) (zw zz) h
theorem yQz {t t':Nat} (hp:P.underlying t=some (.pointer te)) (hx:st.ev x=.d (.val (.pointer none))) (h:YR P sq ops K rest (st.put d (.d (.val (.bool true))))) (zz:zk ops st ⟨d,.binOp .eql t x (.const (.pointer none)) t',ty,pos,af,gd⟩ .no=true:=by kernel_rfl):
 YR P sq ops K (⟨d,.binOp .eql t x (.const (.pointer none)) t',ty,pos,af,gd⟩::rest) st:=M3 (Ap .eql t t' x (.const (.pointer none)) hx rfl (fun w=>by
  have e:(eqGuard .eql t x (.const (.pointer none)) (.pointer none) (.pointer none) >>= fun _=>binOp .eql t (.pointer none) (.pointer none))=binOp .eql t (.pointer none) (.pointer none):=rfl
  rw[e]
  exact FR w hp) C (zd zz)) (zo zz) (zw zz) h
theorem ls_nes (t t':TypeId) (x y:Operand) {j:TypeInfo} (hp:P.underlying t=some (.pointer te)) (hte:P.info? te=some j) (hx:st.ev x=.tx i T n) (hy:st.ev y=.tx i T n) (hd:I1 ⟨d,.binOp .neq t x y t',ty,pos,af,gd⟩ st=true):M6 P ⟨d,.binOp .neq t x y t',ty,pos,af,gd⟩ st (.d (.val (.bool false))) .no:=fun st2 ha=>
 OpS.value (ha.dst hd) fun _ _ g a w h=>by
  have h1:=h.eval x
  rw[ha.ev x (by simp[Op.operands]),hx]at h1
  obtain⟨b,h2,h3,-⟩:=h1
  have h5:=h.eval y
  rw[ha.ev y (by simp[Op.operands]),hy]at h5
  obtain⟨b',h6,h7,-⟩:=h5
  rw[h2]at h6
  cases h6
  refine⟨.bool false,w,?_,Below.refl _ _,DRep.val _ C⟩
  simp only[execOp,h3,h7]
  simp[eqGuard,Lib.run_neq_ptr_same w _ hp hte,Result.andThen]
theorem yQq {t t':Nat} {j:TypeInfo} (hp:P.underlying t=some (.pointer te)) (hte:P.info? te=some j) (hx:st.ev x=.tx i T n) (hy:st.ev y=.tx i T n) (h:YR P sq ops K rest (st.put d (.d (.val (.bool false))))) (zz:zk ops st ⟨d,.binOp .neq t x y t',ty,pos,af,gd⟩ .no=true:=by kernel_rfl):
 YR P sq ops K (⟨d,.binOp .neq t x y t',ty,pos,af,gd⟩::rest) st:=M3 (ls_nes t t' x y hp hte hx hy (zd zz)) (zo zz) (zw zz) h
end
theorem KW {P:Program} (w:World) (base:Nat) (t u ty e:TypeId) (i:TypeInfo) (ht:P.underlying t=some (.slice e)) (hu:P.underlying u=some .string) (hi:P.info? e=some i) (hz:i.zero=some (.int .u8 0))
 (hsize:i.size=1) (hby:i.bytes=1) (v:Value) (n:Nat) (xs:List Value) (hown:w.ownsRow base e 1 v n xs) (s:ByteArray)
 (h63:n+s.size<=maxLen) (hbytes:n+s.size<=140737488355328) (hbase:base<=w.heap.size) (hs0:0<s.size):
 ∃ v' w',(Builtin.append_ #[t,u] ty #[v,.string s]).run P w=.ok v' w'∧w'.ownsRow base e 1 v' (n+s.size) (xs++Lib.strCells s)∧Below 0 w w' ∧
  (∀ b,b<w.heap.size->v.ownBlock≠some b->w'.heap[b]? = w.heap[b]?)∧(∀ b o,b<w.heap.size->v.ownBlock=some b->o<n->w'.cell? ⟨b,o,none⟩=w.cell? ⟨b,o,none⟩) ∧
  (v'.ownBlock=v.ownBlock∨v'.ownBlock=some w.heap.size):=by
 have hsmall:n+s.size<=9223372036854775807:=by simp only[maxLen]at h63;omega
 have hxl:xs.length=n:=by simpa using hown.1
 have hlen:(xs++Lib.strCells s).length=(n+s.size)*1:=by rw[C9,hxl,Lib.strCells_length,Nat.mul_one]
 have grown:∀ (old:Nat),old<n+s.size →
  (w.drew.alloc (.cells (xs.toArray++(Lib.strCells s).toArray++Builtin.zeroCells (Value.int .u8 0).cells (grownCap w (n+s.size) old e-(n+s.size))) e)).ownsRow base e 1
   (.slice (some ⟨w.heap.size,0,none⟩) (n+s.size) (grownCap w (n+s.size) old e)) (n+s.size) (xs++Lib.strCells s):=by
  intro old ho
  have hge:=grownCap_ge w (n+s.size) old e
  have hcm:grownCap w (n+s.size) old e<=maxLen:=grownCap_le_maxLen w (n+s.size) old e h63
  refine⟨hlen,.inr ⟨w.heap.size,_,_,C,hbase,heap_alloc_new w.drew _,hge,hcm,?_,?_⟩⟩
  . have hz1:(Value.int IntKind.u8 0).cells.size=1:=rfl
    simp only[Array.size_append,List.size_toArray,size_zeroCells,hz1,hxl,Lib.strCells_length]
    omega
  . simp only[Array.toList_append,G8]
    rw[<-G8,<-hlen]
    exact List.take_left
 have hold:∀ o b,b<w.heap.size->(w.drew.alloc o).heap[b]? = w.heap[b]?:=fun o b hb=>Below.heap_alloc w.drew o b hb
 have hbel:∀ o,Below 0 w (w.drew.alloc o):=fun o=>⟨rfl,rfl,rfl,by simp,fun k hk=>by omega⟩
 rcases hown.2 with⟨rfl,rfl⟩|⟨gb,cap,cur,rfl,hbg,hg,hnc,hcm,hcs,htake⟩
 . have hx:xs=[]:=List.eq_nil_of_length_eq_zero hxl
   subst hx
   have hr:=run_append_nil_string (P:=P) w t u ty e i (.int .u8 0) ht hu hi hz s (by omega) (by omega) (by rw[hby];omega)
   have hgr:=grown 0 (by omega)
   simp only[E4,List.nil_append,Array.empty_append]at hgr ⊢
   have e1:(s.data.map fun b=>Value.int .u8 b.toNat)=(Lib.strCells s).toArray:=by
    apply Array.ext'
    simp[Lib.strCells]
   rw[e1]at hr
   exact⟨_,_,hr,hgr,hbel _,fun b hb _=>hold _ b hb,fun b o hb h=>by simp[Value.ownBlock]at h,.inr rfl⟩
 . have hcs':cur.size=cap:=by simpa using hcs
   by_cases hroom:n+s.size<=cap
   . have hr:=Lib.run_append_room_string (P:=P) w t u ty e i ht hu hi hsize gb n cap cur hg s hroom (by omega)
     refine⟨_,_,hr,⟨hlen,.inr ⟨gb,cap,_,C,hbg,setRow_heap w gb cur _ e _ hg,hroom,hcm,?_,?_⟩⟩,⟨rfl,C,C,by simp[World.setRow],fun k hk=>by omega⟩,fun b _ hb=>setRow_other w gb b _ (fun e=>hb (by simp[Value.ownBlock,e])),fun b o _ hb ho=>?_,.inl rfl⟩
     . simp only[List.size_toArray,C9,F4,M7,Array.length_toList,Lib.strCells_length]
       omega
     . have ht':cur.toList.take n=xs:=by simpa using htake
       rw[ht',<-hlen]
       exact List.take_left
     . obtain rfl:gb=b:=by simpa[Value.ownBlock]using hb
       have h2:=setRow_heap w gb cur (cur.toList.take n++Lib.strCells s++cur.toList.drop (n+s.size)).toArray e _ hg
       simp only[World.cell?,h2,hg,Option.isSome_none,Bool.false_eq_true,if_false]
       rw[List.getElem?_toArray,G8,F3 (by simp;omega),E8 ho]
       simp
   . have holds:∀ j u,xs[j]? = some u->w.cell? ((⟨gb,0,none⟩:Addr).add j)=some u:=hown.cells (g:=gb) rfl
     have hr:=Lib.run_append_grow_string (P:=P) w t u ty e i (.int .u8 0) ht hu hi hz ⟨gb,0,none⟩ n cap xs (by rw[hsize];simpa using hxl) holds s (by omega) (by omega) (by rw[hby];exact growslice_fits (by omega) (by omega))
     exact⟨_,_,hr,grown cap (by omega),hbel _,fun b hb _=>hold _ b hb,fun b o hb _ _=>by simp only[World.cell?,hold _ b hb],.inr rfl⟩
section
variable {P:Program} {st:PS} {d:Option Nat} {ty:TypeId} {pos:String} {af:Array Edge} {gd:Option (Nat×Bool)}
theorem PE (T U:TypeId) (s x:Operand) {E t:Nat} {es es2:List (List DV)} [hA:AppOf P T E 1 1] (hz0:(P.info? E).bind (·.zero)=some (.int .u8 0)) (hU:P.underlying U=some .string) (h0l:0<l.length) (hes2:es2=l.map fun c=>[DV.val (.int .u8 c.toNat)]) (hs:st.ev s=.ts t 1 es) (ht:st.tget t=some n) (hn:n=es.length) (hx:st.ev x=.d (dS l)) (hE:t / 100000=E)
 (hl:es.length+es2.length<=140737488351232) (hd:I1 ⟨d,.call { callee:=.builtin .append,args:=#[s,x],argTypes:=#[T,U] },ty,pos,af,gd⟩ st=true):
 M6 P ⟨d,.call { callee:=.builtin .append,args:=#[s,x],argTypes:=#[T,U] },ty,pos,af,gd⟩ st (.ts t 1 (es++es2)) (.tok t (es.length+es2.length)):=fun st2 ha=>by
 subst hn
 intro B w0 g a w K Q hr hK
 have h1:=hr.eval s
 rw[ha.ev s (by simp[Op.operands,Call.operands]),hs]at h1
 obtain⟨h1,h2⟩:=h1
 obtain⟨A1,c1,ys,hv1,hc1,hm1,hk1,hl1,hcell1,hone1,hrep1⟩:=DRep.row h1
 have h3:=hr.eval x
 rw[ha.ev x (by simp[Op.operands,Call.operands]),hx]at h3
 have hv2:a.eval x=.string ⟨l.toArray⟩:=DRep.val_eq h3
 obtain⟨news,hnews⟩:=H8 (Lib.strCells ⟨l.toArray⟩)
 have hnl:news=l.map fun c=>Value.int .u8 c.toNat:=by rw[hnews];simp[Lib.strCells]
 have hsz:(⟨l.toArray⟩:ByteArray).size=es2.length:=by rw[hes2,A8];simp[ByteArray.size]
 have hl2:news.length=es2.length*1:=by rw[hnl,hes2];simp
 have hone2:∀ u∈news,u.oneCell'=true:=by rw[hnews];exact Lib.strCells_oneCell _
 have hk2:∀ e∈es2,e.length=1:=fun e he=>by
  rw[hes2,H2]at he
  obtain⟨c,-,rfl⟩:=he
  rfl
 have hrep2:∀ (i j:Nat) e y,es2[i]? = some e->e[j]? = some y->∃ u,news[i*1+j]? = some u∧DRep (Fx g) w u y:=fun i j e y he hy=>by
  rw[hes2,C6,C7]at he
  obtain⟨c,hc,rfl⟩:=he
  match j,hy with
  | 0,hy=>
   cases hy
   exact⟨.int .u8 c.toNat,by rw[hnl,Nat.mul_one,Nat.add_zero,C6,hc];rfl,DRep.val _ rfl⟩
  | j+1,hy=>simp at hy
 have hl20:0<es2.length:=by rw[hes2,A8];exact h0l
 obtain⟨T',A,c,h4,h5⟩:=hr.tlen t es.length ((ha.tk rfl s (by simp[Op.operands,Call.operands]) t 1 es hs).trans ht)
 obtain⟨h6,h7⟩:=h2 T' h4
 have h8:a.eval s=T'.v:=(h7 A es.length c h5).2 rfl
 obtain⟨⟨n',xs,h9⟩,h10⟩:=hr.toks t T' h4
 obtain rfl:es.length=n':=Bw h9 h5
 have hTE:T'.E=E:=(hr.telt t T' h4).trans hE
 obtain⟨i,z,q1,q2,q3,q4,q5⟩:=hA.inf
 rw[hTE,h6]at h9
 have hz1:z=.int .u8 0:=by
  rw[q1,Option.bind_some,q2]at hz0
  exact J0 hz0
 subst hz1
 obtain⟨v',w',r1,r2,r3,r4,r5,r6⟩:=KW (P:=P) w 0 T U ty E i hA.und hU q1 q2 q3 q4 T'.v es.length xs h9 ⟨l.toArray⟩ (by unfold maxLen;omega) (by omega) (E7 _) (by omega)
 rw[hsz,<-hnews]at r2
 have hxs:xs=ys:=by
  apply List.ext_getElem?
  intro j
  have hlx:=h9.1
  by_cases hj:j<es.length*1
  . have h0:0<es.length:=by
     rcases H7 es.length with h0|h0
     . rw[h0]at hj;simp at hj
     . exact h0
    obtain⟨b,off,hA1,hcell⟩:=hcell1 h0
    obtain⟨u,hu⟩:∃ u,ys[j]? = some u:=⟨_,A4 (by omega)⟩
    obtain⟨u',hu'⟩:∃ u,xs[j]? = some u:=⟨_,A4 (by omega)⟩
    have e1:T'.v=.slice (some ⟨b,off,none⟩) es.length c1:=by rw[<-h8,hv1,hA1]
    have e2:=AF h9 (b:=b) (by rw[e1];rfl) j u' hu'
    obtain⟨A3,c3,e3,-,e4⟩:=V4 h9
    have e5:=e4 b (by rw[e1];rfl)
    have e6:off=0:=by
     have:=e1.symm.trans e5
     have:=(Value.slice.inj this).1
     simpa using this
    have e7:=(hcell j u hu).1
    rw[e6,E4,e2]at e7
    rw[hu,hu',J0 e7]
  . rw[I0 (by omega),I0 (by omega)]
 subst hxs
 obtain⟨fx,hrep'⟩:=hr.app t es.length es2.length T' h4 xs news v' (by rw[hTE,h6];exact h9) (by rw[hTE,h6];exact r2) r3 (fun b hb hne=>r4 b hb hne) (fun b o hb hb' ho=>r5 b o hb hb' (by rw[h6]at ho;omega)) r6 (fun h=>by omega)
 have hrun:(execOp a.eval ⟨d,.call { callee:=.builtin .append,args:=#[s,x],argTypes:=#[T,U] },ty,pos,af,gd⟩).run P w=.ok (.value v') w':=by
  simp only[execOp,resolve,invoke,builtin,Sem.run_bind,Sem.run_pure,D4,List.map_toArray,List.map_cons,List.map_nil,h8,hv2,r1]
 unfold Oper.wp
 rw[hrun]
 refine hK _ _ _ (hrep'.put (v:=v') (x:=.ts t 1 (es++es2)) ⟨?_,fun T2 hT2=>?_⟩ _ (H6 (st:=st2.tput t _) (ha.dst hd)))
 . obtain⟨A3,c3,e3,e4,e5⟩:=V4 r2
   have e3':v'=.slice A3 (es++es2).length c3:=by rw[C9];exact e3
   refine(G4 (fun q=>DRep (Fx (g.sett t ⟨v',T'.E,T'.k⟩)) w' q (.sl 1 (es++es2))) e3').mpr ?_
   refine DRep.of_row (xs:=xs++news) (by rw[C9];exact e4) (by rw[C9];exact D9 hl (by decide)) (fun e he=>?_) (fun h0=>?_) (fun u hu=>?_) fun i j e y he hy=>?_
   . rcases List.mem_append.1 he with he|he
     . exact hk1 e he
     . exact hk2 e he
   . rcases r2.2 with⟨e6,e7⟩|⟨gb,cap,cur,e6,e7,e8,-⟩
     . rw[C9]at h0;omega
     . have e9:A3=some ⟨gb,0,none⟩:=(Value.slice.inj (e3.symm.trans e6)).1
       refine⟨gb,0,e9,fun j u hj=>⟨?_,?_⟩⟩
       . rw[E4];exact AF r2 (by rw[e6];rfl) j u hj
       . refine⟨hrep'.tf0 t ⟨v',T'.E,T'.k⟩ gb _ (by simp[Gh.sett]) (by show v'.ownBlock=_;rw[e6];rfl),fun i' hi'=>?_,fun t2 T2 n2 c2' hT2 hv2'=>?_⟩
         . exact(hrep'.toks t ⟨v',T'.E,T'.k⟩ (by simp[Gh.sett])).2 i' gb (by rw[show(⟨v',T'.E,T'.k⟩:Tk).v=v' from rfl,e6];rfl) hi'
         . have htt:t2=t:=hrep'.tdis t2 t T2 ⟨v',T'.E,T'.k⟩ gb hT2 (by simp[Gh.sett]) (by rw[hv2'];rfl) (by rw[show(⟨v',T'.E,T'.k⟩:Tk).v=v' from rfl,e6];rfl)
           subst htt
           simp only[Gh.sett,B9]at hT2
           cases hT2
           have e10:n2=es.length+es2.length:=(Value.slice.inj ((show v'=_ from hv2').symm.trans e6)).2.1
           have hlt:=(A6.1 hj).1
           rw[r2.1]at hlt
           show 0+j<n2*T'.k
           rw[e10,h6,E4]
           exact hlt
   . rcases List.mem_append.1 hu with hu|hu
     . exact hone1 u hu
     . exact hone2 u hu
   . by_cases hi:i<es.length
     . rw[F3 hi]at he
       obtain⟨u,e6,e7⟩:=hrep1 i j e y he hy
       refine⟨u,?_,e7.mono fx⟩
       rw[F3 (A6.1 e6).1]
       exact e6
     . rw[E9 (by omega)]at he
       obtain⟨u,e6,e7⟩:=hrep2 (i-es.length) j e y he hy
       refine⟨u,?_,e7.mono fx⟩
       have:i*1+j-xs.length=(i-es.length)*1+j:=by
        rw[h9.1,Nat.sub_mul]
        have:=Nat.mul_le_mul_right 1 (show es.length<=i by omega)
        omega
       rw[E9 (by rw[h9.1];have:=Nat.mul_le_mul_right 1 (show es.length<=i by omega);omega),this]
       exact e6
 . simp only[Gh.sett,B9]at hT2
   cases hT2
   refine⟨h6,fun A3 n3 c3 e3=>?_⟩
   have e4:n3=es.length+es2.length:=Bw r2 e3
   rw[C9]
   exact⟨by omega,fun _=>rfl⟩
variable {sq:Bool} {ops:Array Oper} {K:PS->Prop} {rest:List Oper}
theorem yTs {U E t m:Nat} {es es2 es':List (List DV)} [hA:AppOf P T E 1 1] (hz0:(P.info? E).bind (·.zero)=some (.int .u8 0)) (hU:P.underlying U=some .string) (h0l:0<l.length) (hes2:es2=l.map fun c=>[DV.val (.int .u8 c.toNat)]) (hl:es.length+es2.length<=140737488351232) (hs:st.ev x=.ts t 1 es) (ht:st.tget t=some n) (hn:n=es.length) (hx:st.ev y=.d (dS l)) (hE:t / 100000=E) (he:es++es2=es') (hm:es.length+es2.length=m) (h:YR P sq ops K rest ((st.tput t m).put d (.ts t 1 es'))) (zz:zk ops st ⟨d,.call { callee:=.builtin .append,args:=#[x,y],argTypes:=#[T,U] },ty,pos,af,gd⟩ (.tok t m)=true:=by kernel_rfl):YR P sq ops K (⟨d,.call { callee:=.builtin .append,args:=#[x,y],argTypes:=#[T,U] },ty,pos,af,gd⟩::rest) st:=by subst he hm;exact yr_t (PE T U x y hz0 hU h0l hes2 hs ht hn hx hE hl (zd zz)) (zo zz) (zw zz) h
end
section
variable {P:Program} {B:Nat} {w0:Cx} {Q:Exit->PS->Prop} {st:PS} {c:Code}
theorem NT {y:Code} (J:PS) (h2:PW P B w0 y Q J) (h1:PW P B w0 c (U4 (fun s=>Le s J) Q) st):PW P B w0 c (U4 (PW P B w0 y Q) Q) st:=pw_mono h1 fun e s h=>by
 cases e with
 | normal=>exact RK h h2
 | _=>exact h
end
end Go.Proofs.YtddfimjiihggmaaGreatDoor.Px
namespace Go.Proofs.YtddfimjiihggmaaGreatDoor
open Go.RowKit Px
variable {n:Nat}
abbrev u64T:Nat:=198
abbrev vG (l:List Nat):List Value:=l.map fun x:Nat=>Value.int .u64 (x:Int)
abbrev cG (l:List Nat):List SV:=(vG l).map fun u=>SV.d (.val u)
theorem EV {p q:List Nat} {a i:Nat} (h:p.length=i):(cG (p++a::q))[((i:Int)).toNat*1]? = some (.d (dU a)):=by
 subst h
 simp[cG,vG]
theorem Y6 {p q:List Nat} {a i:Nat} (v:Nat) (h:p.length=i):(cG (p++a::q)).set (((i:Int)).toNat*1) (.d (dU v))=cG (p++v::q):=by
 subst h
 simp[cG,vG]
theorem BG {p q:List Nat} {a i:Nat} (h:p.length=i):Nat.blt (((i:Int)).toNat*1) (cG (p++a::q)).length=true:=by
 refine Nat.ble_eq_true_of_le ?_
 simp[cG,vG]
 omega
theorem OI (l:List Nat):((l.map dU).take (l.length:Int).toNat).map SV.d=cG l:=by
 rw[E3 (by simp),cG,vG,List.map_map,List.map_map]
 rfl
theorem Cn (l:List Nat):Ag (cG l)=some (l.map dU):=by
 rw[cG,KK (fun u=>DV.val u) (vG l),vG,List.map_map]
 rfl
theorem AH (l:List Nat) (h:l.length=n):O9 1 n (l.map dU)=l.map dG:=by
 subst h
 exact Pj dU l
theorem Eg (h:n<18446744073709551616):IntKind.u64.wrap (n:Int)=(n:Int):=by
 rw[IntKind.wrap_u64]
 omega
theorem FD (A B:List Nat) (i:Nat):P9 A B (i+1)=((P9 A B i).1++[(S0 A i+(P9 A B i).2+S0 B i) % 1000000000],(S0 A i+(P9 A B i).2+S0 B i) / 1000000000):=rfl
theorem wPlus (m n:List Nat) (hgm:gok m) (hgn:gok n) (hlm:m.length<=1000000) (hln:n.length<=1000000):PCalls Tryz.prog 197 [.sl 1 (m.map dG),.sl 1 (n.map dG)] (.d (.sl 1 ((BS m n).map dG))):=by
 obtain⟨r,hr⟩:=H8 (BS m n)
 rw[<-hr]
 by_cases hlt:m.length<n.length
 . have hl:m.length<=n.length:=by omega
   have hr2:r=(P9 n m n.length).1++(if 0<(P9 n m n.length).2 then [(P9 n m n.length).2]else []):=by
    rw[hr,Lx,BS,Nat.max_eq_left hl]
   have u0:decide (((m.map dG).length:Int)<((n.map dG).length:Int))=true:=by simp;omega
   have hw0:IntKind.i64.wrap (((n.map dG).length:Int)+1)=(n.length:Int)+1:=by rw[A8,I8 _ (by omega)]
   have hle0:((n.map dG).length:Int)=(n.length:Int):=by simp
   clear hr
   refine L5 Tryz.func197 C Tryz.ntmps197 Tryz.results197 fun B w0=>?_
   refine D7 (H3 C (yQ (B2 (D7 (B6 C (yN C (B6 C (yN C (yB C C C C ?_)))))))));refine yQ (B3 ?_);rw[u0];refine G2 C (B4 (B6 C (B6 C (H3 C (H3 C (yQ (D7 (B6 C (yN C ?_)))))))));refine B6 C (yN C (yB C C C C ?_));rw[hw0]
   refine yMk (n:=(n.length:Int)) (c:=(n.length:Int)+1) (by omega) (by omega) (by omega) (by omega) (G4 (fun k:Int=>SV.d (dI k)) hle0) C C ?_;refine EZ C (yQ (D7 (AM C (B6 C ?_))));refine yCp (ds:=n.map dU) (by rw[List.map_map];rfl) (by simp) (by omega) rfl rfl (by simp) rfl ?_;refine yQ (D7 (H3 C (yQ (B2 (D7 (AM C (yNb C (B6 C (yQ ?_)))))))));refine B7 ?_;refine H9 (fun i:Nat=>⟨69,[(1,.d (.sl 1 (m.map dG))),(5,.bs 20 n.length u64T 1),(6,.d (dU (P9 n m i).2)),(25,.d (dI n.length)),(26,.d (dI i))],[(20,cG ((P9 n m i).1++n.drop i))],[]⟩) (fun i=>i<=n.length) (fun i=>n.length-i) 0 (E7 _)
    ⟨rfl,⟨E6,E6,E6,E6,E6,D3⟩,⟨⟨_,rfl,K8 (OI n)⟩,D3⟩,D3,by simp[PS.closed,SV.ok,G1,Nat.beq,-List.map_take,-List.map_set,-List.map_append,-List.map_drop]⟩ ?_
   intro i hi
   obtain⟨h1,h2,h3,-⟩:=Aa hgn hgm i
   have hnx:=FD n m i
   obtain⟨⟨p,c⟩,hp⟩:=H8 (P9 n m i)
   rw[<-hp]at h1 h2 h3 hnx ⊢
   simp only at h1 h2 h3 hnx ⊢
   rcases D5 i n.length with hi2|hi2
   . have t1:decide ((i:Int)<(n.length:Int))=true:=B0 (by omega)
     obtain⟨a,ha⟩:=DJ hi2
     have hga:=V9 ha
     have ha9:a<1000000000:=hgn a (B8 ha)
     have hdr:n.drop i=a::n.drop (i+1):=by
      obtain⟨q1,q2⟩:=A6.1 ha
      rw[I5 q1,q2]
     obtain⟨q,hq⟩:=H8 (n.drop (i+1))
     rw[hdr,<-hq]
     rw[hga]at hnx
     have hat:=EV (q:=q) (a:=a) h1
     have hs1:=Y6 (q:=q) (a:=a) (a+c) h1
     have hl1:=BG (q:=q) (a:=a) h1
     have w1:IntKind.u64.wrap ((a:Int)+(c:Int))=((a+c:Nat):Int):=by rw[<-Int.natCast_add];exact Eg (by omega)
     have hat2:=EV (q:=q) (a:=a+c) h1
     have hwi:=I8 ((i:Int)+1) (by omega)
     rcases D5 i m.length with hj|hj
     . have t2:decide ((i:Int)<((m.map dG).length:Int))=true:=B0 (by rw[A8];omega)
       obtain⟨b,hb⟩:=DJ hj
       have hb9:b<1000000000:=hgm b (B8 hb)
       have eb:=ix dG m (i:Int) i b rfl hb
       have hgb:=V9 hb
       rw[hgb]at hnx
       have w2:IntKind.u64.wrap (((a+c:Nat):Int)+(b:Int))=((a+c+b:Nat):Int):=by rw[<-Int.natCast_add];exact Eg (by omega)
       have hs2:=Y6 (q:=q) (a:=a+c) (a+c+b) h1
       have hl2:=BG (q:=q) (a:=a+c) h1
       have hat3:=EV (q:=q) (a:=a+c+b) h1
       have hs3:=Y6 (q:=q) (a:=a+c+b) ((a+c+b) % 1000000000) h1
       have hl3:=BG (q:=q) (a:=a+c+b) h1
       have wq:IntKind.u64.wrap (((a+c+b:Nat):Int).tdiv 1000000000)=(((a+c+b) / 1000000000:Nat):Int):=Eg (n:=(a+c+b) / 1000000000) (by omega)
       refine D7 (yB C C C C (yQ (B2 ?_)));rw[t1];refine G2 C (B1 (B2 (B7 (D7 (B6 C (H3 C (yQ (D7 (AM C ?_)))))))));refine B6 C (Ad (by omega) (by omega) C C C (AL C C hat (B6 C (yB C C C C (Ad (by omega) (by omega) C C C ?_)))));rw[w1];refine X8 C C C hs1 ?_ hl1;refine yQ (B2 (D7 (B6 C (B6 C (yN C (yB C C C C (yQ (B3 ?_))))))));rw[t2];refine G2 C ?_;refine J2 Tryz.mixed (by kernel_rfl) ?_;refine AM C (B6 C (Ad (by omega) (by omega) C C C (AL C C hat2 (B6 C (B6 C (yW eb (by omega) C C (K5 C C (yB C C C C (Ad (by omega) (by omega) C C C ?_)))))))));rw[w2];refine X8 C C C hs2 ?_ hl2;refine yQ (D7 (AM C (B6 C (Ad (by omega) (by omega) C C C (AL C C hat3 (yB C C C C (H3 C (yQ (B4 ?_)))))))));refine AM C (B6 C (Ad (by omega) (by omega) C C C (AL C C hat3 (yB C C C C (Ad (by omega) (by omega) C C C ?_)))));refine X8 C C C hs3 ?_ hl3;refine yQ (B4 (yB C C C C (B6 C (yQ (B3 ?_)))))
       rw[wq]
       refine⟨i+1,by omega,by omega,rfl,⟨E6,E6,.of_eq (by rw[hnx];rfl),E6,P2 hwi,D3⟩,⟨⟨_,rfl,K8 (by rw[hnx,<-hq,G8];rfl)⟩,D3⟩,D3,by simp[PS.closed,SV.ok,G1,Nat.beq,-List.map_take,-List.map_set,-List.map_append,-List.map_drop]⟩
     . have t2:decide ((i:Int)<((m.map dG).length:Int))=false:=A7 (by rw[A8];omega)
       rw[Di hj,Nat.add_zero]at hnx
       have hs3:=Y6 (q:=q) (a:=a+c) ((a+c) % 1000000000) h1
       have hl3:=BG (q:=q) (a:=a+c) h1
       have wq:IntKind.u64.wrap (((a+c:Nat):Int).tdiv 1000000000)=(((a+c) / 1000000000:Nat):Int):=Eg (n:=(a+c) / 1000000000) (by omega)
       refine D7 (yB C C C C (yQ (B2 ?_)));rw[t1];refine G2 C (B1 (B2 (B7 (D7 (B6 C (H3 C (yQ (D7 (AM C ?_)))))))));refine B6 C (Ad (by omega) (by omega) C C C (AL C C hat (B6 C (yB C C C C (Ad (by omega) (by omega) C C C ?_)))));rw[w1];refine X8 C C C hs1 ?_ hl1;refine yQ (B2 (D7 (B6 C (B6 C (yN C (yB C C C C (yQ (B3 ?_))))))));rw[t2];refine D8 C (B1 (D7 (AM C (B6 C (Ad (by omega) (by omega) C C C (AL C C hat2 (yB C C C C (H3 C (yQ ?_)))))))));refine B4 (AM C (B6 C (Ad (by omega) (by omega) C C C (AL C C hat2 (yB C C C C (Ad (by omega) (by omega) C C C ?_))))));refine X8 C C C hs3 ?_ hl3;refine yQ (B4 (yB C C C C (B6 C (yQ (B3 ?_)))));rw[wq]
       refine⟨i+1,by omega,by omega,rfl,⟨E6,E6,.of_eq (by rw[hnx];rfl),E6,P2 hwi,D3⟩,⟨⟨_,rfl,K8 (by rw[hnx,<-hq,G8];rfl)⟩,D3⟩,D3,by simp[PS.closed,SV.ok,G1,Nat.beq,-List.map_take,-List.map_set,-List.map_append,-List.map_drop]⟩
   . have t1:decide ((i:Int)<(n.length:Int))=false:=A7 (by omega)
     obtain rfl:i=n.length:=by omega
     rw[<-hp]at hr2
     simp only at hr2
     rw[List.drop_length,List.append_nil]
     rcases H7 c with hc|hc
     . subst hc
       rw[B5 (by omega),List.append_nil]at hr2
       subst hr2
       refine D7 (yB C C C C (yQ (B2 ?_)));rw[t1];refine D8 C (F9 (B2 (D7 (B6 C (yB C C C C (yQ (D8 C (B1 (D7 ?_)))))))));refine AM C (EZ C (yQ ?_));refine Br 4 20 (es:=r.map dG) (ds:=r.map dU) (by simp;omega) (AH r h1) (Cn _) C C ?_;refine C4 ?_
       exact M5 C C
     . have t3:decide ((c:Int) > 0)=true:=B0 (by omega)
       rw[B9 hc]at hr2
       have hrl:r.length=n.length+1:=by rw[hr2];simp;omega
       have hrc:(vG p++[Value.int .u64 (c:Int)]).map (fun u=>SV.d (.val u))=cG r:=by rw[hr2];simp[cG,vG]
       refine D7 (yB C C C C (yQ (B2 ?_)));rw[t1];refine D8 C (F9 (B2 (D7 (B6 C (yB C C C C (yQ (B3 ?_)))))));rw[t3];refine G2 C (B4 (AM C (B6 C ?_)));refine yR (es:=[[_]]) C C C C C ?_;refine Lh (us:=vG p) (vs:=[Value.int .u64 (c:Int)]) (m:=1) (n:=n.length) (by omega) (by omega) (by omega) C C (by simp;omega) C C C ?_;refine EZ C (yQ (D7 (AM C (EZ C (yQ ?_)))));refine Br 4 20 (es:=r.map dG) (ds:=r.map dU) (by simp;omega) (AH r hrl) (by rw[hrc];exact Cn _) C C ?_;refine C4 ?_
       exact M5 C C
 . have hl:n.length<=m.length:=by omega
   have hr2:r=(P9 m n m.length).1++(if 0<(P9 m n m.length).2 then [(P9 m n m.length).2]else []):=by
    rw[hr,BS,Nat.max_eq_left hl]
   have u0:decide (((m.map dG).length:Int)<((n.map dG).length:Int))=false:=by simp;omega
   have hw0:IntKind.i64.wrap (((m.map dG).length:Int)+1)=(m.length:Int)+1:=by rw[A8,I8 _ (by omega)]
   have hle0:((m.map dG).length:Int)=(m.length:Int):=by simp
   clear hr
   refine L5 Tryz.func197 C Tryz.ntmps197 Tryz.results197 fun B w0=>?_
   refine D7 (H3 C (yQ (B2 (D7 (B6 C (yN C (B6 C (yN C (yB C C C C ?_)))))))));refine yQ (B3 ?_);rw[u0];refine D8 C (B1 (D7 (B6 C (yN C (B6 C (yN C (yB C C C C ?_)))))));rw[hw0]
   refine yMk (n:=(m.length:Int)) (c:=(m.length:Int)+1) (by omega) (by omega) (by omega) (by omega) (G4 (fun k:Int=>SV.d (dI k)) hle0) C C ?_;refine EZ C (yQ (D7 (AM C (B6 C ?_))));refine yCp (ds:=m.map dU) (by rw[List.map_map];rfl) (by simp) (by omega) rfl rfl (by simp) rfl ?_;refine yQ (D7 (H3 C (yQ (B2 (D7 (AM C (yNb C (B6 C (yQ ?_)))))))));refine B7 ?_;refine H9 (fun i:Nat=>⟨69,[(1,.d (.sl 1 (n.map dG))),(5,.bs 20 m.length u64T 1),(6,.d (dU (P9 m n i).2)),(25,.d (dI m.length)),(26,.d (dI i))],[(20,cG ((P9 m n i).1++m.drop i))],[]⟩) (fun i=>i<=m.length) (fun i=>m.length-i) 0 (E7 _)
    ⟨rfl,⟨E6,E6,E6,E6,E6,D3⟩,⟨⟨_,rfl,K8 (OI m)⟩,D3⟩,D3,by simp[PS.closed,SV.ok,G1,Nat.beq,-List.map_take,-List.map_set,-List.map_append,-List.map_drop]⟩ ?_
   intro i hi
   obtain⟨h1,h2,h3,-⟩:=Aa hgm hgn i
   have hnx:=FD m n i
   obtain⟨⟨p,c⟩,hp⟩:=H8 (P9 m n i)
   rw[<-hp]at h1 h2 h3 hnx ⊢
   simp only at h1 h2 h3 hnx ⊢
   rcases D5 i m.length with hi2|hi2
   . have t1:decide ((i:Int)<(m.length:Int))=true:=B0 (by omega)
     obtain⟨a,ha⟩:=DJ hi2
     have hga:=V9 ha
     have ha9:a<1000000000:=hgm a (B8 ha)
     have hdr:m.drop i=a::m.drop (i+1):=by
      obtain⟨q1,q2⟩:=A6.1 ha
      rw[I5 q1,q2]
     obtain⟨q,hq⟩:=H8 (m.drop (i+1))
     rw[hdr,<-hq]
     rw[hga]at hnx
     have hat:=EV (q:=q) (a:=a) h1
     have hs1:=Y6 (q:=q) (a:=a) (a+c) h1
     have hl1:=BG (q:=q) (a:=a) h1
     have w1:IntKind.u64.wrap ((a:Int)+(c:Int))=((a+c:Nat):Int):=by rw[<-Int.natCast_add];exact Eg (by omega)
     have hat2:=EV (q:=q) (a:=a+c) h1
     have hwi:=I8 ((i:Int)+1) (by omega)
     rcases D5 i n.length with hj|hj
     . have t2:decide ((i:Int)<((n.map dG).length:Int))=true:=B0 (by rw[A8];omega)
       obtain⟨b,hb⟩:=DJ hj
       have hb9:b<1000000000:=hgn b (B8 hb)
       have eb:=ix dG n (i:Int) i b rfl hb
       have hgb:=V9 hb
       rw[hgb]at hnx
       have w2:IntKind.u64.wrap (((a+c:Nat):Int)+(b:Int))=((a+c+b:Nat):Int):=by rw[<-Int.natCast_add];exact Eg (by omega)
       have hs2:=Y6 (q:=q) (a:=a+c) (a+c+b) h1
       have hl2:=BG (q:=q) (a:=a+c) h1
       have hat3:=EV (q:=q) (a:=a+c+b) h1
       have hs3:=Y6 (q:=q) (a:=a+c+b) ((a+c+b) % 1000000000) h1
       have hl3:=BG (q:=q) (a:=a+c+b) h1
       have wq:IntKind.u64.wrap (((a+c+b:Nat):Int).tdiv 1000000000)=(((a+c+b) / 1000000000:Nat):Int):=Eg (n:=(a+c+b) / 1000000000) (by omega)
       refine D7 (yB C C C C (yQ (B2 ?_)));rw[t1];refine G2 C (B1 (B2 (B7 (D7 (B6 C (H3 C (yQ (D7 (AM C ?_)))))))));refine B6 C (Ad (by omega) (by omega) C C C (AL C C hat (B6 C (yB C C C C (Ad (by omega) (by omega) C C C ?_)))));rw[w1];refine X8 C C C hs1 ?_ hl1;refine yQ (B2 (D7 (B6 C (B6 C (yN C (yB C C C C (yQ (B3 ?_))))))));rw[t2];refine G2 C ?_;refine J2 Tryz.mixed (by kernel_rfl) ?_;refine AM C (B6 C (Ad (by omega) (by omega) C C C (AL C C hat2 (B6 C (B6 C (yW eb (by omega) C C (K5 C C (yB C C C C (Ad (by omega) (by omega) C C C ?_)))))))));rw[w2];refine X8 C C C hs2 ?_ hl2;refine yQ (D7 (AM C (B6 C (Ad (by omega) (by omega) C C C (AL C C hat3 (yB C C C C (H3 C (yQ (B4 ?_)))))))));refine AM C (B6 C (Ad (by omega) (by omega) C C C (AL C C hat3 (yB C C C C (Ad (by omega) (by omega) C C C ?_)))));refine X8 C C C hs3 ?_ hl3;refine yQ (B4 (yB C C C C (B6 C (yQ (B3 ?_)))))
       rw[wq]
       refine⟨i+1,by omega,by omega,rfl,⟨E6,E6,.of_eq (by rw[hnx];rfl),E6,P2 hwi,D3⟩,⟨⟨_,rfl,K8 (by rw[hnx,<-hq,G8];rfl)⟩,D3⟩,D3,by simp[PS.closed,SV.ok,G1,Nat.beq,-List.map_take,-List.map_set,-List.map_append,-List.map_drop]⟩
     . have t2:decide ((i:Int)<((n.map dG).length:Int))=false:=A7 (by rw[A8];omega)
       rw[Di hj,Nat.add_zero]at hnx
       have hs3:=Y6 (q:=q) (a:=a+c) ((a+c) % 1000000000) h1
       have hl3:=BG (q:=q) (a:=a+c) h1
       have wq:IntKind.u64.wrap (((a+c:Nat):Int).tdiv 1000000000)=(((a+c) / 1000000000:Nat):Int):=Eg (n:=(a+c) / 1000000000) (by omega)
       refine D7 (yB C C C C (yQ (B2 ?_)));rw[t1];refine G2 C (B1 (B2 (B7 (D7 (B6 C (H3 C (yQ (D7 (AM C ?_)))))))));refine B6 C (Ad (by omega) (by omega) C C C (AL C C hat (B6 C (yB C C C C (Ad (by omega) (by omega) C C C ?_)))));rw[w1];refine X8 C C C hs1 ?_ hl1;refine yQ (B2 (D7 (B6 C (B6 C (yN C (yB C C C C (yQ (B3 ?_))))))));rw[t2];refine D8 C (B1 (D7 (AM C (B6 C (Ad (by omega) (by omega) C C C (AL C C hat2 (yB C C C C (H3 C (yQ ?_)))))))));refine B4 (AM C (B6 C (Ad (by omega) (by omega) C C C (AL C C hat2 (yB C C C C (Ad (by omega) (by omega) C C C ?_))))));refine X8 C C C hs3 ?_ hl3;refine yQ (B4 (yB C C C C (B6 C (yQ (B3 ?_)))));rw[wq]
       refine⟨i+1,by omega,by omega,rfl,⟨E6,E6,.of_eq (by rw[hnx];rfl),E6,P2 hwi,D3⟩,⟨⟨_,rfl,K8 (by rw[hnx,<-hq,G8];rfl)⟩,D3⟩,D3,by simp[PS.closed,SV.ok,G1,Nat.beq,-List.map_take,-List.map_set,-List.map_append,-List.map_drop]⟩
   . have t1:decide ((i:Int)<(m.length:Int))=false:=A7 (by omega)
     obtain rfl:i=m.length:=by omega
     rw[<-hp]at hr2
     simp only at hr2
     rw[List.drop_length,List.append_nil]
     rcases H7 c with hc|hc
     . subst hc
       rw[B5 (by omega),List.append_nil]at hr2
       subst hr2
       refine D7 (yB C C C C (yQ (B2 ?_)));rw[t1];refine D8 C (F9 (B2 (D7 (B6 C (yB C C C C (yQ (D8 C (B1 (D7 ?_)))))))));refine AM C (EZ C (yQ ?_));refine Br 4 20 (es:=r.map dG) (ds:=r.map dU) (by simp;omega) (AH r h1) (Cn _) C C ?_;refine C4 ?_
       exact M5 C C
     . have t3:decide ((c:Int) > 0)=true:=B0 (by omega)
       rw[B9 hc]at hr2
       have hrl:r.length=m.length+1:=by rw[hr2];simp;omega
       have hrc:(vG p++[Value.int .u64 (c:Int)]).map (fun u=>SV.d (.val u))=cG r:=by rw[hr2];simp[cG,vG]
       refine D7 (yB C C C C (yQ (B2 ?_)));rw[t1];refine D8 C (F9 (B2 (D7 (B6 C (yB C C C C (yQ (B3 ?_)))))));rw[t3];refine G2 C (B4 (AM C (B6 C ?_)));refine yR (es:=[[_]]) C C C C C ?_;refine Lh (us:=vG p) (vs:=[Value.int .u64 (c:Int)]) (m:=1) (n:=m.length) (by omega) (by omega) (by omega) C C (by simp;omega) C C C ?_;refine EZ C (yQ (D7 (AM C (EZ C (yQ ?_)))));refine Br 4 20 (es:=r.map dG) (ds:=r.map dU) (by simp;omega) (AH r hrl) (by rw[hrc];exact Cn _) C C ?_;refine C4 ?_
       exact M5 C C
theorem OD {a:F6} (h:(L9 a).1=[]):(L9 a).2=false:=by
 cases hb:(L9 a).2 with
 | false=>rfl
 | true=>exact G5 h (Jn hb)
theorem QC (a:F6) (ha:a.length<=1000000) (h0:(L9 a).1=[]):PCalls Tryz.prog 142 [dS a] (.d (.agg [dB false,.val (.slice none 0 0)])):=by
 have c1:=JA a (by omega)
 rw[OD h0,h0]at c1
 refine L5 Tryz.func142 C Tryz.ntmps142 Tryz.results142 fun B w0=>?_
 refine D7 (yZ (cs:=[_,_]) C C (yQ (D7 (B6 C (yC (c1) C C (N9 C (yX C C (yX C C (H3 C ?_)))))))));refine H3 C (yQ (D7 (H3 C (yQ (B2 (D7 (B6 C (N3 C (H3 C ?_)))))))));refine yQ (B7 ?_);refine H9 (fun i:Nat=>⟨37,[(2,.bx 2 0),(4,.d (dB false)),(5,.d (.val (.slice none 0 0))),(6,.d (dI 0))],[(2,[.d (dB false),.d (.val (.slice none 0 0))])],[]⟩) (fun i=>i=0) (fun i=>i) 0 C
  ⟨rfl,⟨E6,E6,E6,E6,D3⟩,⟨⟨_,rfl,E6,E6,D3⟩,D3⟩,D3,rfl⟩ ?_
 intro i hi
 refine B2 (D7 (B6 C (yB C C C C (yQ (D8 C (F9 (D7 (B6 C (B6 C ?_)))))))));refine yG (ys:=[_,_]) C C (yS (cs':=[_,_]) C C C C C (yQ (C4 ?_)))
 exact J5 _ (.agg D6 C C C C .nil) C
namespace Px
variable {es:List (List DV)} {x:Operand}
section
variable {P:Program} {sq:Bool} {ops:Array Oper} {K:PS->Prop} {rest:List Oper} {st:PS} {d:Option Nat} {ty:TypeId} {pos:String} {af:Array Edge} {gd:Option (Nat×Bool)}
theorem ls_eqsl (t t':TypeId) (x:Operand) {te k:Nat} (hp:P.underlying t=some (.slice te)) (hx:asSl (st.ev x)=some (k,es)) (h0:0<es.length) (hd:I1 ⟨d,.binOp .eql t x (.const (.slice none 0 0)) t',ty,pos,af,gd⟩ st=true):M6 P ⟨d,.binOp .eql t x (.const (.slice none 0 0)) t',ty,pos,af,gd⟩ st (.d (.val (.bool false))) .no:=fun st2 ha=>
 OpS.value (ha.dst hd) fun _ _ g a w h=>by
  have h1:=h.eval x
  rw[ha.ev x (by simp[Op.operands])]at h1
  obtain⟨A,c,news,hv,-,-,-,-,hcell,-⟩:=DRep.row (h1.asSl hx)
  obtain⟨b,off,rfl,-⟩:=hcell h0
  refine⟨.bool false,w,?_,Below.refl _ _,DRep.val _ C⟩
  have h5:a.eval (.const (.slice none 0 0))=.slice none 0 0:=rfl
  simp only[execOp,hv,h5]
  simp[eqGuard,Lib.run_eql_slice_nil w t te _ _ _ _ _ hp,Result.andThen]
theorem yEn {t t':Nat} {te k:Nat} (hp:P.underlying t=some (.slice te)) (h0:0<es.length) (hx:asSl (st.ev x)=some (k,es)) (h:YR P sq ops K rest (st.put d (.d (.val (.bool false))))) (zz:zk ops st ⟨d,.binOp .eql t x (.const (.slice none 0 0)) t',ty,pos,af,gd⟩ .no=true:=by kernel_rfl):
 YR P sq ops K (⟨d,.binOp .eql t x (.const (.slice none 0 0)) t',ty,pos,af,gd⟩::rest) st:=M3 (ls_eqsl t t' x hp hx h0 (zd zz)) (zo zz) (zw zz) h
theorem yEz {t t':Nat} {te:Nat} (hp:P.underlying t=some (.slice te)) (hx:st.ev x=.d (.val (.slice none 0 0))) (h:YR P sq ops K rest (st.put d (.d (.val (.bool true))))) (zz:zk ops st ⟨d,.binOp .eql t x (.const (.slice none 0 0)) t',ty,pos,af,gd⟩ .no=true:=by kernel_rfl):
 YR P sq ops K (⟨d,.binOp .eql t x (.const (.slice none 0 0)) t',ty,pos,af,gd⟩::rest) st:=M3 (Ap .eql t t' x (.const (.slice none 0 0)) hx rfl (fun w=>by
  have e:(eqGuard .eql t x (.const (.slice none 0 0)) (.slice none 0 0) (.slice none 0 0) >>= fun _=>binOp .eql t (.slice none 0 0) (.slice none 0 0))=binOp .eql t (.slice none 0 0) (.slice none 0 0):=rfl
  rw[e]
  exact Lib.run_eql_slice_nil w t te none 0 0 0 0 hp) C (zd zz)) (zo zz) (zw zz) h
theorem yBw {t t':Nat} {y:Operand} {k:IntKind} {a b c:Int} (hw2:k.wrap (a+b)=c) (hx:st.ev x=.d (.val (.int k a))) (hy:st.ev y=.d (.val (.int k b))) (h:YR P sq ops K rest (st.put d (.d (.val (.int k c))))) (zz:zk ops st ⟨d,.binOp .add t x y t',ty,pos,af,gd⟩ .no=true:=by kernel_rfl):
 YR P sq ops K (⟨d,.binOp .add t x y t',ty,pos,af,gd⟩::rest) st:=by
 subst hw2
 exact yB hx hy (by cases k<;>rfl) rfl h zz
end
theorem Oo {st:PS} {t i:Nat} {cs:List SV} (hb:st.b=[(i,cs)]) (hs:(st.s.all fun p=>p.2.noTs t)=true) (hc:(cs.all fun x=>x.noTs t)=true):st.noTs t=true:=by
 unfold PS.noTs
 rw[hb,hs]
 simp only[List.all_cons,List.all_nil,hc,Bool.and_self]
theorem PCalls.mono_args {P:Program} {f:Nat} {xs ys:List DV} {r:SV} (h:PCalls P f xs r) (hl:ys.length=xs.length) (hi:∀ (i:Nat) x y,ys[i]? = some x->xs[i]? = some y->∀ F w v,DRep F w v x->DRep F w v y):PCalls P f ys r:=fun F w vals hvl hv hg=>
 h F w vals (hvl.trans hl) (fun i v y hvi hy=>by
  obtain⟨x,hx⟩:∃ x,ys[i]? = some x:=⟨_,A4 (by rw[hl];exact(A6.1 hy).1)⟩
  exact hi i x y hx hy F w v (hv i v x hvi hx)) hg
end Px
variable {f:Nat} {r:SV}
theorem noTs_cG (l:List Nat) (t:Nat):((cG l).all fun x=>x.noTs t)=true:=by
 rw[E5]
 intro x hx
 simp only[cG,vG,H2]at hx
 obtain⟨u,-,rfl⟩:=hx
 rfl
def Ph:List Nat->DV
 | []=>.val (.slice none 0 0)
 | x::l=>.sl 1 ((x::l).map dG)
theorem Mj {F:Nat->Nat->Prop} {w:World} {v:Value} {l:List Nat} (h:DRep F w v (Ph l)):DRep F w v (.sl 1 (l.map dG)):=by
 cases l with
 | nil=>
  have:=DRep.val_eq h
  subst this
  exact DRep.nil
 | cons x l=>exact h
theorem mg1 {m:List Nat} (h:PCalls Tryz.prog f [.sl 1 (m.map dG)] r):PCalls Tryz.prog f [Ph m] r:=h.mono_args rfl fun i x y hx hy F w v hv=>by
 match i,hx,hy with
 | 0,hx,hy=>cases hx;cases hy;exact Mj hv
 | i+1,hx,hy=>simp at hx
theorem mg2 {m n:List Nat} (h:PCalls Tryz.prog f [.sl 1 (m.map dG),.sl 1 (n.map dG)] r):PCalls Tryz.prog f [Ph m,Ph n] r:=h.mono_args rfl fun i x y hx hy F w v hv=>by
 match i,hx,hy with
 | 0,hx,hy=>cases hx;cases hy;exact Mj hv
 | 1,hx,hy=>cases hx;cases hy;exact Mj hv
 | i+2,hx,hy=>simp at hx
abbrev dNm (b:Bool) (l:List Nat):List DV:=[dB b,Ph l]
theorem QD (a:F6) (ha:a.length<=1000000):PCalls Tryz.prog 142 [dS a] (.d (.agg (dNm (L9 a).2 (DL (L9 a).1)))):=by
 by_cases h:(L9 a).1=[]
 . have:=QC a ha h
   rw[OD h,h,Dv]
   exact this
 . have:=NA a ha
   rw[Du h]at this ⊢
   exact this
theorem OW:PCalls Tryz.prog 238 [.val (.slice none 0 0)] (.d (.val (.slice none 0 0))):=by
 refine L5 Tryz.func238 C Tryz.ntmps238 Tryz.results238 fun B w0=>?_
 refine D7 (H3 C (yQ (B2 (D7 (B6 C (yEz Tryz.underlying181 C (yQ (G2 C (D7 ?_)))))))));refine H3 C (yQ (C4 (A5 ?_)))
 exact M5 C C
theorem wClone (l:List Nat) (h0:0<l.length) (hl:l.length<=1000000):POwn Tryz.prog 238 [.sl 1 (l.map dG)] u64T 1 (l.map dG):=by
 refine Lu (t:=198*100000+5) Tryz.func238 C Tryz.ntmps238 Tryz.results238 (by simp) C fun B w0=>?_
 refine D7 (H3 C (yQ (B2 (D7 (B6 C ?_)))));refine yEn Tryz.underlying181 (by simp;omega) C ?_;refine yQ (D8 C (B1 (D7 (yEb C (B6 C ?_)))));refine Lh (us:=[]) (vs:=vG l) (m:=l.length) (n:=0) h0 (by omega) (by omega) (by rw[vG,List.map_map];exact AH l C) (by simp) C C C C ?_;refine EZ C (yQ ?_);refine Lt 2 5 (198*100000+5) (n:=0+l.length) (es:=l.map dG) (ds:=l.map dU) (by simp) (AH l (by simp)) (Cn _) C C C C (Oo (i:=5) (cs:=cG l) C C (noTs_cG l _)) ?_;refine C4 ?_
 exact q_own C (G4 some (by simp))
theorem IK (m n:List Nat) (i:Nat):R6 m n (i+1)=if S0 m i<(R6 m n i).2+S0 n i then ((R6 m n i).1++[S0 m i+1000000000-((R6 m n i).2+S0 n i)],1)else ((R6 m n i).1++[S0 m i-((R6 m n i).2+S0 n i)],0):=rfl
theorem wMinusP (m n:List Nat) (hgm:gok m) (hgn:gok n) (h0:0<m.length) (hlm:m.length<=1000000):PCalls Tryz.prog 198 [.sl 1 (m.map dG),.sl 1 (n.map dG)] (.d (.sl 1 ((S7 (R6 m n m.length).1).map dG))):=by
 have c1:=wClone m h0 hlm
 obtain⟨z,hz⟩:=H8 ((R6 m n m.length).1)
 have hzl:z.length=m.length:=by rw[hz];exact(AX hgm hgn m.length).1
 have c2:=wCut z (by omega)
 rw[<-hz]
 obtain⟨r,hr⟩:=H8 (S7 z)
 rw[<-hr]at c2 ⊢
 refine L5 Tryz.func198 C Tryz.ntmps198 Tryz.results198 fun B w0=>?_
 refine D7 (H3 C (yQ (D7 (B6 C ?_))));refine yCob (vs:=vG m) c1 (by simp;omega) (by rw[vG,List.map_map];simp only[A8];exact AH m C) (by simp) C C ?_;refine EZ C (yQ (D7 (H3 C (yQ (B2 (D7 (AM C (yNb C (B6 C ?_)))))))));refine yQ (B7 ?_);refine H9 (fun i:Nat=>⟨49,[(1,.d (.sl 1 (n.map dG))),(5,.bs 10 (m.map dG).length u64T 1),(6,.d (dU (R6 m n i).2)),(12,.d (dI (m.map dG).length)),(13,.d (dI i))],[(10,cG ((R6 m n i).1++m.drop i))],[]⟩) (fun i=>i<=m.length) (fun i=>m.length-i) 0 (E7 _)
  ⟨rfl,⟨E6,E6,E6,E6,E6,D3⟩,⟨⟨_,rfl,K8 rfl⟩,D3⟩,D3,by simp[PS.closed,SV.ok,G1,Nat.beq,-List.map_take,-List.map_set,-List.map_append,-List.map_drop]⟩ ?_
 intro i hi
 obtain⟨h1,h2,h3,-⟩:=AX hgm hgn i
 have hnx:=IK m n i
 obtain⟨⟨p,c⟩,hp⟩:=H8 (R6 m n i)
 rw[<-hp]at h1 h2 h3 hnx ⊢
 simp only at h1 h2 h3 hnx ⊢
 rcases D5 i m.length with hi2|hi2
 . have t1:decide ((i:Int)<((m.map dG).length:Int))=true:=B0 (by rw[A8];omega)
   obtain⟨a,ha⟩:=DJ hi2
   have hga:=V9 ha
   have ha9:a<1000000000:=hgm a (B8 ha)
   have hdr:m.drop i=a::m.drop (i+1):=by
    obtain⟨q1,q2⟩:=A6.1 ha
    rw[I5 q1,q2]
   obtain⟨q,hq⟩:=H8 (m.drop (i+1))
   rw[hdr,<-hq]
   rw[hga]at hnx
   have hat:=EV (q:=q) (a:=a) h1
   have hwi:=I8 ((i:Int)+1) (by omega)
   have hml:(i:Int)<((m.map dG).length:Int):=by rw[A8];omega
   rcases D5 i n.length with hj|hj
   . have t2:decide ((i:Int)<((n.map dG).length:Int))=true:=B0 (by rw[A8];omega)
     obtain⟨b,hb⟩:=DJ hj
     have hb9:b<1000000000:=hgn b (B8 hb)
     have eb:=ix dG n (i:Int) i b rfl hb
     have hgb:=V9 hb
     rw[hgb]at hnx
     have w1:IntKind.u64.wrap ((c:Int)+(b:Int))=((c+b:Nat):Int):=by rw[<-Int.natCast_add];exact Eg (by omega)
     by_cases hlt:a<c+b
     . have t3:decide ((a:Int)<(((c+b):Nat):Int))=true:=B0 (by omega)
       rw[B9 hlt]at hnx
       obtain⟨a2,ha2⟩:=H8 (a+1000000000)
       rw[<-ha2]at hnx
       have w2:IntKind.u64.wrap ((a:Int)+1000000000)=(a2:Int):=by rw[IntKind.wrap_u64];omega
       have hs1:=Y6 (q:=q) (a:=a) a2 h1
       have hl1:=BG (q:=q) (a:=a) h1
       have hat2:=EV (q:=q) (a:=a2) h1
       have w3:IntKind.u64.wrap ((a2:Int)-(((c+b):Nat):Int))=((a2-(c+b):Nat):Int):=by rw[<-Int.natCast_sub (by omega)];exact Eg (by omega)
       have hs2:=Y6 (q:=q) (a:=a2) (a2-(c+b)) h1
       have hl2:=BG (q:=q) (a:=a2) h1
       refine D7 (yB C C C C (yQ (B2 ?_)));rw[t1];refine G2 C (B1 (B2 (B7 (D7 (B6 C (H3 C (yQ (D7 (B6 C ?_)))))))));refine H3 C (yQ (B2 (D7 (B6 C (B6 C (yN C (yB C C C C (yQ (B3 ?_)))))))));rw[t2];refine G2 C (B4 (B6 C (B6 C (B6 C (yW eb (by omega) C C (K5 C C (yB C C C C (H3 C (yQ ?_)))))))));refine D7 (H3 C (yQ (B2 (D7 (AM C (B6 C (Ad (by omega) (by omega) C C C (AL C C hat (B6 C ?_)))))))));refine yB C C C C (yQ (B3 ?_));rw[w1];rw[t3]
       refine G2 C (D7 (AM C (B6 C (Ad (by omega) (by omega) C C C (AL C C hat (yBw w2 C C (Ad (by omega) (by omega) C C C ?_)))))));refine X8 C C C hs1 ?_ hl1;refine yQ (B4 (H3 C (yQ (B4 (AM C (B6 C (Ad (by omega) (by omega) C C C (AL C C hat2 (B6 C ?_)))))))));refine yB C C C C (Ad (by omega) (by omega) C C C ?_);rw[w3];refine X8 C C C hs2 ?_ hl2;refine yQ (B4 (yB C C C C (B6 C (yQ (B3 ?_)))))
       refine⟨i+1,by omega,by omega,rfl,⟨E6,E6,.of_eq (by rw[hnx];rfl),E6,P2 hwi,D3⟩,⟨⟨_,rfl,K8 (by rw[hnx,<-hq,G8];rfl)⟩,D3⟩,D3,by simp[PS.closed,SV.ok,G1,Nat.beq,-List.map_take,-List.map_set,-List.map_append,-List.map_drop]⟩
     . have t3:decide ((a:Int)<(((c+b):Nat):Int))=false:=A7 (by omega)
       rw[B5 hlt]at hnx
       have w3:IntKind.u64.wrap ((a:Int)-(((c+b):Nat):Int))=((a-(c+b):Nat):Int):=by rw[<-Int.natCast_sub (by omega)];exact Eg (by omega)
       have hs2:=Y6 (q:=q) (a:=a) (a-(c+b)) h1
       have hl2:=BG (q:=q) (a:=a) h1
       refine D7 (yB C C C C (yQ (B2 ?_)));rw[t1];refine G2 C (B1 (B2 (B7 (D7 (B6 C (H3 C (yQ (D7 (B6 C ?_)))))))));refine H3 C (yQ (B2 (D7 (B6 C (B6 C (yN C (yB C C C C (yQ (B3 ?_)))))))));rw[t2];refine G2 C (B4 (B6 C (B6 C (B6 C (yW eb (by omega) C C (K5 C C (yB C C C C (H3 C (yQ ?_)))))))));refine D7 (H3 C (yQ (B2 (D7 (AM C (B6 C (Ad (by omega) (by omega) C C C (AL C C hat (B6 C ?_)))))))));refine yB C C C C (yQ (B3 ?_));rw[w1];rw[t3]
       refine D8 C (B1 (B4 (AM C (B6 C (Ad (by omega) (by omega) C C C (AL C C hat (B6 C (yB C C C C (Ad (by omega) (by omega) C C C ?_)))))))));rw[w3];refine X8 C C C hs2 ?_ hl2;refine yQ (B4 (yB C C C C (B6 C (yQ (B3 ?_)))))
       refine⟨i+1,by omega,by omega,rfl,⟨E6,E6,.of_eq (by rw[hnx];rfl),E6,P2 hwi,D3⟩,⟨⟨_,rfl,K8 (by rw[hnx,<-hq,G8];rfl)⟩,D3⟩,D3,by simp[PS.closed,SV.ok,G1,Nat.beq,-List.map_take,-List.map_set,-List.map_append,-List.map_drop]⟩
   . have t2:decide ((i:Int)<((n.map dG).length:Int))=false:=A7 (by rw[A8];omega)
     simp only[Di hj,Nat.add_zero]at hnx
     by_cases hlt:a<c
     . have t3:decide ((a:Int)<((c:Nat):Int))=true:=B0 (by omega)
       rw[B9 hlt]at hnx
       obtain⟨a2,ha2⟩:=H8 (a+1000000000)
       rw[<-ha2]at hnx
       have w2:IntKind.u64.wrap ((a:Int)+1000000000)=(a2:Int):=by rw[IntKind.wrap_u64];omega
       have hs1:=Y6 (q:=q) (a:=a) a2 h1
       have hl1:=BG (q:=q) (a:=a) h1
       have hat2:=EV (q:=q) (a:=a2) h1
       have w3:IntKind.u64.wrap ((a2:Int)-((c:Nat):Int))=((a2-c:Nat):Int):=by rw[<-Int.natCast_sub (by omega)];exact Eg (by omega)
       have hs2:=Y6 (q:=q) (a:=a2) (a2-c) h1
       have hl2:=BG (q:=q) (a:=a2) h1
       refine D7 (yB C C C C (yQ (B2 ?_)));rw[t1];refine G2 C (B1 (B2 (B7 (D7 (B6 C (H3 C (yQ (D7 (B6 C ?_)))))))));refine H3 C (yQ (B2 (D7 (B6 C (B6 C (yN C (yB C C C C (yQ (B3 ?_)))))))));rw[t2];refine D8 C (B1 (D7 (H3 C (yQ (B2 (D7 (AM C (B6 C (Ad (by omega) (by omega) C C C ?_)))))))));refine AL C C hat (B6 C (yB C C C C (yQ (B3 ?_))));rw[t3];refine G2 C (D7 (AM C (B6 C (Ad (by omega) (by omega) C C C (AL C C hat (yBw w2 C C (Ad (by omega) (by omega) C C C ?_)))))));refine X8 C C C hs1 ?_ hl1;refine yQ (B4 (H3 C (yQ (B4 (AM C (B6 C (Ad (by omega) (by omega) C C C (AL C C hat2 (B6 C ?_)))))))));refine yB C C C C (Ad (by omega) (by omega) C C C ?_);rw[w3];refine X8 C C C hs2 ?_ hl2;refine yQ (B4 (yB C C C C (B6 C (yQ (B3 ?_)))))
       refine⟨i+1,by omega,by omega,rfl,⟨E6,E6,.of_eq (by rw[hnx];rfl),E6,P2 hwi,D3⟩,⟨⟨_,rfl,K8 (by rw[hnx,<-hq,G8];rfl)⟩,D3⟩,D3,by simp[PS.closed,SV.ok,G1,Nat.beq,-List.map_take,-List.map_set,-List.map_append,-List.map_drop]⟩
     . have t3:decide ((a:Int)<((c:Nat):Int))=false:=A7 (by omega)
       rw[B5 hlt]at hnx
       have w3:IntKind.u64.wrap ((a:Int)-((c:Nat):Int))=((a-c:Nat):Int):=by rw[<-Int.natCast_sub (by omega)];exact Eg (by omega)
       have hs2:=Y6 (q:=q) (a:=a) (a-c) h1
       have hl2:=BG (q:=q) (a:=a) h1
       refine D7 (yB C C C C (yQ (B2 ?_)));rw[t1];refine G2 C (B1 (B2 (B7 (D7 (B6 C (H3 C (yQ (D7 (B6 C ?_)))))))));refine H3 C (yQ (B2 (D7 (B6 C (B6 C (yN C (yB C C C C (yQ (B3 ?_)))))))));rw[t2];refine D8 C (B1 (D7 (H3 C (yQ (B2 (D7 (AM C (B6 C (Ad (by omega) (by omega) C C C ?_)))))))));refine AL C C hat (B6 C (yB C C C C (yQ (B3 ?_))));rw[t3];refine D8 C (B1 (B4 (AM C (B6 C (Ad (by omega) (by omega) C C C (AL C C hat (B6 C (yB C C C C (Ad (by omega) (by omega) C C C ?_)))))))));rw[w3];refine X8 C C C hs2 ?_ hl2;refine yQ (B4 (yB C C C C (B6 C (yQ (B3 ?_)))))
       refine⟨i+1,by omega,by omega,rfl,⟨E6,E6,.of_eq (by rw[hnx];rfl),E6,P2 hwi,D3⟩,⟨⟨_,rfl,K8 (by rw[hnx,<-hq,G8];rfl)⟩,D3⟩,D3,by simp[PS.closed,SV.ok,G1,Nat.beq,-List.map_take,-List.map_set,-List.map_append,-List.map_drop]⟩
 . have t1:decide ((i:Int)<((m.map dG).length:Int))=false:=A7 (by rw[A8];omega)
   obtain rfl:i=m.length:=by omega
   rw[<-hp]at hz
   simp only at hz
   rw[List.drop_length,List.append_nil,<-hz]
   refine Br 5 10 (n:=(m.map dG).length) (es:=z.map dG) (ds:=z.map dU) (by simp;omega) (AH z (by simp;omega)) (Cn _) C C ?_;refine D7 (yB C C C C (yQ (B2 ?_)));rw[t1];refine D8 C (F9 (D7 (B6 C (yC (c2) C C (H3 C (yQ (C4 ?_)))))))
   exact M5 C C
open Go.RowKit Px
abbrev bT:Nat:=131
abbrev uT:Nat:=5*100000+4
abbrev uT2:Nat:=5*100000+10004
abbrev dY (c:UInt8):List DV:=[DV.val (.int .u8 c.toNat)]
theorem Ns:∃ j,Tryz.prog.info? 131=some j∧j.size≠0:=by
 have h:(Tryz.prog.info? 131).map (·.size)=some 2:=by kernel_rfl
 obtain⟨j,h1,h2⟩:=C7.1 h
 exact⟨j,h1,by omega⟩
theorem SQ (v:Value) (w:World):(callFunc 186 #[v]).run Tryz.prog w=.ok (.value v) w:=by
 rw[run_callFunc_extern Tryz.func186 (by kernel_rfl) (by kernel_rfl) (by kernel_rfl) (e:=Extern.AbiNoEscape.same) (by kernel_rfl),Lib.run_noEscape]
 rfl
theorem hLies:liesAt Tryz.prog Tryz.prog.depth 131 (2 / Tryz.prog.cellsOf 131) 0 131 1=true:=by kernel_rfl
theorem wCcF (l:List UInt8):Jz Tryz.prog 132 [.tx 10004 bT 2] [(10004,[.d (.val (.pointer none)),.ts uT2 1 (l.map dY)])] [(uT2,(l.map dY).length)] (.tup []) [(10004,[.tx 10004 bT 2,.ts uT2 1 (l.map dY)])] [(uT2,(l.map dY).length)]:=by
 obtain⟨j,hj,hj0⟩:=Ns
 refine P5 Tryz.func132 C Tryz.ntmps132 Tryz.results132 (by simp) fun B w0=>?_
 refine D7 (DI C (Hp C (X9 C (AL C C C (yQz Tryz.underlying128 C (yQ (G2 C (B4 (DI C ?_)))))))));refine DI C ?_;refine yQu Tryz.underlying128 Tryz.underlying216 hj hj0 (by decide) C ?_;refine yQn SQ C (yQc Tryz.underlying216 Tryz.underlying128 hj hLies C (Hp C (X9 C (yQs (cs':=[_,_]) C C C C (yQ ?_)))))
 exact q_xe [] .nil C ⟨rfl,D3⟩ ⟨rfl,D3⟩
theorem wCcU (l:List UInt8):Jz Tryz.prog 132 [.tx 10004 bT 2] [(10004,[.tx 10004 bT 2,.ts uT2 1 (l.map dY)])] [(uT2,(l.map dY).length)] (.tup []) [(10004,[.tx 10004 bT 2,.ts uT2 1 (l.map dY)])] [(uT2,(l.map dY).length)]:=by
 obtain⟨j,hj,hj0⟩:=Ns
 refine P5 Tryz.func132 C Tryz.ntmps132 Tryz.results132 (by simp) fun B w0=>?_
 refine D7 (DI C (Hp C (X9 C (yQl C C C (yQe Tryz.underlying128 C (yQ (D8 C (D7 (DI C ?_)))))))));refine Hp C (X9 C (yQl C C C (DI C (yQq Tryz.underlying128 hj C C (yQ (D8 C (B1 ?_)))))))
 exact q_xe [] .nil C ⟨rfl,D3⟩ ⟨rfl,D3⟩
theorem wWbF (l:List UInt8) (c:UInt8) (hl:l.length<=100000000):Jz Tryz.prog 194 [.tx 4 bT 2,.d (.val (.int .u8 c.toNat))] [(4,[.d (.val (.pointer none)),.ts uT 1 (l.map dY)])] [(uT,(l.map dY).length)] (.d (.val .nilIface)) [(4,[.tx 4 bT 2,.ts uT 1 ((l++[c]).map dY)])] [(uT,((l++[c]).map dY).length)]:=by
 refine P5 Tryz.func194 C Tryz.ntmps194 Tryz.results194 (by simp) fun B w0=>?_
 refine D7 (H3 C (yQ (D7 (DI C ?_))));refine CN (wCcF l) C ⟨rfl,D3⟩ ⟨rfl,D3⟩ ?_ (hfit:=by kernel_rfl);refine yQ (D7 (DI C (DI C (Hp C (X9 C (Ju C C C (B6 C ?_)))))));refine yR (es:=[[_]]) C C C C C ?_;refine yT (es':=(l++[c]).map dY) (m:=((l++[c]).map dY).length) (by simp;omega) (by simp;omega) C C C C C (by simp) (by simp) ?_;refine Hp C (X9 C (Pr (cs':=[_,_]) C C C C (yQ (D7 (H3 C (yQ (C4 ?_)))))))
 exact q_x _ (.tmp C .nil) C ⟨rfl,D3⟩ ⟨rfl,D3⟩
theorem wWsF (l s:List UInt8) (hl:l.length<=100000000) (hs:s.length<=100000000) (h0:0<s.length):Jz Tryz.prog 88 [.tx 4 bT 2,.d (dS s)] [(4,[.d (.val (.pointer none)),.ts uT 1 (l.map dY)])] [(uT,(l.map dY).length)] (.tup [dI s.length,.val .nilIface]) [(4,[.tx 4 bT 2,.ts uT 1 ((l++s).map dY)])] [(uT,((l++s).map dY).length)]:=by
 refine P5 Tryz.func88 C Tryz.ntmps88 Tryz.results88 (by simp) fun B w0=>?_
 refine D7 (H3 C (H3 C (yQ (D7 (DI C ?_)))));refine CN (wCcF l) C ⟨rfl,D3⟩ ⟨rfl,D3⟩ ?_ (hfit:=by kernel_rfl)
 refine yQ (D7 (DI C (DI C (Hp C (X9 C (Ju C C C (B6 C ?_)))))));refine yTs (es2:=s.map dY) (es':=(l++s).map dY) (m:=((l++s).map dY).length) (by kernel_rfl) Tryz.underlying9 h0 C (by simp;omega) C C C C C (by simp) (by simp) ?_;refine Hp C (X9 C (Pr (cs':=[_,_]) C C C C (yQ (D7 (B6 C (N3 C (H3 C (H3 C (yQ ?_)))))))));refine C4 ?_
 exact q_x _ (.tmp C (.tmp C .nil)) C ⟨rfl,D3⟩ ⟨rfl,D3⟩
theorem wWsU (l s:List UInt8) (hl:l.length<=100000000) (hs:s.length<=100000000) (h0:0<s.length):Jz Tryz.prog 88 [.tx 4 bT 2,.d (dS s)] [(4,[.tx 4 bT 2,.ts uT 1 (l.map dY)])] [(uT,(l.map dY).length)] (.tup [dI s.length,.val .nilIface]) [(4,[.tx 4 bT 2,.ts uT 1 ((l++s).map dY)])] [(uT,((l++s).map dY).length)]:=by
 refine P5 Tryz.func88 C Tryz.ntmps88 Tryz.results88 (by simp) fun B w0=>?_
 refine D7 (H3 C (H3 C (yQ (D7 (DI C ?_)))));refine CN (wCcU l) C ⟨rfl,D3⟩ ⟨rfl,D3⟩ ?_ (hfit:=by kernel_rfl)
 refine yQ (D7 (DI C (DI C (Hp C (X9 C (Ju C C C (B6 C ?_)))))));refine yTs (es2:=s.map dY) (es':=(l++s).map dY) (m:=((l++s).map dY).length) (by kernel_rfl) Tryz.underlying9 h0 C (by simp;omega) C C C C C (by simp) (by simp) ?_;refine Hp C (X9 C (Pr (cs':=[_,_]) C C C C (yQ (D7 (B6 C (N3 C (H3 C (H3 C (yQ ?_)))))))));refine C4 ?_
 exact q_x _ (.tmp C (.tmp C .nil)) C ⟨rfl,D3⟩ ⟨rfl,D3⟩
open Go.RowKit Go.Sort Go.Lib Go.Shelf
variable {l:List Nat}
set_option maxRecDepth 100000 in
theorem Mb (i:Nat) (hi:i<100) (w:World):
 Calls Tryz.prog 235 #[.int .u64 i,.int .i64 10] w fun e w'=>e=.returned (.string ⟨(Lib.decDigits i).toArray⟩)∧w'=w:=by
 have hc:∀ W,Calls Tryz.prog 257 #[.int .i64 i] W fun e w'=>e=.returned (.string ⟨(Lib.decDigits i).toArray⟩)∧w'=W:=fun W=>
  Any.internal_strconv_small (ρ:=Tryz.small_ren) Tryz.small i hi W
 have iu:(i:Int)<100:=by omega
 go_enter Tryz.func235,Tryz.ntmps235
 go_wp2_with fail
 refine(hc _).mono ?_
 rintro e w' ⟨rfl,rfl⟩
 go_wp2_with fail
 go_ret
 exact⟨rfl,C⟩
set_option maxRecDepth 100000 in
theorem SY (u:Nat) (hu:100<=u) (hu64:u<18446744073709551616) (w:World) (htab:Lib.TabIs Tryz.prog w "internal/strconv.uint64pow10" .u64 Lib.pow10Tab):
 Calls Tryz.prog 235 #[.int .u64 u,.int .i64 10] w fun e w'=>e=.returned (.string ⟨(Lib.decDigits u).toArray⟩)∧Below w.heap.size w w':=by
 have hu1:1<=u:=by omega
 have iu:(100:Int)<=(u:Int):=by omega
 have hnd20:Lib.nDigits u<=20:=by have:=Lib.numDigits_eq u hu1 hu64;split at this<;>omega
 have hal:Tryz.prog.arrayLen 273=24:=by kernel_rfl
 have hsl:∀ W,(Instr.sliceAt 273 (.pointer (some ⟨w.heap.size,0,none⟩)) none (some (.int .i64 (Lib.nDigits u:Int))) none).run Tryz.prog W=.ok (.slice (some ⟨w.heap.size,0,none⟩) (Lib.nDigits u) 24) W:=fun W=>by
  rw[run_sliceAt_array_h W 273 ⟨w.heap.size,0,none⟩ (by simp[Program.arrayLen,Program.elem,Tryz.underlying273]) .i64 (Lib.nDigits u:Int) (by omega) (by rw[hal];omega)]
  go_simp
 have hH0:=Lib.holds_zero0 w 273 (Lib.nDigits u) (by omega)
 have hfmt:Calls Tryz.prog 259 _ _ _:=Any.internal_strconv_formatBase10 (ρ:=Tryz.fb_ren) Tryz.fb w.heap.size 0 24 u (Array.replicate (Lib.nDigits u) 0) (w.alloc (.cells Lib.zeros24 273)) hH0 (by rw[Array.size_replicate];exact Lib.lt_pow_nDigits u) hu64 (by rw[Array.size_replicate];omega)
 rw[Array.size_replicate]at hfmt
 have hnd:∀ W,Lib.TabIs Tryz.prog W "internal/strconv.uint64pow10" .u64 Lib.pow10Tab->Calls Tryz.prog 258 #[.int .u64 u] W fun e w'=>e=.returned (.int .i64 (Lib.nDigits u))∧w'=W:=fun W h=>Any.internal_strconv_numDigits (ρ:=Tryz.nd_ren) Tryz.nd u hu1 hu64 W h
 have HH0:=Lib.hid hH0
 clear hH0 hal
 go_enter Tryz.func235,Tryz.ntmps235
 go_wp2_with fail
 refine(hnd _ (Lib.tabIs_alloc htab _)).mono ?_
 rintro e w' ⟨rfl,rfl⟩
 go_wp2_with fail
 refine hfmt.mono ?_
 rintro e w' ⟨rfl,k,v',dk,rfl,hF⟩
 have hcv:(convert 129 9 (.slice (some ⟨w.heap.size,0,none⟩) (Lib.nDigits u) 24)).run Tryz.prog ((putRow (fun(b:UInt8)=>Value.int .u8 (b.toNat:Int)) (w.alloc (.cells Lib.zeros24 273)) w.heap.size 0 dk).drewN k)=.ok (.string ⟨(Lib.decDigits u).toArray⟩) ((putRow (fun(b:UInt8)=>Value.int .u8 (b.toNat:Int)) (w.alloc (.cells Lib.zeros24 273)) w.heap.size 0 dk).drewN k):=by
  have h:=run_convert_bytes_back (P:=Tryz.prog) ((putRow (fun(b:UInt8)=>Value.int .u8 (b.toNat:Int)) (w.alloc (.cells Lib.zeros24 273)) w.heap.size 0 dk).drewN k) 129 9 5 ⟨w.heap.size,0,none⟩ 24 (Lib.decDigits u) Tryz.underlying129 Tryz.underlying5 Tryz.underlying9 (fun j hj=>by
   rw[Lib.row_is_numeral hF j hj,Lib.add_plain,World.cell?_drewN]
   exact cell?_putRow (fun(b:UInt8)=>Value.int .u8 (b.toNat:Int)) _ w.heap.size 0 _ dk HH0.out (by rw[hF.size,Array.size_replicate]) j (by rw[hF.size];rw[Lib.decDigits_length]at hj;exact hj))
  rw[Lib.decDigits_length]at h
  exact h
 have hbel:Below w.heap.size w ((putRow (fun(b:UInt8)=>Value.int .u8 (b.toNat:Int)) (w.alloc (.cells Lib.zeros24 273)) w.heap.size 0 dk).drewN k):=by
  obtain⟨os,eo⟩:=Lib.fin_at w (.cells Lib.zeros24 273) dk k 0
  rw[eo]
  exact Lib.below_grow _ w (E0 _) k os
 go_wp2
 go_ret
 exact⟨rfl,hbel⟩
theorem tab_is {F:Nat->Nat->Prop} {w:World} (hg:GlobOk F w):Lib.TabIs Tryz.prog w "internal/strconv.uint64pow10" .u64 Lib.pow10Tab:=by
 obtain⟨-,vs,h1,T,z,h2⟩:=hg (5) ((Lib.pow10Tab.map fun z=>Value.int .u64 z).map DV.val) (by kernel_rfl)
 have e:vs=Lib.pow10Tab.map fun z=>Value.int .u64 z:=((List.map_inj_right (fun a b h=>by cases h;rfl)).1 h1).symm
 have hn:Program.globalNamed Tryz.prog "internal/strconv.uint64pow10" = some (5):=by kernel_rfl
 show World.var? _ _ _=_
 unfold World.var?
 rw[hn,Option.bind_some,h2,e]
theorem IA (n:Nat):Lib.decDigits n=fmt n:=by
 unfold fmt
 by_cases h:n=0
 . rw[B9 h,h,Lib.decDigits,dif_pos (by decide)]
   decide
 . rw[B5 h]
   exact BK h
theorem wFmtUi (u:Nat) (hu:u<18446744073709551616):PCalls Tryz.prog 235 [dU u,dI 10] (.d (dS (fmt u))):=
 PCalls.of_any (us:=[vS (fmt u)]) rfl (EA _ rfl) fun F w vals hl hr hg=>by
  obtain rfl:vals=[.int .u64 u,.int .i64 10]:=Fv (us:=[.int .u64 u,.int .i64 10]) hl hr
  rw[<-IA]
  by_cases h:u<100
  . refine(Mb u h w).mono ?_
    rintro e w' ⟨rfl,rfl⟩
    exact⟨rfl,Below.refl _ _⟩
  . refine(SY u (by omega) hu w (tab_is hg)).mono ?_
    rintro e w' ⟨rfl,h⟩
    exact⟨rfl,h⟩
theorem QT (u:Nat) (hu:u<18446744073709551616):PCalls Tryz.prog 195 [dU u,dI 10] (.d (dS (fmt u))):=by
 have c1:=wFmtUi u hu
 refine L5 Tryz.func195 C Tryz.ntmps195 Tryz.results195 fun B w0=>?_
 refine D7 (H3 C (yQ (D7 (B6 C (B6 C (yC (c1) C C (H3 C (yQ (C4 ?_)))))))))
 exact M5 C C
theorem bExtraR:Builder.Extra Tryz.prog Tryz.repeat_ren:={ sizeBuilder:=by kernel_rfl,liesBuilder:=by kernel_rfl,t5:=by kernel_rfl,a5:=fun _=>by kernel_rfl,z5:=fun _=>by kernel_rfl,v5:=fun _=>by kernel_rfl,infoByte:=by kernel_rfl,cellsByte:=by kernel_rfl,sizeByte:=by kernel_rfl,neB5:=by decide }
theorem EX:Builder.Extra Tryz.prog Tryz.bst_ren:={ sizeBuilder:=by kernel_rfl,liesBuilder:=by kernel_rfl,t5:=by kernel_rfl,a5:=fun _=>by kernel_rfl,z5:=fun _=>by kernel_rfl,v5:=fun _=>by kernel_rfl,infoByte:=by kernel_rfl,cellsByte:=by kernel_rfl,sizeByte:=by kernel_rfl,neB5:=by decide }
theorem Mz (k:Nat) (hk:k<=9):PCalls Tryz.prog 196 [dS [48],dI k] (.d (dS (List.replicate k 48))):=
 PCalls.of_any (us:=[vS (List.replicate k 48)]) rfl (EA _ rfl) fun F w vals hl hr hg=>by
  obtain rfl:vals=[vS [48],.int .i64 k]:=Fv (us:=[vS [48],.int .i64 k]) hl hr
  have e:Lib.repeatL [48] k=List.replicate k 48:=by
   have:=Lib.repeatL_replicate 48 1 k
   rwa [Nat.mul_one]at this
  refine(Any.strings_Repeat Tryz.repeat bExtraR ⟨#[48]⟩ k w (by omega) (by show 1*k<=_;omega)).mono ?_
  rintro en w' ⟨rfl,h⟩
  refine⟨?_,h⟩
  show Ending.returned (.string ⟨(Lib.repeatL [48] k).toArray⟩)=_
  rw[e]
theorem Qi {x:Nat} (hg:gok (l++[x])) (hx:x≠0) (b:Bool):J3 (sg b (K6 (l++[x])))=(if b then [45]else [])++fmt x++pads l:=by
 have h1:=Mi (Ha.1 hg).1 hx
 have h2:K6 (l++[x])≠0:=by
  rw[Bb]
  have:0<1000000000 ^ l.length*x:=Nat.mul_pos (Nat.pow_pos (by decide)) (by omega)
  omega
 have h3:fmt x=BE x:=by unfold fmt;rw[B5 hx]
 unfold J3 sg
 cases b with
 | true=>
  simp only[if_true]
  rw[B9 (by omega),Int.natAbs_neg,Int.natAbs_natCast,h1,h3]
  rfl
 | false=>
  simp only[Bool.false_eq_true,if_false]
  rw[B5 (by omega),Int.natAbs_natCast,h1,h3]
  rfl
theorem Oc (h:S7 l=[]) (b:Bool):J3 (sg b (K6 l))=[]:=by
 rw[<-DD,h]
 cases b<;>exact S9
theorem fmt_pos (n:Nat):0<(fmt n).length:=by
 unfold fmt
 split
 . decide
 . rename_i h
   rcases H7 (BE n).length with e|e
   . have:=Em n
     rw[List.length_eq_zero_iff.1 e]at this
     exact G5 this.symm h
   . exact e
theorem IV {j y:Nat} (h:l[j]? = some y):pads (l.drop j)=pads (l.drop (j+1))++BU 9 y:=by
 obtain⟨h1,h2⟩:=A6.1 h
 rw[I5 h1,h2,pads]
theorem Hi (l:List Nat):(S7 l).length<=l.length:=by
 induction l with
 | nil=>simp[S7]
 | cons x l ih=>
  rw[S7]
  split
  . simp
  . simp only[List.length_cons];omega
theorem wText (b:Bool) (l:List Nat) (hg:gok l) (hl:l.length<=1000000):PCalls Tryz.prog 143 [.agg (dNum b l)] (.d (dS (J3 (sg b (K6 l))))):=by
 have c1:=wCut l hl
 have hcl:=Hi l
 have hcg:=Hj hg
 obtain⟨r,hr⟩:=H8 (J3 (sg b (K6 l)))
 rw[<-hr]
 rcases List.eq_nil_or_concat (S7 l)with h0|⟨l',x,h0⟩
 . have hr0:r=[]:=by rw[hr,Oc h0]
   subst hr0
   rw[h0]at c1
   refine L5 Tryz.func143 C Tryz.ntmps143 Tryz.results143 fun B w0=>?_
   refine D7 (yK (cs:=[_,_]) C C (H3 C (yQ (D7 (X9 C (AL C C C (yC (c1) C C (H3 C (yQ ?_)))))))));refine B2 (D7 (B6 C (yN C (yB C C C C (yQ (G2 C (D7 (H3 C (yQ ?_)))))))));refine C4 (A5 ?_)
   exact M5 C C
 have hlast:=Io l
 have hgv:=DD l
 rw[List.concat_eq_append]at h0
 rw[h0]at c1 hcl hcg hlast hgv
 have hx0:x≠0:=by rintro rfl;simp at hlast
 have hx9:x<1000000000:=hcg x (by simp)
 have hy9:∀ j y,l'[j]? = some y->y<1000000000:=fun j y hy=>hcg y (List.mem_append_left _ (B8 hy))
 have htp:=Qi hcg hx0 b
 rw[hgv,<-hr]at htp
 obtain⟨m,hm⟩:=H8 (l'++[x])
 have hml:m.length=l'.length+1:=by rw[hm];simp
 have hmx:m[l'.length]? = some x:=by rw[hm];simp
 have hmi:∀ i y,l'[i]? = some y->m[i]? = some y:=fun i y hy=>by rw[hm,F3 (A6.1 hy).1];exact hy
 rw[<-hm]at c1
 have hll:l'.length<=1000000:=by simp at hcl;omega
 clear hr h0 hlast hgv hcg hm
 obtain⟨s,hs⟩:=H8 (fmt x)
 have hs0:0<s.length:=by rw[hs];exact fmt_pos x
 have hs9:s.length<=9:=by rw[hs];exact Jk (k:=9) (by omega) (by decide)
 have c2:=QT x (by omega)
 rw[<-hs]at c2 htp
 clear hs
 have u1:(((m.map dG).length:Int)==0)=false:=by rw[A8,hml];simp;omega
 have hw1:IntKind.i64.wrap (((m.map dG).length:Int)-1)=(l'.length:Int):=by rw[A8,I8 _ (by omega)];omega
 have hw2:IntKind.i64.wrap (((m.map dG).length:Int)-2)=(l'.length:Int)-1:=by rw[A8,I8 _ (by omega)];omega
 have ex:=ix dG m (l'.length:Int) l'.length x rfl hmx
 cases b with
 | true=>
  have hrl:r=[45]++s++pads l':=by rw[htp];rfl
  refine L5 Tryz.func143 C Tryz.ntmps143 Tryz.results143 fun B w0=>?_
  refine D7 (yK (cs:=[_,_]) C C (H3 C (yQ (D7 (X9 C (AL C C C (yC (c1) C C (H3 C (yQ ?_)))))))));refine B2 (D7 (B6 C (yN C (yB C C C C (yQ (B3 ?_))))));rw[u1];refine D8 C (B1 (D7 (yQa C (yQ ?_))));refine Bp 4 1 uT 1 C C C C ?_;refine B2 (D7 (X9 C (AL C C C (yQ (G2 C (B4 ?_))))));refine CN (wWbF [] 45 (by simp)) C ⟨rfl,D3⟩ ⟨rfl,D3⟩ ?_ (hfit:=by kernel_rfl);refine yQ (D7 (B6 C (B6 C (yN C (yB C C C C ?_)))));rw[hw1];refine yW ex (by omega) C C (K5 C C (yC (c2) C C ?_));refine CN (wWsU [45] s (by simp) (by omega) hs0) C ⟨rfl,D3⟩ ⟨rfl,D3⟩ ?_ (hfit:=by kernel_rfl);refine yQ (B2 (D7 (B6 C (yN C (yB C C C C (H3 C (yQ (B7 ?_))))))));rw[hw2]
  refine H9 (fun j:Nat=>⟨44,[(3,.d (.sl 1 (m.map dG))),(4,.tx 4 bT 2),(5,.d (dI ((j:Int)-1)))],[(4,[.tx 4 bT 2,.ts uT 1 (([45]++s++pads (l'.drop j)).map dY)])],[(uT,(([45]++s++pads (l'.drop j)).map dY).length)]⟩) (fun j=>j<=l'.length) (fun j=>j) l'.length (E0 _)
   ⟨rfl,⟨E6,E6,E6,D3⟩,⟨⟨_,rfl,E6,.of_eq (by simp[pads]),D3⟩,D3⟩,⟨(by first|(simp[pads];done)|(simp[pads];rfl)),D3⟩,rfl⟩ ?_
  intro j hj
  rcases H7 j with h0|h0
  . subst h0
    have u2:decide (((0:Nat):Int)-1 ≥ 0)=false:=A7 (by omega)
    rw[List.drop_zero,<-hrl]
    have hr0:r≠[]:=by rw[hrl];intro e;have:=G4 List.length e;rw[C9,C9]at this;simp only[List.length_nil]at this;omega
    refine IQ 4 C ?_;refine B2 (D7 (B6 C (yB C C C C (yQ (D8 C (F9 (D7 (yStr (l:=r) Tryz.bst EX C C hr0 C C C C (H3 C ?_)))))))));refine yQ (C4 ?_);rw[u2]
    exact M5 C C
  obtain⟨i,rfl⟩:∃ i,j=i+1:=⟨j-1,by omega⟩
  have u2:decide (((i+1:Nat):Int)-1 ≥ 0)=true:=B0 (by omega)
  obtain⟨y,hy⟩:∃ y,l'[i]? = some y:=⟨_,A4 (by omega)⟩
  have ey:=ix dG m (((i+1:Nat):Int)-1) i y (by omega) (hmi i y hy)
  have hyl:=hy9 i y hy
  have hnx:=IV hy
  have hfp:=Jj (k:=9) (n:=y) (by omega) (by decide)
  have hfl:=Jk (k:=9) (n:=y) (by omega) (by decide)
  have c3:=QT y (by omega)
  obtain⟨t,ht⟩:=H8 (fmt y)
  rw[<-ht]at c3 hfp hfl
  have c4:=Mz (9-t.length) (by omega)
  obtain⟨z,hz⟩:=H8 (List.replicate (9-t.length) (48:UInt8))
  have hzl:z.length=9-t.length:=by rw[hz];simp
  rw[<-hz]at c4 hfp
  have hw3:IntKind.i64.wrap (9-(t.length:Int))=((9-t.length:Nat):Int):=by rw[I8 _ (by omega)];omega
  have hw4:IntKind.i64.wrap (((i+1:Nat):Int)-1-1)=(i:Int)-1:=by rw[I8 _ (by omega)];omega
  have hpl:(pads (l'.drop (i+1))).length<=9000000:=by rw[BB,M7];omega
  obtain⟨p,hp⟩:=H8 (pads (l'.drop (i+1)))
  rw[<-hp]at hnx hpl ⊢
  refine B2 (D7 (B6 C (yB C C C C (yQ (B3 ?_)))));rw[u2];refine G2 C (B1 (B2 (B7 (D7 (B6 C (B6 C (yW ey (by omega) C C (K5 C C (yC (c3) C C ?_)))))))));refine H3 C (yQ (B4 (B6 C (N3 C (yB C C C C ?_)))));rw[hw3];refine yC (c4) C C (B6 C (O2 (l1:=z) (l2:=t) (by omega) C C ?_));refine CN (wWsU ([45]++s++p) (z++t) (by simp;omega) (by simp;omega) (by simp;omega)) C ⟨rfl,D3⟩ ⟨rfl,D3⟩ ?_ (hfit:=by kernel_rfl);refine yQ (B4 (B6 C (yB C C C C (H3 C (yQ (B3 ?_))))));rw[hw4]
  refine⟨i,by omega,by omega,rfl,⟨E6,E6,E6,D3⟩,⟨⟨_,rfl,E6,.of_eq ?_,D3⟩,D3⟩,⟨?_,D3⟩,rfl⟩
  . rw[hnx,hfp,G8 ([45]++s) p]
  . rw[hnx,hfp,G8 ([45]++s) p];rfl
 | false=>
  have hrl:r=([]:F6)++s++pads l':=by rw[htp];rfl
  refine L5 Tryz.func143 C Tryz.ntmps143 Tryz.results143 fun B w0=>?_
  refine D7 (yK (cs:=[_,_]) C C (H3 C (yQ (D7 (X9 C (AL C C C (yC (c1) C C (H3 C (yQ ?_)))))))));refine B2 (D7 (B6 C (yN C (yB C C C C (yQ (B3 ?_))))));rw[u1];refine D8 C (B1 (D7 (yQa C (yQ ?_))));refine Bp 4 1 uT 1 C C C C ?_;refine B2 (D7 (X9 C (AL C C C (yQ (D8 C (B1 (D7 (B6 C (B6 C ?_)))))))));refine yN C (yB C C C C ?_);rw[hw1]
  refine yW ex (by omega) C C (K5 C C (yC (c2) C C ?_));refine CN (wWsF [] s (by simp) (by omega) hs0) C ⟨rfl,D3⟩ ⟨rfl,D3⟩ ?_ (hfit:=by kernel_rfl);refine yQ (B2 (D7 (B6 C (yN C (yB C C C C (H3 C (yQ (B7 ?_))))))));rw[hw2]
  refine H9 (fun j:Nat=>⟨44,[(3,.d (.sl 1 (m.map dG))),(4,.tx 4 bT 2),(5,.d (dI ((j:Int)-1)))],[(4,[.tx 4 bT 2,.ts uT 1 ((([]:F6)++s++pads (l'.drop j)).map dY)])],[(uT,((([]:F6)++s++pads (l'.drop j)).map dY).length)]⟩) (fun j=>j<=l'.length) (fun j=>j) l'.length (E0 _)
   ⟨rfl,⟨E6,E6,E6,D3⟩,⟨⟨_,rfl,E6,.of_eq (by simp[pads]),D3⟩,D3⟩,⟨(by first|(simp[pads];done)|(simp[pads];rfl)),D3⟩,rfl⟩ ?_
  intro j hj
  rcases H7 j with h0|h0
  . subst h0
    have u2:decide (((0:Nat):Int)-1 ≥ 0)=false:=A7 (by omega)
    rw[List.drop_zero,<-hrl]
    have hr0:r≠[]:=by rw[hrl];intro e;have:=G4 List.length e;rw[C9,C9]at this;simp only[List.length_nil]at this;omega
    refine IQ 4 C ?_;refine B2 (D7 (B6 C (yB C C C C (yQ (D8 C (F9 (D7 (yStr (l:=r) Tryz.bst EX C C hr0 C C C C (H3 C ?_)))))))));refine yQ (C4 ?_);rw[u2]
    exact M5 C C
  obtain⟨i,rfl⟩:∃ i,j=i+1:=⟨j-1,by omega⟩
  have u2:decide (((i+1:Nat):Int)-1 ≥ 0)=true:=B0 (by omega)
  obtain⟨y,hy⟩:∃ y,l'[i]? = some y:=⟨_,A4 (by omega)⟩
  have ey:=ix dG m (((i+1:Nat):Int)-1) i y (by omega) (hmi i y hy)
  have hyl:=hy9 i y hy
  have hnx:=IV hy
  have hfp:=Jj (k:=9) (n:=y) (by omega) (by decide)
  have hfl:=Jk (k:=9) (n:=y) (by omega) (by decide)
  have c3:=QT y (by omega)
  obtain⟨t,ht⟩:=H8 (fmt y)
  rw[<-ht]at c3 hfp hfl
  have c4:=Mz (9-t.length) (by omega)
  obtain⟨z,hz⟩:=H8 (List.replicate (9-t.length) (48:UInt8))
  have hzl:z.length=9-t.length:=by rw[hz];simp
  rw[<-hz]at c4 hfp
  have hw3:IntKind.i64.wrap (9-(t.length:Int))=((9-t.length:Nat):Int):=by rw[I8 _ (by omega)];omega
  have hw4:IntKind.i64.wrap (((i+1:Nat):Int)-1-1)=(i:Int)-1:=by rw[I8 _ (by omega)];omega
  have hpl:(pads (l'.drop (i+1))).length<=9000000:=by rw[BB,M7];omega
  obtain⟨p,hp⟩:=H8 (pads (l'.drop (i+1)))
  rw[<-hp]at hnx hpl ⊢
  refine B2 (D7 (B6 C (yB C C C C (yQ (B3 ?_)))));rw[u2];refine G2 C (B1 (B2 (B7 (D7 (B6 C (B6 C (yW ey (by omega) C C (K5 C C (yC (c3) C C ?_)))))))));refine H3 C (yQ (B4 (B6 C (N3 C (yB C C C C ?_)))));rw[hw3];refine yC (c4) C C (B6 C (O2 (l1:=z) (l2:=t) (by omega) C C ?_));refine CN (wWsU (([]:F6)++s++p) (z++t) (by simp;omega) (by simp;omega) (by simp;omega)) C ⟨rfl,D3⟩ ⟨rfl,D3⟩ ?_ (hfit:=by kernel_rfl);refine yQ (B4 (B6 C (yB C C C C (H3 C (yQ (B3 ?_))))));rw[hw4]
  refine⟨i,by omega,by omega,rfl,⟨E6,E6,E6,D3⟩,⟨⟨_,rfl,E6,.of_eq ?_,D3⟩,D3⟩,⟨?_,D3⟩,rfl⟩
  . rw[hnx,hfp,G8 (([]:F6)++s) p]
  . rw[hnx,hfp,G8 (([]:F6)++s) p];rfl
namespace Px
section
variable {P:Program} {sq:Bool} {ops:Array Oper} {K:PS->Prop} {rest:List Oper} {st:PS} {d:Option Nat} {ty:TypeId} {pos:String} {af:Array Edge} {gd:Option (Nat×Bool)}
theorem JM (t:Nat) (o1 o2:Operand) (a b:Bool) (hp:P.underlying t=some .bool) (w:World):(eqGuard .eql t o1 o2 (.bool a) (.bool b) >>= fun _=>binOp .eql t (.bool a) (.bool b)).run P w=.ok (.bool (a==b)) w:=by
 simp[eqGuard,binOp,go_sem,run_equal_bool w t a b hp]
theorem yBb {t t':Nat} {x y:Operand} {a b c:Bool} (hp:P.underlying t=some .bool) (hc:(a==b)=c) (hx:st.ev x=.d (.val (.bool a))) (hy:st.ev y=.d (.val (.bool b))) (h:YR P sq ops K rest (st.put d (.d (.val (.bool c))))) (zz:zk ops st ⟨d,.binOp .eql t x y t',ty,pos,af,gd⟩ .no=true:=by kernel_rfl):
 YR P sq ops K (⟨d,.binOp .eql t x y t',ty,pos,af,gd⟩::rest) st:=by
 subst hc
 exact M3 (Ap .eql t t' x y hx hy (JM t x y a b hp) C (zd zz)) (zo zz) (zw zz) h
end
end Px
theorem wMinusN:PCalls Tryz.prog 198 [.val (.slice none 0 0),.val (.slice none 0 0)] (.d (.sl 1 [])):=by
 have c1:=OW
 have c2:PCalls Tryz.prog 193 [.val (.slice none 0 0)] (.d (.sl 1 [])):=mg1 (m:=[]) (wCut [] (by simp))
 refine L5 Tryz.func198 C Tryz.ntmps198 Tryz.results198 fun B w0=>?_
 refine D7 (H3 C (yQ (D7 (B6 C (yC (c1) C C (H3 C (yQ (D7 (H3 C ?_)))))))));refine yQ (B2 (D7 (B6 C (yNl C (B6 C (yQ (B7 ?_)))))));refine H9 (fun i:Nat=>⟨49,[(5,.d (.val (.slice none 0 0))),(12,.d (dI 0)),(13,.d (dI 0))],[],[]⟩) (fun i=>i=0) (fun i=>i) 0 C ⟨rfl,⟨E6,E6,E6,D3⟩,D3,D3,C⟩ ?_
 intro i hi
 refine D7 (yB C C C C (yQ (B2 (D8 C (F9 (D7 (B6 C (yC (c2) C C (H3 C ?_)))))))));refine yQ (C4 ?_)
 exact M5 C C
theorem QQ (m n:List Nat) (hgm:gok m) (hgn:gok n) (hle:n.length<=m.length) (hlm:m.length<=1000000):PCalls Tryz.prog 198 [Ph m,Ph n] (.d (.sl 1 ((S7 (R6 m n m.length).1).map dG))):=by
 cases m with
 | nil=>
  have hn:n=[]:=List.length_eq_zero_iff.1 (Nat.le_zero.1 hle)
  subst hn
  exact wMinusN
 | cons x m=>exact mg2 (wMinusP (x::m) n hgm hgn (by simp) hlm)
def IC (b1:Bool) (l1:List Nat) (b2:Bool) (l2:List Nat):Bool×List Nat:=
 if b1=b2 then (b1,BS l1 l2)else if Fr l1 l2<0 then (b2,S7 (R6 l2 l1 l2.length).1)else (b1,S7 (R6 l1 l2 l1.length).1)
theorem Z6 {x y:Nat} (h:x<=y):(N5 x).length<=(N5 y).length:=by
 rcases D5 (N5 y).length (N5 x).length with h1|h1
 . have:=V6 h1
   omega
 . exact h1
theorem NK {x y:Nat} (h:y<=x):gok (S7 (R6 (N5 x) (N5 y) (N5 x).length).1)∧K6 (S7 (R6 (N5 x) (N5 y) (N5 x).length).1)=x-y:=by
 have h1:=KO (N7 x) (N7 y) (Z6 h) (by rw[N1,N1];exact h)
 rw[N1,N1]at h1
 exact⟨Hj h1.1,by rw[DD];exact h1.2⟩
theorem Pp (b1 b2:Bool) (x y:Nat):gok (IC b1 (N5 x) b2 (N5 y)).2∧sg (IC b1 (N5 x) b2 (N5 y)).1 (K6 (IC b1 (N5 x) b2 (N5 y)).2)=sg b1 x+sg b2 y:=by
 unfold IC
 by_cases h:b1=b2
 . rw[B9 h]
   subst h
   obtain⟨h1,h2⟩:=Lw (N7 x) (N7 y)
   refine⟨h1,?_⟩
   rw[h2,N1,N1]
   cases b1<;>simp[sg]<;>omega
 . rw[B5 h]
   have hc:=(Ir x y).1
   by_cases hlt:Fr (N5 x) (N5 y)<0
   . rw[B9 hlt]
     have hxy:=hc.1 hlt
     obtain⟨h1,h2⟩:=NK (Nat.le_of_lt hxy)
     refine⟨h1,?_⟩
     show sg b2 (K6 _)=_
     rw[h2]
     cases b1<;>cases b2<;>simp[sg]at h ⊢ <;> omega
   . rw[B5 hlt]
     have hxy:y<=x:=by
      rcases D5 x y with h3|h3
      . exact G5 (hc.2 h3) hlt
      . exact h3
     obtain⟨h1,h2⟩:=NK hxy
     refine⟨h1,?_⟩
     show sg b1 (K6 _)=_
     rw[h2]
     cases b1<;>cases b2<;>simp[sg]at h ⊢ <;> omega
theorem Sy (b1 b2:Bool) {l1 l2:List Nat} (h1:gok l1) (h2:gok l2):(IC b1 l1 b2 l2).2.length<=l1.length+l2.length+1:=by
 unfold IC
 split
 . have:=(Aa h1 h2 (max l1.length l2.length)).1
   unfold BS
   show List.length (_++_)<=_
   rw[C9,this]
   split<;>simp<;>omega
 . split
   . have:=Hi (R6 l2 l1 l2.length).1
     have h3:=(AX h2 h1 l2.length).1
     show List.length (S7 _)<=_
     omega
   . have:=Hi (R6 l1 l2 l1.length).1
     have h3:=(AX h1 h2 l1.length).1
     show List.length (S7 _)<=_
     omega
theorem wNAdd (b1 b2:Bool) (x y:Nat) (h1:(N5 x).length<=1000000) (h2:(N5 y).length<=1000000):PCalls Tryz.prog 144 [.agg (dNm b1 (N5 x)),.agg (dNm b2 (N5 y))] (.d (.agg (dNum (IC b1 (N5 x) b2 (N5 y)).1 (IC b1 (N5 x) b2 (N5 y)).2))):=by
 have c1:=mg2 (wPlus (N5 x) (N5 y) (N7 x) (N7 y) h1 h2)
 have c2:=mg2 (KI (N5 x) (N5 y) h1 h2)
 have hc:=(Ir x y).1
 have c3:¬ Fr (N5 x) (N5 y)<0->PCalls Tryz.prog 198 [Ph (N5 x),Ph (N5 y)] _:=fun h=>QQ (N5 x) (N5 y) (N7 x) (N7 y) (Z6 (by
  rcases D5 x y with h3|h3
  . exact G5 (hc.2 h3) h
  . exact h3)) h1
 have c4:Fr (N5 x) (N5 y)<0->PCalls Tryz.prog 198 [Ph (N5 y),Ph (N5 x)] _:=fun h=>QQ (N5 y) (N5 x) (N7 y) (N7 x) (Z6 (Nat.le_of_lt (hc.1 h))) h2
 unfold IC
 obtain⟨z1,hz1⟩:=H8 (BS (N5 x) (N5 y))
 obtain⟨z2,hz2⟩:=H8 (S7 (R6 (N5 y) (N5 x) (N5 y).length).1)
 obtain⟨z3,hz3⟩:=H8 (S7 (R6 (N5 x) (N5 y) (N5 x).length).1)
 rw[<-hz1]at c1
 rw[<-hz2]at c4
 rw[<-hz3]at c3
 rw[<-hz1,<-hz2,<-hz3]
 obtain⟨k,hk⟩:=H8 (Fr (N5 x) (N5 y))
 rw[<-hk]at c2 c3 c4 ⊢
 obtain⟨dx,hdx⟩:=H8 (Ph (N5 x))
 obtain⟨dy,hdy⟩:=H8 (Ph (N5 y))
 rw[<-hdx,<-hdy]at c1 c2 c3 c4
 rw[dNm,dNm,<-hdx,<-hdy]
 clear hz1 hz2 hz3 hk hdx hdy hc
 cases b1<;>cases b2
 . rw[B9 rfl]
   refine L5 Tryz.func144 C Tryz.ntmps144 Tryz.results144 fun B w0=>?_
   refine D7 (yK (cs:=[_,_]) C C (yK (cs:=[_,_]) C C (yZ (cs:=[_,_]) C C (yQ (B2 (D7 (X9 C (AL C C C (X9 C ?_)))))))));refine AL C C C (yBb (c:=true) Tryz.underlying4 C C C (yQ (G2 C (B2 ?_))));refine R8 (id:=2) Tryz.mixed (by kernel_rfl) ?_;refine X9 C (AL C C C (X9 C (AL C C C (X9 C (AL C C C (yC (c1) C C (yG (ys:=[_,_]) C C (yS (cs':=[_,_]) C C C C C (yQ ?_)))))))));refine Px.Sep.mk (by kernel_rfl) ?_;refine C4 (A5 ?_)
   exact J5 _ (.agg D6 C C C C .nil) C
 . rw[B5 (by decide)]
   by_cases hk:k<0
   . rw[B9 hk]
     have c4:=c4 hk
     have u:decide (k<0)=true:=B0 hk
     refine L5 Tryz.func144 C Tryz.ntmps144 Tryz.results144 fun B w0=>?_
     refine D7 (yK (cs:=[_,_]) C C (yK (cs:=[_,_]) C C (yZ (cs:=[_,_]) C C (yQ (B2 (D7 (X9 C (AL C C C (X9 C ?_)))))))));refine AL C C C (yBb (c:=false) Tryz.underlying4 C C C (yQ (D8 C (B1 (B2 (D7 (X9 C (AL C C C (X9 C ?_)))))))));refine AL C C C (yC (c2) C C (yB C C C C (yQ (B3 ?_))));rw[u]
     refine G2 C (B4 (Ae (ys:=[_,_]) C C C C (Ae (ys:=[_,_]) C C C C (yS (cs':=[_,_]) C C C C C (yS (cs':=[_,_]) C C C C C (yQ (B2 ?_)))))));refine R8 (id:=5) Tryz.mixed (by kernel_rfl) ?_;refine X9 C (AL C C C (X9 C (AL C C C (X9 C (AL C C C (yC (c4) C C (yG (ys:=[_,_]) C C (yS (cs':=[_,_]) C C C C C (yQ ?_)))))))));refine Px.Sep.mk (by kernel_rfl) ?_;refine C4 ?_
     exact J5 _ (.agg D6 C C C C .nil) C
   . rw[B5 hk]
     have c3:=c3 hk
     have u:decide (k<0)=false:=A7 hk
     refine L5 Tryz.func144 C Tryz.ntmps144 Tryz.results144 fun B w0=>?_
     refine D7 (yK (cs:=[_,_]) C C (yK (cs:=[_,_]) C C (yZ (cs:=[_,_]) C C (yQ (B2 (D7 (X9 C (AL C C C (X9 C ?_)))))))));refine AL C C C (yBb (c:=false) Tryz.underlying4 C C C (yQ (D8 C (B1 (B2 (D7 (X9 C (AL C C C (X9 C ?_)))))))));refine AL C C C (yC (c2) C C (yB C C C C (yQ (B3 ?_))));rw[u]
     refine D8 C (B1 (B2 ?_));refine R8 (id:=5) Tryz.mixed (by kernel_rfl) ?_;refine X9 C (AL C C C (X9 C (AL C C C (X9 C (AL C C C (yC (c3) C C (yG (ys:=[_,_]) C C (yS (cs':=[_,_]) C C C C C (yQ ?_)))))))));refine Px.Sep.mk (by kernel_rfl) ?_;refine C4 ?_
     exact J5 _ (.agg D6 C C C C .nil) C
 . rw[B5 (by decide)]
   by_cases hk:k<0
   . rw[B9 hk]
     have c4:=c4 hk
     have u:decide (k<0)=true:=B0 hk
     refine L5 Tryz.func144 C Tryz.ntmps144 Tryz.results144 fun B w0=>?_
     refine D7 (yK (cs:=[_,_]) C C (yK (cs:=[_,_]) C C (yZ (cs:=[_,_]) C C (yQ (B2 (D7 (X9 C (AL C C C (X9 C ?_)))))))));refine AL C C C (yBb (c:=false) Tryz.underlying4 C C C (yQ (D8 C (B1 (B2 (D7 (X9 C (AL C C C (X9 C ?_)))))))));refine AL C C C (yC (c2) C C (yB C C C C (yQ (B3 ?_))));rw[u]
     refine G2 C (B4 (Ae (ys:=[_,_]) C C C C (Ae (ys:=[_,_]) C C C C (yS (cs':=[_,_]) C C C C C (yS (cs':=[_,_]) C C C C C (yQ (B2 ?_)))))));refine R8 (id:=5) Tryz.mixed (by kernel_rfl) ?_;refine X9 C (AL C C C (X9 C (AL C C C (X9 C (AL C C C (yC (c4) C C (yG (ys:=[_,_]) C C (yS (cs':=[_,_]) C C C C C (yQ ?_)))))))));refine Px.Sep.mk (by kernel_rfl) ?_;refine C4 ?_
     exact J5 _ (.agg D6 C C C C .nil) C
   . rw[B5 hk]
     have c3:=c3 hk
     have u:decide (k<0)=false:=A7 hk
     refine L5 Tryz.func144 C Tryz.ntmps144 Tryz.results144 fun B w0=>?_
     refine D7 (yK (cs:=[_,_]) C C (yK (cs:=[_,_]) C C (yZ (cs:=[_,_]) C C (yQ (B2 (D7 (X9 C (AL C C C (X9 C ?_)))))))));refine AL C C C (yBb (c:=false) Tryz.underlying4 C C C (yQ (D8 C (B1 (B2 (D7 (X9 C (AL C C C (X9 C ?_)))))))));refine AL C C C (yC (c2) C C (yB C C C C (yQ (B3 ?_))));rw[u]
     refine D8 C (B1 (B2 ?_));refine R8 (id:=5) Tryz.mixed (by kernel_rfl) ?_;refine X9 C (AL C C C (X9 C (AL C C C (X9 C (AL C C C (yC (c3) C C (yG (ys:=[_,_]) C C (yS (cs':=[_,_]) C C C C C (yQ ?_)))))))));refine Px.Sep.mk (by kernel_rfl) ?_;refine C4 ?_
     exact J5 _ (.agg D6 C C C C .nil) C
 . rw[B9 rfl]
   refine L5 Tryz.func144 C Tryz.ntmps144 Tryz.results144 fun B w0=>?_
   refine D7 (yK (cs:=[_,_]) C C (yK (cs:=[_,_]) C C (yZ (cs:=[_,_]) C C (yQ (B2 (D7 (X9 C (AL C C C (X9 C ?_)))))))));refine AL C C C (yBb (c:=true) Tryz.underlying4 C C C (yQ (G2 C (B2 ?_))));refine R8 (id:=2) Tryz.mixed (by kernel_rfl) ?_;refine X9 C (AL C C C (X9 C (AL C C C (X9 C (AL C C C (yC (c1) C C (yG (ys:=[_,_]) C C (yS (cs':=[_,_]) C C C C C (yQ ?_)))))))));refine Px.Sep.mk (by kernel_rfl) ?_;refine C4 (A5 ?_)
   exact J5 _ (.agg D6 C C C C .nil) C
theorem Ed (a:F6):val a=sg (L9 a).2 (natOf (L9 a).1):=by
 unfold val sg
 rfl
theorem GA (a:F6):DL (L9 a).1=N5 (natOf (L9 a).1):=rdG_grp (U8 a) (Bg a)
theorem QY (a b:F6) (ha:a.length<=100000) (hb:b.length<=100000):PCalls Tryz.prog 99 [dS a,dS b] (.d (dS (J3 (val a+val b)))):=by
 have c1:=QD a (by omega)
 have c2:=QD b (by omega)
 have h1:=D9 (AE (L9 a).1) (AA a)
 have h2:=D9 (AE (L9 b).1) (AA b)
 rw[GA]at c1 c2 h1 h2
 have c3:=wNAdd (L9 a).2 (L9 b).2 (natOf (L9 a).1) (natOf (L9 b).1) (by omega) (by omega)
 obtain⟨s1,s2⟩:=Pp (L9 a).2 (L9 b).2 (natOf (L9 a).1) (natOf (L9 b).1)
 have s3:=Sy (L9 a).2 (L9 b).2 (N7 (natOf (L9 a).1)) (N7 (natOf (L9 b).1))
 rw[<-Ed,<-Ed]at s2
 obtain⟨z,hz⟩:=H8 (IC (L9 a).2 (N5 (natOf (L9 a).1)) (L9 b).2 (N5 (natOf (L9 b).1)))
 rw[<-hz]at c3 s1 s2 s3
 have c4:=wText z.1 z.2 s1 (by omega)
 rw[s2]at c4
 obtain⟨r,hr⟩:=H8 (J3 (val a+val b))
 rw[<-hr]at c4 ⊢
 obtain⟨n1,hn1⟩:=H8 (dNm (L9 a).2 (N5 (natOf (L9 a).1)))
 obtain⟨n2,hn2⟩:=H8 (dNm (L9 b).2 (N5 (natOf (L9 b).1)))
 obtain⟨n3,hn3⟩:=H8 (dNum z.1 z.2)
 rw[<-hn1]at c1 c3
 rw[<-hn2]at c2 c3
 rw[<-hn3]at c3 c4
 clear hn1 hn2 hn3 hz s1 s2 s3
 refine L5 Tryz.func99 C Tryz.ntmps99 Tryz.results99 fun B w0=>?_
 refine D7 (H3 C (yQ (D7 (B6 C (yC (c1) C C (B6 C (yC (c2) C C (yC (c3) C C (yC (c4) C C ?_)))))))));refine H3 C (yQ (C4 ?_))
 exact M5 C C
open Go.RowKit Px
namespace Px
section
variable {P:Program} {sq:Bool} {ops:Array Oper} {K:PS->Prop} {rest:List Oper} {st:PS} {d:Option Nat} {ty:TypeId} {pos:String} {af:Array Edge} {gd:Option (Nat×Bool)}
theorem JK (t:Nat) (o1 o2:Operand) (a b:Bool) (hp:P.underlying t=some .bool) (w:World):(eqGuard .neq t o1 o2 (.bool a) (.bool b) >>= fun _=>binOp .neq t (.bool a) (.bool b)).run P w=.ok (.bool (a != b)) w:=by
 cases a<;>cases b<;>simp[eqGuard,binOp,go_sem,run_equal_bool w t _ _ hp]
theorem KA {t t':Nat} {x y:Operand} {a b c:Bool} (hp:P.underlying t=some .bool) (hc:(a != b)=c) (hx:st.ev x=.d (.val (.bool a))) (hy:st.ev y=.d (.val (.bool b))) (h:YR P sq ops K rest (st.put d (.d (.val (.bool c))))) (zz:zk ops st ⟨d,.binOp .neq t x y t',ty,pos,af,gd⟩ .no=true:=by kernel_rfl):
 YR P sq ops K (⟨d,.binOp .neq t x y t',ty,pos,af,gd⟩::rest) st:=by
 subst hc
 exact M3 (Ap .neq t t' x y hx hy (JK t x y a b hp) C (zd zz)) (zo zz) (zw zz) h
end
end Px
theorem sg_neg (b:Bool) (n:Nat):sg (!b) n=- sg b n:=by
 cases b<;>simp[sg]
theorem QP (a:F6) (ha:a.length<=100000):PCalls Tryz.prog 98 [dS a] (.d (dS (J3 (- val a)))):=by
 have c1:=NA a (by omega)
 have h1:=D9 (AE (L9 a).1) (AA a)
 rw[GA]at c1 h1
 have g1:=N7 (natOf (L9 a).1)
 have c4:=wText (!(L9 a).2) (N5 (natOf (L9 a).1)) g1 (by omega)
 rw[N1,sg_neg,<-Ed]at c4
 obtain⟨r,hr⟩:=H8 (J3 (- val a))
 rw[<-hr]at c4 ⊢
 obtain⟨l1,hl1⟩:=H8 (N5 (natOf (L9 a).1))
 obtain⟨p1,hp1⟩:=H8 ((L9 a).2)
 rw[<-hl1,<-hp1]at c1 c4
 clear hl1 hp1 g1 h1 hr
 refine L5 Tryz.func98 C Tryz.ntmps98 Tryz.results98 fun B w0=>?_
 refine D7 (H3 C (yQ (D7 (B6 C (yC (c1) C C (yZ (cs:=[_,_]) C C (yS (cs':=[_,_]) C C C C C (yQ (D7 ?_)))))))));refine X9 C (AL C C C (yU C C C (X9 C (X8 (cs':=[_,_]) C C C C (yQ (D7 (Ae (ys:=[_,_]) C C C C (yC (c4) C C (H3 C ?_)))))))));refine yQ (C4 ?_)
 exact M5 C C
def Gu (a:F6):F6:=if J3 (val a)=[]then [48]else J3 (val a)
theorem Ix (a:F6) (ha:a.length<=100000):PCalls Tryz.prog 134 [dS a] (.d (dS (Gu a))):=by
 have c1:=DZ a (by omega)
 unfold Gu
 obtain⟨r,hr⟩:=H8 (J3 (val a))
 rw[<-hr]at c1 ⊢
 refine L5 Tryz.func134 C Tryz.ntmps134 Tryz.results134 fun B w0=>?_
 by_cases h:r=[]
 . rw[B9 h]
   have t:(r==[])=true:=by simp[h]
   refine D7 (H3 C (yQ (B2 (D7 (B6 C (yC (c1) C C (H3 C (yQ (D7 ?_)))))))));refine B6 C (L8 C C (yQ (B3 ?_)));rw[t];refine D8 C (B1 (D7 (H3 C (yQ (C4 ?_)))))
   exact M5 C C
 . rw[B5 h]
   have t:(r==[])=false:=by simp[h]
   refine D7 (H3 C (yQ (B2 (D7 (B6 C (yC (c1) C C (H3 C (yQ (D7 ?_)))))))));refine B6 C (L8 C C (yQ (B3 ?_)));rw[t];refine G2 C (D7 (B6 C (H3 C (yQ (C4 (A5 ?_))))))
   exact M5 C C
open Go.RowKit Px Go.Maps Go.Sort Go.Shelf
variable {i:Nat}
abbrev dCf (c:Cf):List DV:=[dS c.1,dS c.2]
instance:MapOf Tryz.prog 155 (dS []):=⟨⟨9,72,by kernel_rfl,by kernel_rfl,fun w=>⟨.string ⟨#[]⟩,by kernel_rfl,fun F w'=>DRep.val _ rfl⟩⟩⟩
def Bx (s:F6):Bool:=I4 s&&(match s with | []=>false|b::_=>decide (97<=b.toNat)&&decide (b.toNat<=122))
theorem Iz (s:F6):PCalls Tryz.prog 179 [dS s] (.d (dB (Bx s))):=by
 have c1:=KE s
 cases h:I4 s with
 | false=>
  rw[h]at c1
  have e:Bx s=false:=by simp[Bx,h]
  rw[e]
  refine L5 Tryz.func179 C Tryz.ntmps179 Tryz.results179 fun B w0=>?_
  refine D7 (H3 C (yQ (D7 (B6 C (yC (c1) C C (B6 C (yO C (yO C (yO C ?_)))))))));refine K9 C C (B6 C (yO C (yO C (yO C (K9 C C (H3 C (yQ (C4 ?_))))))))
  exact M5 C C
 | true=>
  rw[h]at c1
  obtain⟨x,l,rfl⟩:∃ x l,s=x::l:=by
   cases s with
   | nil=>simp[I4]at h
   | cons x l=>exact⟨x,l,C⟩
  have hx:(x::l:F6)[(0:Int).toNat]? = some x:=rfl
  by_cases h1:97<=x.toNat
  . have t1:decide ((x.toNat:Int) ≥ 97)=true:=B0 (by omega)
    have e:Bx (x::l)=decide (x.toNat<=122):=by simp[Bx,h,h1]
    rw[e]
    refine L5 Tryz.func179 C Tryz.ntmps179 Tryz.results179 fun B w0=>?_
    refine D7 (H3 C (yQ (D7 (B6 C (yC (c1) C C (B6 C (B6 C (U9 hx (by omega) C C (yB C C C C ?_)))))))));refine L0 C C (B6 C ?_);rw[t1];refine B6 C (U9 hx (by omega) C C (yB C C C C (L0 C C (H3 C (yQ (C4 ?_))))))
    exact J5 _ (.tmp C .nil) (G4 (fun b=>SV.d (dB b)) (decide_eq_decide.2 (by omega)))
  . have t1:decide ((x.toNat:Int) ≥ 97)=false:=A7 (by omega)
    have e:Bx (x::l)=false:=by simp[Bx,h,h1]
    rw[e]
    refine L5 Tryz.func179 C Tryz.ntmps179 Tryz.results179 fun B w0=>?_
    refine D7 (H3 C (yQ (D7 (B6 C (yC (c1) C C (B6 C (B6 C (U9 hx (by omega) C C (yB C C C C ?_)))))))));refine L0 C C (B6 C ?_);rw[t1];refine yO C (yO C (yO C (K9 C C (H3 C (yQ (C4 ?_))))))
    exact M5 C C
def cE (c:Cf):Int:=if Bx c.1 then (if Cu c.2 then 0 else 1)else 23
def chL:List Cf->Int
 | []=>0
 | c::e=>if cE c=0 then chL e else cE c
def X0 (e:List Cf):Int:=if 16<e.length then 4 else chL e
theorem Sl {e:List Cf} {c:Cf} (hx:e[i]? = some c) (h:∀ d∈e.take i,cE d=0) (hc:cE c≠0):chL e=cE c:=by
 induction e generalizing i with
 | nil=>simp at hx
 | cons d e ih=>
  cases i with
  | zero=>cases hx;rw[chL,B5 hc]
  | succ i=>
   rw[chL,B9 (h d (by simp))]
   exact ih hx fun q hq=>h q (by rw[List.take_succ_cons];exact List.mem_cons_of_mem _ hq)
theorem Ml {e:List Cf} (h:∀ d∈e,cE d=0):chL e=0:=by
 induction e with
 | nil=>rfl
 | cons d e ih=>rw[chL,B9 (h d (by simp))];exact ih fun q hq=>h q (List.mem_cons_of_mem _ hq)
theorem Sk {e:List Cf} (h:chL e=0):∀ d∈e,cE d=0:=by
 induction e with
 | nil=>intro d hd;cases hd
 | cons d e ih=>
  rw[chL]at h
  split at h
  . rename_i h0
    intro q hq
    rcases List.mem_cons.1 hq with rfl|hq
    . exact h0
    . exact ih h q hq
  . rename_i h0;exact G5 h h0
theorem KN {p:Cf->Prop} {e:List Cf} {c:Cf} (hx:e[i]? = some c) (h:∀ d∈e.take i,p d) (hc:p c):∀ d∈e.take (i+1),p d:=by
 intro d hd
 rw[H4,hx]at hd
 rcases List.mem_append.1 hd with hd|hd
 . exact h d hd
 . have:d=c:=by simpa using hd
   rw[this];exact hc
theorem wCheckE (e:List Cf) (hl:e.length<=1000000) (hf:∀ c∈e,c.2.length<=1000000):PCalls Tryz.prog 138 [.sl 2 (e.map dCf)] (.d (dI (X0 e))):=by
 obtain⟨r,hr⟩:=H8 (X0 e)
 rw[<-hr]
 rw[X0]at hr
 have e16:((16:Nat):Int)=16:=rfl
 by_cases h16:16<e.length
 . have t0:decide (((e.map dCf).length:Int) > 16)=true:=B0 (by rw[A8];omega)
   rw[B9 h16]at hr
   subst hr
   refine L5 Tryz.func138 C Tryz.ntmps138 Tryz.results138 fun B w0=>?_
   refine D7 (H3 C (yQ (B2 (D7 (B6 C (yN C (yB C C C C (yQ (B3 ?_)))))))))
   rw[t0];refine G2 C ?_;refine B2 ?_;refine B4 ?_;refine H3 C ?_;refine yQ ?_;refine C4 ?_;refine A5 ?_
   exact M5 C C
 rw[B5 h16]at hr
 have t0:decide (((e.map dCf).length:Int) > 16)=false:=A7 (by rw[A8];omega)
 refine L5 Tryz.func138 C Tryz.ntmps138 Tryz.results138 fun B w0=>?_
 refine D7 (H3 C (yQ (B2 (D7 (B6 C (yN C (yB C C C C (yQ (B3 ?_)))))))))
 rw[t0];refine D8 C ?_;refine B1 ?_;refine B2 ?_;refine B2 ?_;refine B4 ?_;refine B6 C ?_;refine yN C ?_;refine B6 C ?_;refine yQ ?_;refine B7 ?_
 refine H9 (fun i:Nat=>⟨25,[(8,.d (.sl 2 (e.map dCf))),(9,.d (dI e.length)),(10,.d (dI i))],[],[]⟩) (fun i=>i<=e.length ∧ ∀ d∈e.take i,cE d=0) (fun i=>e.length-i) 0 ⟨E7 _,fun d hd=>by simp at hd⟩
  ⟨rfl,⟨E6,FN (by simp),E6,D3⟩,D3,D3,rfl⟩ ?_
 rintro i ⟨hi,hok⟩
 rcases D5 i e.length with h|h
 rotate_left
 . have t1:decide ((i:Int)<(e.length:Int))=false:=A7 (by omega)
   obtain rfl:i=e.length:=by omega
   rw[I2]at hok
   rw[Ml hok]at hr
   subst hr
   refine D7 (yB C C C C (yQ (B2 ?_)));rw[t1];refine D8 C (F9 (D7 (H3 C (yQ (C4 ?_)))))
   exact M5 C C
 have t1:decide ((i:Int)<(e.length:Int))=true:=B0 (by omega)
 obtain⟨⟨c0,c1⟩,hc⟩:∃ a,e[i]? = some a:=⟨_,A4 h⟩
 have em:=ix dCf e i i (c0,c1) rfl hc
 have hw:=I8 ((i:Int)+1) (by omega)
 have hq:=hf _ (B8 hc)
 simp only at hq
 have k1:=Iz c0
 have k2:=wCheck c1 (by omega)
 have hat:=Sl hc hok
 have hnx:=KN (p:=fun d=>cE d=0) hc hok
 simp only[cE]at hat hnx
 cases hn:Bx c0 with
 | false=>
  rw[hn]at k1 hat
  rw[hat (by simp)]at hr
  have hr:r=23:=by simpa using hr
  subst hr
  refine D7 (yB C C C C (yQ (B2 ?_)));rw[t1];refine G2 C (B1 (B2 (B7 (D7 (yW em (by omega) C C (T3 (ys:=[_,_]) C C C (yZ (cs:=[_,_]) C C (yS (cs':=[_,_]) C C C C C (yQ ?_)))))))));refine B7 (D7 (X9 C (AL C C C (yC (k1) C C (yU C C C (H3 C (yQ (G2 C (D7 ?_)))))))));refine H3 C (yQ (C4 (C3 (C3 (A5 (A5 (C3 (A5 ?_))))))))
  exact M5 C C
 | true=>
  rw[hn]at k1 hat hnx
  cases hs:Cu c1 with
  | false=>
   rw[hs]at k2 hat
   rw[hat (by simp)]at hr
   have hr:r=1:=by simpa using hr
   subst hr
   refine D7 (yB C C C C (yQ (B2 ?_)));rw[t1];refine G2 C (B1 (B2 (B7 (D7 (yW em (by omega) C C (T3 (ys:=[_,_]) C C C (yZ (cs:=[_,_]) C C (yS (cs':=[_,_]) C C C C C (yQ ?_)))))))));refine B7 (D7 (X9 C (AL C C C (yC (k1) C C (yU C C C (H3 C (yQ (D8 C (D7 ?_)))))))));refine X9 C (AL C C C (yC (k2) C C (yB C C C C (H3 C (yQ (G2 C (D7 (H3 C (yQ ?_)))))))));refine C4 (C3 (C3 (A5 (A5 (C3 (A5 ?_))))))
   exact M5 C C
  | true=>
   rw[hs]at k2 hnx
   refine D7 (yB C C C C (yQ (B2 ?_)));rw[t1];refine G2 C (B1 (B2 (B7 (D7 (yW em (by omega) C C (T3 (ys:=[_,_]) C C C (yZ (cs:=[_,_]) C C (yS (cs':=[_,_]) C C C C C (yQ ?_)))))))));refine B7 (D7 (X9 C (AL C C C (yC (k1) C C (yU C C C (H3 C (yQ (D8 C (D7 ?_)))))))));refine X9 C (AL C C C (yC (k2) C C (yB C C C C (H3 C (yQ (D8 C (B1 (B4 (yB C C C C ?_)))))))));refine B6 C (yQ (B3 ?_))
   exact⟨i+1,⟨by omega,hnx (by simp)⟩,by omega,rfl,⟨E6,E6,P2 hw,D3⟩,D3,D3,rfl⟩
theorem keysC:KeysC Tryz.prog 180 223 155:=fun mb W=>callsIn_wide.1 (AnyZ.keys_in Tryz.keys Fence.wide 5 trivial rfl mb W)
theorem sortsIn (m:Nat):AnyZ.SortsIn Tryz.prog Tryz.sorted_ren Fence.wide m:=
 ⟨fun blk off cap ss W hH hblk hsz=>callsIn_wide.2 (AnyM.slices_Sort_string Tryz.sortStr blk off cap ss W hH hblk hsz),
  fun p cap W=>callsIn_wide.2 (AnyM.slices_Sort_string_none Tryz.sortStr p cap W)⟩
theorem sortedC:OO Tryz.prog 35 223 9:=fun a b nn D0 R W ha hc hown hmax hbytes=>by
 have hseq:SeqGives Fence.wide 2 Tryz.prog 223 #[.pointer (some ⟨a,0,none⟩)] encStr (fun ss=>ss.Perm (strKeys D0)) (Maps.size D0) W:=
  AnyZ.keys_gives (ρ:=Tryz.keys_ren) { Tryz.keys with } Fence.wide _ trivial rfl (by omega) a b nn D0 W ha hc hown
 have cS:=AnyZ.sorted_in Tryz.sorted Fence.wide 5 trivial trivial trivial trivial rfl (by omega) (sortsIn _) (enters_of Tryz.func72 (by kernel_rfl) rfl) 223 #[.pointer (some ⟨a,0,none⟩)] trivial (enters_of Tryz.func223 (by kernel_rfl) rfl) _ _ hmax hbytes W hseq
 exact callsIn_wide.1 cS
theorem GY {e:List Cf} {B:Nat} (h:∀ c∈e,c.2.length<=B) (i:Nat) (k:F6):(O8 k (O3 e i)).length<=B+2*i:=by
 induction i generalizing k with
 | zero=>simp[O3,O8]
 | succ i ih=>
  rw[O3]
  split
  . have:=ih k;omega
  . rename_i c hc
    refine Hz ?_ (fun j=>by have:=ih j;omega) k
    have:=LY (k:=B+2*i) (ih c.1) (b:=c.2) (by have:=h c (B8 hc);omega)
    omega
theorem skeys_D (M:List (F6×F6)):CH (Y9 M)=HA (M.map (·.1)):=by
 unfold CH Y9
 rw[List.map_map]
 rfl
abbrev nfT:Nat:=113*100000+6
def nfI (ks:List F6) (M:List (F6×F6)) (j:Nat):List Cf:=(ks.take j).filterMap (keep M)
theorem Rf {ks:List F6} {j:Nat} {k:F6} (M:List (F6×F6)) (h:ks[j]? = some k):nfI ks M (j+1)=if O8 k M=[]then nfI ks M j else nfI ks M j++[(k,O8 k M)]:=by
 rw[nfI,H4,h,Option.toList,List.filterMap_append]
 simp only[List.filterMap_cons,List.filterMap_nil,keep]
 split
 . rename_i h0
   split at h0
   . rename_i h1;rw[B9 h1,List.append_nil];rfl
   . cases h0
 . rename_i p h0
   split at h0
   . cases h0
   . rename_i h1;cases h0;rw[B5 h1];rfl
theorem nfI_len (ks:List F6) (M:List (F6×F6)) (j:Nat):(nfI ks M j).length<=ks.length:=by
 refine D9 (List.length_filterMap_le _ _) ?_
 rw[F4];omega
theorem KD (e:List Cf) (hl:e.length<=1000) (hn:∀ c∈e,c.1.length<=1000) (hf:∀ c∈e,c.2.length<=70000):PCalls Tryz.prog 128 [.sl 2 (e.map dCf)] (.d (.sl 2 ((nf e).map dCf))):=by
 obtain⟨r,hr⟩:=H8 (nf e)
 rw[<-hr]
 have hml:=fun i k=>GY hf i k
 refine L5 Tryz.func128 C Tryz.ntmps128 Tryz.results128 fun B w0=>?_
 refine D7 (H3 C (yQ (D7 (yKm C (yAm C (yQ (B2 (D7 (B6 C ?_)))))))));refine yN C (B6 C (yQ (B7 ?_)));refine H9 (fun i:Nat=>⟨49,[(3,.mb 500010),(11,.d (.sl 2 (e.map dCf))),(12,.d (dI e.length)),(13,.d (dI i))],[(500010,[.mc (Q0 (Y9 (O3 e i)))])],[]⟩) (fun i=>i<=e.length) (fun i=>e.length-i) 0 (E7 _)
  ⟨rfl,⟨E6,E6,FN (by simp),E6,D3⟩,⟨⟨_,rfl,K8 rfl⟩,D3⟩,D3,rfl⟩ ?_
 intro i hi
 rcases D5 i e.length with h|h
 . have t1:decide ((i:Int)<(e.length:Int))=true:=B0 (by omega)
   obtain⟨⟨c0,c1⟩,hc⟩:∃ a,e[i]? = some a:=⟨_,A4 h⟩
   have em:=ix dCf e i i (c0,c1) rfl hc
   have hw:=I8 ((i:Int)+1) (by omega)
   have hq:=hf _ (B8 hc)
   simp only at hq
   have hln:=hml i c0
   have hnx:O3 e (i+1)=Ai c0 (Cl (O8 c0 (O3 e i)) c1) (O3 e i):=by rw[O3,hc]
   obtain⟨M,hM⟩:=H8 (O3 e i)
   rw[<-hM]at hnx hln ⊢
   have hg:=Ja c0 M
   have k1:=QY (O8 c0 M) c1 (by omega) (by omega)
   have hs:Ao c0 (dS (J3 (val (O8 c0 M)+val c1))) (Y9 M)=Y9 (Ai c0 (Cl (O8 c0 M) c1) M):=MM c0 (Cl (O8 c0 M) c1) M
   obtain⟨v,hv⟩:=H8 (O8 c0 M)
   rw[<-hv]at hg k1 hs hnx
   obtain⟨M2,hM2⟩:=H8 (Ai c0 (Cl v c1) M)
   rw[<-hM2]at hs hnx
   obtain⟨a,ha⟩:=H8 (J3 (val v+val c1))
   rw[<-ha]at k1 hs
   clear ha hM2 hv
   refine D7 (yB C C C C (yQ (B2 ?_)));rw[t1];refine G2 C (B1 (B2 (B7 (D7 (yW em (by omega) C C (T3 (ys:=[_,_]) C C C (yZ (cs:=[_,_]) C C (yS (cs':=[_,_]) C C C C C (yQ ?_)))))))));refine J2 Tryz.mixed (by kernel_rfl) ?_;refine yMm C (X9 C (AL C C C (yMm C (X9 C (AL C C C (yKl (z:=dS []) C C C hg (X9 C (AL C C C (yC (k1) C C ?_)))))))));refine yKu (z:=dS []) C C C C hs (yQ (B4 (yB C C C C (B6 C (yQ (B3 ?_))))))
   exact⟨i+1,by omega,by omega,rfl,⟨E6,E6,E6,P2 hw,D3⟩,⟨⟨_,rfl,K8 (by rw[hnx])⟩,D3⟩,D3,rfl⟩
 have t1:decide ((i:Int)<(e.length:Int))=false:=A7 (by omega)
 obtain rfl:i=e.length:=by omega
 rw[nf]at hr
 have hMl:=Kt e e.length
 have hMk:∀ p∈Y9 (O3 e e.length),p.1.length<=1000000:=fun p hp=>by
  obtain⟨q,hq,rfl⟩:=H2.1 hp
  obtain⟨c,hc,h1⟩:=SI e e.length q.1 (List.mem_map_of_mem hq)
  have:=hn c hc
  show q.1.length<=1000000
  rw[<-h1];omega
 have hks:=skeys_D (O3 e e.length)
 obtain⟨ks,hk⟩:=H8 (HA ((O3 e e.length).map (·.1)))
 have hkl:ks.length=(O3 e e.length).length:=by rw[hk,List.length_mergeSort,A8]
 rw[<-hk]at hks hr
 clear hml
 obtain⟨M,hM⟩:=H8 (O3 e e.length)
 rw[<-hM]at hMl hMk hks hkl hr ⊢
 clear hM hk
 have hDl:(Y9 M).length<=1000000:=by rw[Y9,A8];omega
 refine D7 (yB C C C C (yQ (B2 ?_)));rw[t1];refine D8 C (F9 (D7 (H3 C (yQ ?_))));refine JP 6 nfT 2 C C C ?_;refine B2 (D7 (yMm C (yKk keysC C C ?_)));refine yKs sortedC (by kernel_rfl) C C C hDl hMk hks ?_;refine yN C (B6 C (yQ (B7 ?_)));refine H9 (fun j:Nat=>⟨49,[(3,.mb 500010),(6,.ts nfT 2 ((nfI ks M j).map dCf)),(30,.d (.sl 1 (ks.map dC))),(31,.d (dI ks.length)),(32,.d (dI j))],[(500010,[.mc (Q0 (Y9 M))])],[(nfT,((nfI ks M j).map dCf).length)]⟩) (fun j=>j<=ks.length) (fun j=>ks.length-j) 0 (E7 _)
  ⟨rfl,⟨E6,E6,E6,FN (by simp),E6,D3⟩,⟨⟨_,rfl,K8 rfl⟩,D3⟩,⟨rfl,D3⟩,rfl⟩ ?_
 intro j hj
 rcases D5 j ks.length with h2|h2
 . have t2:decide ((j:Int)<(ks.length:Int))=true:=B0 (by omega)
   obtain⟨k,hk⟩:=DJ h2
   have ek:=ix dC ks j j k rfl hk
   have hw:=I8 ((j:Int)+1) (by omega)
   have hnx:=Rf M hk
   have hg:=Ja k M
   have hzl:=nfI_len ks M j
   obtain⟨zs,hz⟩:=H8 (nfI ks M j)
   obtain⟨v,hv⟩:=H8 (O8 k M)
   rw[<-hz,<-hv]at hnx
   rw[<-hz]at hzl ⊢
   rw[<-hv]at hg
   clear hv hz
   by_cases he:v=[]
   . have t3:(v==[])=true:=by simp[he]
     rw[B9 he]at hnx
     refine D7 (yB C C C C (yQ (B2 ?_)));rw[t2];refine G2 C (B1 (B2 (B7 (D7 (yW ek (by omega) C C (K5 C C (H3 C (yQ (D7 ?_)))))))));refine yMm C (B6 C (yKl (z:=dS []) C C C hg (H3 C (yQ (D7 (B6 C (L8 C C (yQ (B3 ?_)))))))));rw[t3];refine D8 C (B1 (B4 (yB C C C C (B6 C (yQ (B3 ?_))))))
     exact⟨j+1,by omega,by omega,rfl,⟨E6,.of_eq (by rw[hnx];rfl),E6,E6,P2 hw,D3⟩,⟨⟨_,rfl,K8 rfl⟩,D3⟩,⟨(by rw[hnx];rfl),D3⟩,rfl⟩
   . have t3:(v==[])=false:=by simp[he]
     rw[B5 he]at hnx
     refine D7 (yB C C C C (yQ (B2 ?_)));rw[t2];refine G2 C (B1 (B2 (B7 (D7 (yW ek (by omega) C C (K5 C C (H3 C (yQ (D7 ?_)))))))));refine yMm C (B6 C (yKl (z:=dS []) C C C hg (H3 C (yQ (D7 (B6 C (L8 C C (yQ (B3 ?_)))))))));rw[t3];refine G2 C (B4 (CM C (B6 C (B6 C (yG (ys:=[_,_]) C C ?_)))));refine yR (es:=[[_,_]]) C C C C C ?_;refine yT (es':=(zs++[(k,v)]).map dCf) (m:=((zs++[(k,v)]).map dCf).length) (by simp;omega) (by simp;omega) C C C C C (by simp) (by simp) ?_;refine DX C (yQ (B4 (yB C C C C (B6 C (yQ (B3 ?_))))))
     exact⟨j+1,by omega,by omega,rfl,⟨E6,.of_eq (by rw[hnx];rfl),E6,E6,P2 hw,D3⟩,⟨⟨_,rfl,K8 rfl⟩,D3⟩,⟨(by rw[hnx];rfl),D3⟩,rfl⟩
 have t2:decide ((j:Int)<(ks.length:Int))=false:=A7 (by omega)
 obtain rfl:j=ks.length:=by omega
 have he:nfI ks M ks.length=r:=by rw[hr,nfI,I2]
 rw[he]
 refine D7 (yB C C C C (yQ (B2 ?_)));rw[t2];refine D8 C (F9 (D7 (CM C (DX C (yQ (C4 ?_))))))
 exact M5 C C
open Go.RowKit Px
abbrev W9 (l:Ln):List DV:=[dS l.1,dB l.2.1,.sl 2 (l.2.2.map dCf)]
abbrev X6 (r:Ru):List DV:=[dI r.1,.sl 3 (r.2.map W9)]
abbrev P3 (l:List Ru):DV:=.sl 2 (l.map X6)
theorem wIndexS (l:List F6) (s:F6) (hl:l.length<=1000000):PCalls Tryz.prog 101 [BF l,dS s] (.d (dI (Nm (fun y=>s==y) l))):=by
 refine L5 Tryz.func101 C Tryz.ntmps101 Tryz.results101 fun B w0=>?_
 refine D7 (H3 C (yQ (B2 (D7 (B6 C (yN C (B6 C (yQ (B7 ?_)))))))));refine H9 (fun k:Nat=>⟨19,[(0,.d (BF l)),(1,.d (dS s)),(7,.d (dI l.length)),(8,.d (dI k))],[],[]⟩) (fun k=>k<=l.length ∧ ∀ (j:Nat) x,j<k->l[j]? = some x->(s==x)=false) (fun k=>l.length-k) 0 ⟨E7 _,fun j x hj=>by omega⟩ ⟨rfl,⟨E6,E6,FN (by simp),E6,D3⟩,D3,D3,rfl⟩ ?_
 rintro k ⟨hk,h0⟩
 rcases D5 k l.length with h|h
 . have u1:decide ((k:Int)<(l.length:Int))=true:=B0 (by omega)
   obtain⟨x,hx⟩:=DJ h
   have ek:=ix (fun s=>[dS s]) l k k x rfl hx
   have hw1:=I8 ((k:Int)+1) (by omega)
   cases hb:(s==x) with
   | false=>
    have hnx:=BV (b:=fun y=>s==y) hx h0 hb
    refine D7 (yB C C C C (yQ (B2 ?_)));rw[u1];refine G2 C (B1 (B2 (B7 (D7 (B6 C (H3 C (yQ (D7 (B6 C ?_)))))))));refine B6 C (B6 C (yW ek (by omega) C C (K5 C C (N6 C C (yQ (B3 ?_))))));rw[hb];refine D8 C (B1 (B4 (yB C C C C (B6 C (yQ (B3 ?_))))))
    exact⟨k+1,⟨by omega,hnx⟩,by omega,rfl,⟨E6,E6,E6,P2 hw1,D3⟩,D3,D3,rfl⟩
   | true=>
    rw[Jg (b:=fun y=>s==y) hx h0 hb]
    refine D7 (yB C C C C (yQ (B2 ?_)));rw[u1];refine G2 C (B1 (B2 (B7 (D7 (B6 C (H3 C (yQ (D7 (B6 C ?_)))))))));refine B6 C (B6 C (yW ek (by omega) C C (K5 C C (N6 C C (yQ (B3 ?_))))));rw[hb];refine G2 C (D7 (B6 C (H3 C (yQ (C4 (C3 (A5 (A5 (C3 ?_)))))))));refine A5 ?_
    exact M5 C C
 . have u1:decide ((k:Int)<(l.length:Int))=false:=A7 (by omega)
   rw[Jf (b:=fun y=>s==y) h h0]
   refine D7 (yB C C C C (yQ (B2 ?_)));rw[u1];refine D8 C (F9 (D7 (H3 C (yQ (C4 ?_)))))
   exact M5 C C
theorem wContS (l:List F6) (s:F6) (hl:l.length<=1000000):PCalls Tryz.prog 50 [BF l,dS s] (.d (dB (l.contains s))):=by
 have c1:=wIndexS l s hl
 rw[<-Js,<-GM]
 obtain⟨n,hn⟩:=H8 (Nm (fun y=>s==y) l)
 rw[<-hn]at c1 ⊢
 refine L5 Tryz.func50 C Tryz.ntmps50 Tryz.results50 fun B w0=>?_
 refine D7 (H3 C (yQ (D7 (B6 C (B6 C (yC (c1) C C (yB C C C C (H3 C (yQ ?_)))))))));refine C4 ?_
 exact M5 C C
def phC (b:Cf->Bool) (xs:List DV) (r:SV):Prop:=∃ x:Cf,xs=[.agg (dCf x)]∧r=.d (dB (b x))
def phR (b:Ru->Bool) (xs:List DV) (r:SV):Prop:=∃ x:Ru,xs=[.agg (X6 x)]∧r=.d (dB (b x))
def RT (b:List Ru->Bool) (xs:List DV) (r:SV):Prop:=∃ x:List Ru,xs=[P3 x]∧r=.d (dB (b x))
theorem wIxC (b:Cf->Bool) (l:List (Cf)) (hl:l.length<=1000000):PCalls Tryz.prog 156 [.sl 2 (l.map dCf),dF Tryz.prog (phC b)] (.d (dI (Nm b l))):=by
 refine L5 Tryz.func156 C Tryz.ntmps156 Tryz.results156 fun B w0=>?_
 refine D7 (H3 C (yQ (B2 (D7 (B6 C (yN C (B6 C (yQ (B7 ?_)))))))));refine H9 (fun k:Nat=>⟨19,[(0,.d (.sl 2 (l.map dCf))),(1,.d (dF Tryz.prog (phC b))),(7,.d (dI l.length)),(8,.d (dI k))],[],[]⟩) (fun k=>k<=l.length ∧ ∀ (j:Nat) x,j<k->l[j]? = some x->b x=false) (fun k=>l.length-k) 0 ⟨E7 _,fun j x hj=>by omega⟩ ⟨rfl,⟨E6,E6,FN (by simp),E6,D3⟩,D3,D3,rfl⟩ ?_
 rintro k ⟨hk,h0⟩
 rcases D5 k l.length with h|h
 . have u1:decide ((k:Int)<(l.length:Int))=true:=B0 (by omega)
   obtain⟨x,hx⟩:=DJ h
   have ek:=ix (dCf) l k k x rfl hx
   have hw1:=I8 ((k:Int)+1) (by omega)
   have hph:phC b [.agg (dCf x)] (.d (dB (b x))):=⟨x,rfl,rfl⟩
   obtain⟨c,hb⟩:=H8 (b x)
   rw[<-hb]at hph
   obtain⟨x0,x1⟩:=x
   cases c with
   | false=>
    have hnx:=BV hx h0 hb.symm
    refine D7 (yB C C C C (yQ (B2 ?_)));rw[u1];refine G2 C (B1 (B2 (B7 (D7 (B6 C (H3 C (yQ (D7 (B6 C ?_)))))))));refine B6 C (B6 C (yW ek (by omega) C C (T3 (ys:=[_,_]) C C C (yCv hph C C C (yQ (D8 C (B1 (B4 (yB C C C C ?_)))))))));refine B6 C (yQ (B3 ?_))
    exact⟨k+1,⟨by omega,hnx⟩,by omega,rfl,⟨E6,E6,E6,P2 hw1,D3⟩,D3,D3,rfl⟩
   | true=>
    rw[Jg hx h0 hb.symm]
    refine D7 (yB C C C C (yQ (B2 ?_)));rw[u1];refine G2 C (B1 (B2 (B7 (D7 (B6 C (H3 C (yQ (D7 (B6 C ?_)))))))));refine B6 C (B6 C (yW ek (by omega) C C (T3 (ys:=[_,_]) C C C (yCv hph C C C (yQ (G2 C (D7 (B6 C (H3 C ?_)))))))));refine yQ (C4 (C3 (A5 (A5 (C3 (A5 ?_))))))
    exact M5 C C
 . have u1:decide ((k:Int)<(l.length:Int))=false:=A7 (by omega)
   rw[Jf h h0]
   refine D7 (yB C C C C (yQ (B2 ?_)));rw[u1];refine D8 C (F9 (D7 (H3 C (yQ (C4 ?_)))))
   exact M5 C C
theorem wHasC (b:Cf->Bool) (l:List (Cf)) (hl:l.length<=1000000):PCalls Tryz.prog 108 [.sl 2 (l.map dCf),dF Tryz.prog (phC b)] (.d (dB (l.any b))):=by
 have c1:=wIxC b l hl
 rw[<-GM]
 obtain⟨n,hn⟩:=H8 (Nm b l)
 rw[<-hn]at c1 ⊢
 refine L5 Tryz.func108 C Tryz.ntmps108 Tryz.results108 fun B w0=>?_
 refine D7 (H3 C (yQ (D7 (B6 C (B6 C (yC (c1) C C (yB C C C C (H3 C (yQ ?_)))))))));refine C4 ?_
 exact M5 C C
theorem wIxR (b:Ru->Bool) (l:List (Ru)) (hl:l.length<=1000000):PCalls Tryz.prog 130 [P3 l,dF Tryz.prog (phR b)] (.d (dI (Nm b l))):=by
 refine L5 Tryz.func130 C Tryz.ntmps130 Tryz.results130 fun B w0=>?_
 refine D7 (H3 C (yQ (B2 (D7 (B6 C (yN C (B6 C (yQ (B7 ?_)))))))));refine H9 (fun k:Nat=>⟨19,[(0,.d (P3 l)),(1,.d (dF Tryz.prog (phR b))),(7,.d (dI l.length)),(8,.d (dI k))],[],[]⟩) (fun k=>k<=l.length ∧ ∀ (j:Nat) x,j<k->l[j]? = some x->b x=false) (fun k=>l.length-k) 0 ⟨E7 _,fun j x hj=>by omega⟩ ⟨rfl,⟨E6,E6,FN (by simp),E6,D3⟩,D3,D3,rfl⟩ ?_
 rintro k ⟨hk,h0⟩
 rcases D5 k l.length with h|h
 . have u1:decide ((k:Int)<(l.length:Int))=true:=B0 (by omega)
   obtain⟨x,hx⟩:=DJ h
   have ek:=ix (X6) l k k x rfl hx
   have hw1:=I8 ((k:Int)+1) (by omega)
   have hph:phR b [.agg (X6 x)] (.d (dB (b x))):=⟨x,rfl,rfl⟩
   obtain⟨c,hb⟩:=H8 (b x)
   rw[<-hb]at hph
   obtain⟨x0,x1⟩:=x
   cases c with
   | false=>
    have hnx:=BV hx h0 hb.symm
    refine D7 (yB C C C C (yQ (B2 ?_)));rw[u1];refine G2 C (B1 (B2 (B7 (D7 (B6 C (H3 C (yQ (D7 (B6 C ?_)))))))));refine B6 C (B6 C (yW ek (by omega) C C (T3 (ys:=[_,_]) C C C (yCv hph C C C (yQ (D8 C (B1 (B4 (yB C C C C ?_)))))))));refine B6 C (yQ (B3 ?_))
    exact⟨k+1,⟨by omega,hnx⟩,by omega,rfl,⟨E6,E6,E6,P2 hw1,D3⟩,D3,D3,rfl⟩
   | true=>
    rw[Jg hx h0 hb.symm]
    refine D7 (yB C C C C (yQ (B2 ?_)));rw[u1];refine G2 C (B1 (B2 (B7 (D7 (B6 C (H3 C (yQ (D7 (B6 C ?_)))))))));refine B6 C (B6 C (yW ek (by omega) C C (T3 (ys:=[_,_]) C C C (yCv hph C C C (yQ (G2 C (D7 (B6 C (H3 C ?_)))))))));refine yQ (C4 (C3 (A5 (A5 (C3 (A5 ?_))))))
    exact M5 C C
 . have u1:decide ((k:Int)<(l.length:Int))=false:=A7 (by omega)
   rw[Jf h h0]
   refine D7 (yB C C C C (yQ (B2 ?_)));rw[u1];refine D8 C (F9 (D7 (H3 C (yQ (C4 ?_)))))
   exact M5 C C
theorem wHasR (b:Ru->Bool) (l:List (Ru)) (hl:l.length<=1000000):PCalls Tryz.prog 83 [P3 l,dF Tryz.prog (phR b)] (.d (dB (l.any b))):=by
 have c1:=wIxR b l hl
 rw[<-GM]
 obtain⟨n,hn⟩:=H8 (Nm b l)
 rw[<-hn]at c1 ⊢
 refine L5 Tryz.func83 C Tryz.ntmps83 Tryz.results83 fun B w0=>?_
 refine D7 (H3 C (yQ (D7 (B6 C (B6 C (yC (c1) C C (yB C C C C (H3 C (yQ ?_)))))))));refine C4 ?_
 exact M5 C C
theorem wIxRs (b:List Ru->Bool) (l:List (List Ru)) (hl:l.length<=1000000):PCalls Tryz.prog 105 [.sl 1 (l.map fun x=>[P3 x]),dF Tryz.prog (RT b)] (.d (dI (Nm b l))):=by
 refine L5 Tryz.func105 C Tryz.ntmps105 Tryz.results105 fun B w0=>?_
 refine D7 (H3 C (yQ (B2 (D7 (B6 C (yN C (B6 C (yQ (B7 ?_)))))))));refine H9 (fun k:Nat=>⟨19,[(0,.d (.sl 1 (l.map fun x=>[P3 x]))),(1,.d (dF Tryz.prog (RT b))),(7,.d (dI l.length)),(8,.d (dI k))],[],[]⟩) (fun k=>k<=l.length ∧ ∀ (j:Nat) x,j<k->l[j]? = some x->b x=false) (fun k=>l.length-k) 0 ⟨E7 _,fun j x hj=>by omega⟩ ⟨rfl,⟨E6,E6,FN (by simp),E6,D3⟩,D3,D3,rfl⟩ ?_
 rintro k ⟨hk,h0⟩
 rcases D5 k l.length with h|h
 . have u1:decide ((k:Int)<(l.length:Int))=true:=B0 (by omega)
   obtain⟨x,hx⟩:=DJ h
   have ek:=ix (fun x=>[P3 x]) l k k x rfl hx
   have hw1:=I8 ((k:Int)+1) (by omega)
   have hph:RT b [P3 x] (.d (dB (b x))):=⟨x,rfl,rfl⟩
   obtain⟨c,hb⟩:=H8 (b x)
   rw[<-hb]at hph
   cases c with
   | false=>
    have hnx:=BV hx h0 hb.symm
    refine D7 (yB C C C C (yQ (B2 ?_)));rw[u1];refine G2 C (B1 (B2 (B7 (D7 (B6 C (H3 C (yQ (D7 (B6 C ?_)))))))));refine B6 C (B6 C (yW ek (by omega) C C (K5 C C (yCv hph C C C (yQ (D8 C (B1 (B4 (yB C C C C ?_)))))))));refine B6 C (yQ (B3 ?_))
    exact⟨k+1,⟨by omega,hnx⟩,by omega,rfl,⟨E6,E6,E6,P2 hw1,D3⟩,D3,D3,rfl⟩
   | true=>
    rw[Jg hx h0 hb.symm]
    refine D7 (yB C C C C (yQ (B2 ?_)));rw[u1];refine G2 C (B1 (B2 (B7 (D7 (B6 C (H3 C (yQ (D7 (B6 C ?_)))))))));refine B6 C (B6 C (yW ek (by omega) C C (K5 C C (yCv hph C C C (yQ (G2 C (D7 (B6 C (H3 C ?_)))))))));refine yQ (C4 (C3 (A5 (A5 (C3 (A5 ?_))))))
    exact M5 C C
 . have u1:decide ((k:Int)<(l.length:Int))=false:=A7 (by omega)
   rw[Jf h h0]
   refine D7 (yB C C C C (yQ (B2 ?_)));rw[u1];refine D8 C (F9 (D7 (H3 C (yQ (C4 ?_)))))
   exact M5 C C
theorem wHasRs (b:List Ru->Bool) (l:List (List Ru)) (hl:l.length<=1000000):PCalls Tryz.prog 54 [.sl 1 (l.map fun x=>[P3 x]),dF Tryz.prog (RT b)] (.d (dB (l.any b))):=by
 have c1:=wIxRs b l hl
 rw[<-GM]
 obtain⟨n,hn⟩:=H8 (Nm b l)
 rw[<-hn]at c1 ⊢
 refine L5 Tryz.func54 C Tryz.ntmps54 Tryz.results54 fun B w0=>?_
 refine D7 (H3 C (yQ (D7 (B6 C (B6 C (yC (c1) C C (yB C C C C (H3 C (yQ ?_)))))))));refine C4 ?_
 exact M5 C C
abbrev shE:Sh:=.sl (.pr .s (.pr .s .un))
abbrev shX:Sh:=.pr .s (.pr .b (.pr shE .un))
abbrev shr:Sh:=.pr (.i .i64) (.pr (.sl shX) .un)
abbrev shR:Sh:=.sl shr
def toLn (x:Dat shX):Ln:=(x.1,x.2.1,x.2.2.1.map fun h=>(h.1,h.2.1))
def toRu (x:Dat shr):Ru:=(x.1,x.2.1.map toLn)
theorem cs_ln (x:Dat shX):Dat.cs shX x=W9 (toLn x):=by
 obtain⟨a,c,e,u⟩:=x
 show [dS a,.val (.bool c),.sl 2 (e.map (Dat.cs (.pr .s (.pr .s .un))))]=[dS a,dB c,.sl 2 ((e.map fun h=>(h.1,h.2.1)).map dCf)]
 rw[List.map_map]
 rfl
theorem cs_ru (x:Dat shr):Dat.cs shr x=X6 (toRu x):=by
 obtain⟨n,ls,u⟩:=x
 show [.val (.int .i64 n),.sl 3 (ls.map (Dat.cs shX))]=[dI n,.sl 3 ((ls.map toLn).map W9)]
 rw[List.map_map,List.map_congr_left fun y _=>cs_ln y]
 rfl
theorem rus_dv (x:Dat shR):∃ l:List Ru,Dat.dv shR x=P3 l:=by
 refine⟨x.map toRu,?_⟩
 show DV.sl 2 (x.map (Dat.cs shr))=_
 rw[P3,List.map_map,List.map_congr_left fun y _=>cs_ru y]
 rfl
end Go.Proofs.YtddfimjiihggmaaGreatDoor