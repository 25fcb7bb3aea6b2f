/- Walk: the reference reads a text of rules. -/
import Derived.Test.YtddfimjiihggmaaGreatDoorB12
set_option maxHeartbeats 16000000
set_option maxRecDepth 20000
namespace Go.Proofs.YtddfimjiihggmaaGreatDoor.Px
section
variable {P:Program} {rl:Option Nat} {d0:Nat} {st:PS} {d:Option Nat} {ty:TypeId} {pos:String} {af:Array Edge}
theorem held_ix {T E k n c b b' off off' q:Nat} {us:List Value} {m:Int} {kd:IntKind} {x y:Operand} [hS:SliceOf P T E k] (ho:off'+m.toNat*k=q) (h0:0<=m) (hm:m<n) (hx:st.ev x=.d (.val (.slice (some ⟨b',off',none⟩) n c))) (hy:st.ev y=.d (.val (.int kd m))) (hd:I1 ⟨d,.indexAddr T x y,ty,pos,af,none⟩ st=true:=by kernel_rfl):Lb P rl d0 b off us ⟨d,.indexAddr T x y,ty,pos,af,none⟩ st (.d (.val (.pointer (some ⟨b',q,none⟩)))):=
 ⟨hd,rfl,fun _ a _ h=>⟨.pointer (some ⟨b',q,none⟩),DRep.val _ rfl,fun w' _=>by
  have h1:a.eval x=.slice (some ⟨b',off',none⟩) n c:=DRep.val_eq (by have:=h.2.eval x;rw[hx]at this;exact this)
  have h2:a.eval y=.int kd m:=DRep.val_eq (by have:=h.2.eval y;rw[hy]at this;exact this)
  subst ho
  have hn:0<=m∧m<(n:Int):=⟨h0,hm⟩
  simp only[execOp,Instr.indexAt,h1,h2,asIntOf,Sem.run_bind,Sem.run_pure,D4,hS.und,hn,and_self,if_true,hS.size,Addr.add_lit]⟩⟩
end
end Go.Proofs.YtddfimjiihggmaaGreatDoor.Px
namespace Go.Proofs.YtddfimjiihggmaaGreatDoor
open Go.RowKit Px
theorem SH:(kndL.all fun k=>decide (0<k.1))=true:=by decide
theorem PO {out:List Ru} {s w k:F6} (h:R7 32 s=[w,k]):HN (M0 I4) At out s=if w=Hu∧0<MT k then some (out++[(MT k,[])])else none:=by
 unfold HN MT
 rw[h]
 dsimp only
 cases hk:Df k with
 | none=>rw[B5 (fun h=>by simp at h)]
 | some n=>
  have hp:0<n.1:=by simpa using E5.1 SH n (Cr hk).1
  show(if w=Hu then some (out++[(n.1,[])])else none)=if w=Hu∧0<n.1 then some (out++[(n.1,[])])else none
  by_cases hw:w=Hu
  . rw[B9 hw,B9 ⟨hw,hp⟩]
  . rw[B5 hw,B5 fun h=>hw h.1]
theorem rdV_two {s w k:F6} (h:R7 32 s=[w,k]):NQ s=(([],false,[]),false):=by
 unfold NQ;rw[h]
theorem PP {out:List Ru} {s:F6} (h:(R7 32 s).length≠2):HN (M0 I4) At out s=if (NQ s).2=true∧out.isEmpty=false then some (Jt (NQ s).1 out)else none:=by
 have e:HN (M0 I4) At out s=match RE (M0 I4) At s with|some l=>if out.isEmpty then none else some (Jt l out)|none=>none:=by
  unfold HN
  obtain⟨L,hL⟩:=H8 (R7 32 s)
  rw[<-hL]at h ⊢
  match L,h with
  | [],_=>cases RE (M0 I4) At s<;>rfl
  | [_],_=>cases RE (M0 I4) At s<;>rfl
  | [_,_],h=>exact G5 C h
  | _::_::_::_,_=>cases RE (M0 I4) At s<;>rfl
 rw[e,rdV_eq]
 by_cases h1:(NQ s).2=true
 . rw[B9 h1]
   cases h2:out.isEmpty with
   | true=>rw[B5 (by simp)];rfl
   | false=>rw[B9 ⟨h1,rfl⟩];rfl
 . rw[B5 h1,B5 fun h=>h1 h.1]
theorem two_of {α:Type} {l:List α} (h:l.length=2):∃ a b,l=[a,b]:=by
 match l,h with
 | [a,b],_=>exact⟨a,b,C⟩
theorem onN_bd {k:Nat} {out:List Ru} {n:Int} (hb:Mv k out):Mv (k+1) (out++[(n,[])]):=by
 refine⟨by have:=hb.1;simp;omega,fun r hr=>?_⟩
 rcases List.mem_append.1 hr with hr|hr
 . exact Nat.le_succ_of_le (hb.2 r hr)
 . rw[List.mem_singleton.1 hr];simp
theorem lnN_bd {k:Nat} {l':List Ru} {r:Ru} {x:Ln} (hb:Mv k (l'++[r])):Mv (k+1) (l'++[(r.1,r.2++[x])]):=by
 refine⟨by have:=hb.1;simp at this ⊢;omega,fun q hq=>?_⟩
 rcases List.mem_append.1 hq with hq|hq
 . exact Nat.le_succ_of_le (hb.2 q (by simp[hq]))
 . have:=hb.2 r (by simp)
   rw[List.mem_singleton.1 hq];simp;omega
theorem MF {vs:List Value} {v:Value} (h:vs.length=1) (h2:Lf vs [.val v]):vs=[v]:=by
 match vs,h with
 | [u],_=>rw[h2 0 u v rfl rfl]
abbrev pqS (L:List F6) (v:Value) (lg:Bool) (k:Nat):PS:=⟨115,[(5,.d (.val v)),(6,.d (BF L)),(7,.d (dB lg)),(8,.d (dI k))],[],[]⟩
theorem QJ (s:F6):PCalls Tryz.prog 38 [dS s] (.tup [P3 (X7 (M0 I4) At s).1,dI (X7 (M0 I4) At s).2.1,dI (X7 (M0 I4) At s).2.2]):=by
 obtain⟨⟨R1,R2,R3⟩,hR⟩:=H8 (X7 (M0 I4) At s)
 rw[<-hR]
 unfold X7 at hR
 by_cases h0:65536<s.length
 . have t0:decide ((s.length:Int) > 65536)=true:=B0 (by omega)
   rw[B9 h0]at hR
   cases hR
   refine L5 Tryz.func38 C Tryz.ntmps38 Tryz.results38 fun B w0=>?_
   refine D7 (H3 C (H3 C (H3 C (yQ (B2 (D7 (B6 C (N3 C (yB C C C C ?_)))))))));refine yQ (B3 ?_);rw[t0];refine G2 C (D7 (H3 C (H3 C (H3 C (yQ (C4 (A5 ?_)))))))
   exact J5 _ (.tnil 2 C (.tmp C (.tmp C .nil))) C
 have t0:decide ((s.length:Int) > 65536)=false:=A7 (by omega)
 rw[B5 h0]at hR
 have k1:=QN s 10 (by omega)
 have hll:=Co 10 s
 have hln:=Ah 10 s
 have hne:=JD 10 s
 obtain⟨L,hL⟩:=H8 (R7 10 s)
 rw[<-hL]at k1 hR hll hln hne
 have hL1:1<=L.length:=by cases L with|nil=>exact G5 rfl hne|cons _ _=>simp
 obtain⟨⟨RO,RN⟩,hG⟩:=H8 (CO (Y5 (M0 I4) At) 0 [] L)
 rw[<-hG]at hR
 clear hL hne
 refine P0 Tryz.func38 C Tryz.ntmps38 Tryz.results38 (by simp) fun p d0 hex=>?_
 refine F5 (N0 (L4 (H3 C (yQ (L4 (H3 C (yQ (L4 (H3 C ?_)))))))));refine yQ (C5 (F5 (F5 (N0 (L4 (B6 C (yQ (L4 (N3 C ?_)))))))));refine yQ (L4 (yB C C C C (yQ (C5 (I6 ?_)))));rw[t0]
 refine O4 C (I3 (F5 (N0 (L4 (yEb C (yQ (L4 (EZ C (yQ ?_)))))))));refine C5 ?_;refine RJ 5 16 (vs:=[]) C C fun b m xs q1 q2 q3 q4 q5=>?_;refine F5 (N0 (L4 (B6 C (yQ (L4 (yC (k1) C C (yQ (L4 (H3 C ?_)))))))));refine yQ (C5 (F5 (N0 (L4 (H3 C (yQ (C5 (F5 (F5 ?_)))))))));refine N0 (L4 (H3 C (yQ (C5 (L1 ?_)))))
 have hra0:RB ⟨[(b,(xs,IJ))],[],none⟩ (.slice (some ⟨b,0,none⟩) 0 m) IJ Ps (DT []):=.inl ⟨rfl,b,m,xs,rfl,by show G1 [(b,(xs,IJ))] b=_;rw[G3,B9 rfl],q2,q4⟩
 clear q1 q2 q3 q4 q5
 refine IR (fun q:Nat×List Ru×Value×EI=>pqS L q.2.2.1 (q.2.1.any AG) q.1) (fun q=>q.2.2.2) (fun q=>q.1<=L.length∧Mv q.1 q.2.1∧RB q.2.2.2 q.2.2.1 IJ Ps (DT q.2.1)∧CO (Y5 (M0 I4) At) q.1 q.2.1 (L.drop q.1)=(RO,RN)) (fun q=>L.length-q.1) (0,[],.slice (some ⟨b,0,none⟩) 0 m,⟨[(b,(xs,IJ))],[],none⟩) ⟨E7 _,⟨E7 _,fun r hr=>by cases hr⟩,hra0,hG.symm⟩ rfl
  ⟨rfl,⟨E6,E6,E6,E6,D3⟩,D3,D3,rfl⟩ ?_
 clear hG hra0
 rintro⟨k,out,v,i⟩ ⟨hk,⟨hout,hol⟩,hra,hI⟩
 simp only at hk hout hol hra hI ⊢
 unfold pqS
 have hv1:=hra.one
 rcases D5 k L.length with h|h
 rotate_left
 . have u1:decide ((k:Int)<((L.map fun t=>([dS t]:List DV)).length:Int))=false:=A7 (by rw[A8];omega)
   rw[J6 h]at hI
   rw[CO]at hI
   obtain⟨e1,e2⟩:=Eb hI
   subst e2
   rw[<-e1]at hR
   simp only at hR
   have hfree:∀ (F:Nat->Nat->Prop) (w:World),(∀ (b:Nat) (xs:List Value) (T:Nat),G1 i.bs b=some (xs,T)->w.heap[b]? = some (.cells xs.toArray T (0,0)) ∧ ∀ o,F b o)->(∀ q∈i.fs,DRep F w q.1 q.2)->DRep F w v (P3 out):=fun F w hbs hfs=>by
    have:=hra.data (F:=F) (w:=w) hbs hfs
    rwa [ES]at this
   clear hra hout hol
   have hlr:(out.any fun r=>decide (64<r.2.length))=out.any AG:=rfl
   rw[hlr]at hR
   cases hlg:out.any AG with
   | true=>
    rw[hlg,B9 (.inr rfl)]at hR
    cases hR
    refine V7 5 hex C hfree ?_;refine F5 (F5 (N0 (L4 (B6 C (yQ (L4 (B6 C (yQ (L4 ?_)))))))));refine yN C (yQ (L4 (yB C C C C (yQ (C5 (I6 ?_))))));rw[u1];refine O4 C (Q4 (F5 (F5 (N0 (L4 (B6 C (yQ (L4 (B6 C ?_)))))))));refine yQ (L4 (yO C (yQ (L4 (yO C (yQ (L4 (yO C (yQ ?_)))))))));refine L4 (L0 C C (yQ (C5 (O5 C (F5 (N0 (L4 (H3 C (yQ ?_)))))))));refine L4 (H3 C (yQ (L4 (H3 C (yQ (C5 (M1 (G0 ?_))))))))
    exact L7 _ (.tnil 2 C (.tmp C (.tmp C .nil))) C
   | false=>
   rw[hlg]at hR
   by_cases h64:64<out.length
   . have t1:decide (((out.map X6).length:Int) > 64)=true:=B0 (by rw[A8];omega)
     rw[B9 (.inl h64)]at hR
     cases hR
     refine V7 5 hex C hfree ?_;refine F5 (F5 (N0 (L4 (B6 C (yQ (L4 (B6 C (yQ (L4 ?_)))))))));refine yN C (yQ (L4 (yB C C C C (yQ (C5 (I6 ?_))))));rw[u1];refine O4 C (Q4 (F5 (F5 (N0 (L4 (B6 C (yQ (L4 (B6 C ?_)))))))));refine yQ (L4 (B6 C (yQ (L4 (yN C (yQ (L4 (yB C C C C (yQ ?_)))))))));refine L4 (K9 C C (yQ (C5 (I6 ?_))));rw[t1];refine O5 C (F5 (N0 (L4 (H3 C (yQ (L4 (H3 C (yQ (L4 ?_)))))))));refine H3 C (yQ (C5 (M1 (G0 ?_))))
     exact L7 _ (.tnil 2 C (.tmp C (.tmp C .nil))) C
   . have t1:decide (((out.map X6).length:Int) > 64)=false:=A7 (by rw[A8];omega)
     rw[B5 (by rintro(h|h);exact h64 h;cases h)]at hR
     cases hR
     refine V7 5 hex C hfree ?_;refine F5 (F5 (N0 (L4 (B6 C (yQ (L4 (B6 C (yQ (L4 ?_)))))))));refine yN C (yQ (L4 (yB C C C C (yQ (C5 (I6 ?_))))));rw[u1];refine O4 C (Q4 (F5 (F5 (N0 (L4 (B6 C (yQ (L4 (B6 C ?_)))))))));refine yQ (L4 (B6 C (yQ (L4 (yN C (yQ (L4 (yB C C C C (yQ ?_)))))))));refine L4 (K9 C C (yQ (C5 (I6 ?_))));rw[t1];refine O4 C (I3 (F5 (N0 (L4 (B6 C (yQ (L4 (H3 C (yQ ?_)))))))));refine L4 (H3 C (yQ (L4 (H3 C (yQ (C5 (M1 ?_)))))))
     exact L7 _ (.tmp C (.tmp C (.tmp C .nil))) C
 have u1:decide ((k:Int)<((L.map fun t=>([dS t]:List DV)).length:Int))=true:=B0 (by rw[A8];omega)
 obtain⟨line,hx⟩:=DJ h
 have ex:=ix (fun t=>[dS t]) L k k line rfl hx
 have hw:IntKind.i64.wrap ((k:Int)+1)=((k+1:Nat):Int):=I8 ((k:Int)+1) (by omega)
 have hwn:IntKind.i64.wrap (((L.map fun t=>([dS t]:List DV)).length:Int)-1)=((L.length-1:Nat):Int):=by rw[A8,I8 _ (by omega)];omega
 have hlb:=hll line (B8 hx)
 have arith:L.length-(k+1)<L.length-k:=by omega
 obtain⟨q1,q2⟩:=A6.1 hx
 rw[I5 q1,q2]at hI
 clear hx q2
 by_cases hlast:k=L.length-1
 . have u2:((k:Int)==((L.length-1:Nat):Int))=true:=by simp[<-hlast]
   rw[J6 (by omega),CO]at hI
   by_cases hle:line=[]
   . have u3:(!line==[])=false:=by simp[hle]
     rw[B9 hle]at hI
     obtain⟨e1,e2⟩:=Eb hI
     subst e2
     rw[<-e1]at hR
     simp only at hR
     have hfree:∀ (F:Nat->Nat->Prop) (w:World),(∀ (b:Nat) (xs:List Value) (T:Nat),G1 i.bs b=some (xs,T)->w.heap[b]? = some (.cells xs.toArray T (0,0)) ∧ ∀ o,F b o)->(∀ q∈i.fs,DRep F w q.1 q.2)->DRep F w v (P3 out):=fun F w hbs hfs=>by
      have:=hra.data (F:=F) (w:=w) hbs hfs
      rwa [ES]at this
     clear hra hout hol
     have hlr:(out.any fun r=>decide (64<r.2.length))=out.any AG:=rfl
     rw[hlr]at hR
     cases hlg:out.any AG with
     | true=>
      rw[hlg,B9 (.inr rfl)]at hR
      cases hR
      refine V7 5 hex C hfree ?_;refine F5 (F5 (N0 (L4 (B6 C (yQ (L4 (B6 C (yQ (L4 ?_)))))))));refine yN C (yQ (L4 (yB C C C C (yQ (C5 (I6 ?_))))));rw[u1];refine O5 C (I3 (F5 (L1 (F5 (F5 (N0 (L4 (B6 C (yQ ?_)))))))));refine L4 (B6 C (yQ (L4 (yN C (yQ (L4 (yB C C C C (yQ (L4 ?_)))))))));refine yB C C C C (yQ (C5 (I6 ?_)));rw[hwn];rw[u2];refine O5 C (F5 (F5 (N0 (L4 (B6 C (yQ (L4 (B6 C (yQ ?_)))))))));refine L4 (yW ex (by omega) C C (yQ (L4 (K5 C C (yQ (L4 (L8 C C (yQ (C5 ?_)))))))));refine I6 ?_;rw[u3];refine O4 C (I3 (Q4 (F5 (F5 (N0 (L4 (B6 C (yQ (L4 ?_)))))))));refine B6 C (yQ (L4 (yO C (yQ (L4 (yO C (yQ (L4 (yO C ?_)))))))));refine yQ (L4 (L0 C C (yQ (C5 (O5 C (F5 (N0 (L4 (H3 C ?_)))))))));refine yQ (L4 (H3 C (yQ (L4 (H3 C (yQ (C5 (M1 (G0 ?_)))))))))
      exact L7 _ (.tnil 2 C (.tmp C (.tmp C .nil))) C
     | false=>
     rw[hlg]at hR
     by_cases h64:64<out.length
     . have t1:decide (((out.map X6).length:Int) > 64)=true:=B0 (by rw[A8];omega)
       rw[B9 (.inl h64)]at hR
       cases hR
       refine V7 5 hex C hfree ?_;refine F5 (F5 (N0 (L4 (B6 C (yQ (L4 (B6 C (yQ (L4 ?_)))))))));refine yN C (yQ (L4 (yB C C C C (yQ (C5 (I6 ?_))))));rw[u1];refine O5 C (I3 (F5 (L1 (F5 (F5 (N0 (L4 (B6 C (yQ ?_)))))))));refine L4 (B6 C (yQ (L4 (yN C (yQ (L4 (yB C C C C (yQ (L4 ?_)))))))));refine yB C C C C (yQ (C5 (I6 ?_)));rw[hwn];rw[u2];refine O5 C (F5 (F5 (N0 (L4 (B6 C (yQ (L4 (B6 C (yQ ?_)))))))));refine L4 (yW ex (by omega) C C (yQ (L4 (K5 C C (yQ (L4 (L8 C C (yQ (C5 ?_)))))))));refine I6 ?_;rw[u3];refine O4 C (I3 (Q4 (F5 (F5 (N0 (L4 (B6 C (yQ (L4 ?_)))))))));refine B6 C (yQ (L4 (B6 C (yQ (L4 (yN C (yQ (L4 (yB C C C C ?_)))))))));refine yQ (L4 (K9 C C (yQ (C5 (I6 ?_)))));rw[t1];refine O5 C (F5 (N0 (L4 (H3 C (yQ (L4 (H3 C (yQ (L4 ?_)))))))));refine H3 C (yQ (C5 (M1 (G0 ?_))))
       exact L7 _ (.tnil 2 C (.tmp C (.tmp C .nil))) C
     . have t1:decide (((out.map X6).length:Int) > 64)=false:=A7 (by rw[A8];omega)
       rw[B5 (by rintro(h|h);exact h64 h;cases h)]at hR
       cases hR
       refine V7 5 hex C hfree ?_;refine F5 (F5 (N0 (L4 (B6 C (yQ (L4 (B6 C (yQ (L4 ?_)))))))));refine yN C (yQ (L4 (yB C C C C (yQ (C5 (I6 ?_))))));rw[u1];refine O5 C (I3 (F5 (L1 (F5 (F5 (N0 (L4 (B6 C (yQ ?_)))))))));refine L4 (B6 C (yQ (L4 (yN C (yQ (L4 (yB C C C C (yQ (L4 ?_)))))))));refine yB C C C C (yQ (C5 (I6 ?_)));rw[hwn];rw[u2];refine O5 C (F5 (F5 (N0 (L4 (B6 C (yQ (L4 (B6 C (yQ ?_)))))))));refine L4 (yW ex (by omega) C C (yQ (L4 (K5 C C (yQ (L4 (L8 C C (yQ (C5 ?_)))))))));refine I6 ?_;rw[u3];refine O4 C (I3 (Q4 (F5 (F5 (N0 (L4 (B6 C (yQ (L4 ?_)))))))));refine B6 C (yQ (L4 (B6 C (yQ (L4 (yN C (yQ (L4 (yB C C C C ?_)))))))));refine yQ (L4 (K9 C C (yQ (C5 (I6 ?_)))));rw[t1];refine O4 C (I3 (F5 (N0 (L4 (B6 C (yQ (L4 (H3 C (yQ ?_)))))))));refine L4 (H3 C (yQ (L4 (H3 C (yQ (C5 (M1 ?_)))))))
       exact L7 _ (.tmp C (.tmp C (.tmp C .nil))) C
   . have u3:(!line==[])=true:=by simp[hle]
     rw[B5 hle]at hI
     cases hI
     cases hR
     refine F5 (F5 (N0 (L4 (B6 C (yQ (L4 (B6 C (yQ (L4 ?_)))))))));refine yN C (yQ (L4 (yB C C C C (yQ (C5 (I6 ?_))))));rw[u1];refine O5 C (I3 (F5 (L1 (F5 (F5 (N0 (L4 (B6 C (yQ ?_)))))))));refine L4 (B6 C (yQ (L4 (yN C (yQ (L4 (yB C C C C (yQ (L4 ?_)))))))));refine yB C C C C (yQ (C5 (I6 ?_)));rw[hwn];rw[u2];refine O5 C (F5 (F5 (N0 (L4 (B6 C (yQ (L4 (B6 C (yQ ?_)))))))));refine L4 (yW ex (by omega) C C (yQ (L4 (K5 C C (yQ (L4 (L8 C C (yQ (C5 ?_)))))))));refine I6 ?_;rw[u3];refine O5 C (F5 (N0 (L4 (B6 C (yQ (L4 (yB C C C C (yQ (L4 ?_)))))))));refine H3 C (yQ (L4 (H3 C (yQ (L4 (H3 C (yQ (C5 (M1 ?_)))))))));refine G0 (G0 (K1 (G0 (G0 (K1 (G0 ?_))))));rw[hw]
     exact L7 _ (.tnil 2 C (.tmp C (.tmp C .nil))) C
 have u2:((k:Int)==((L.length-1:Nat):Int))=false:=G9 (by omega)
 obtain⟨line2,rest2,hd2⟩:∃ a l,L.drop (k+1)=a::l:=by
  cases e:L.drop (k+1) with
  | nil=>rw[List.drop_eq_nil_iff]at e;omega
  | cons a l=>exact⟨a,l,C⟩
 rw[hd2,BQ]at hI
 rw[<-hd2]at hI
 clear hd2
 rw[<-line_eq]at hI
 have k2:=QN line 32 (by omega)
 have k3:=QH line (by omega)
 have hwl:=fun w (hw:w∈R7 32 line)=>FF hw
 obtain⟨lg,hlg⟩:=H8 (out.any AG)
 by_cases hW:(R7 32 line).length=2
 . obtain⟨w,kd,hW⟩:=two_of hW
   rw[PO hW]at hI
   rw[rdV_two hW]at k3
   rw[hW]at k2
   have k4:=wKindOf kd
   clear hwl
   have y0:(([w,kd]:List F6).map fun t=>([dS t]:List DV))[((0:Int)).toNat]? = some [dS w]:=rfl
   have y1:(([w,kd]:List F6).map fun t=>([dS t]:List DV))[((1:Int)).toNat]? = some [dS kd]:=rfl
   by_cases hon:w=Hu
   . have u4:(w==[111,110])=true:=by rw[hon];rfl
     by_cases hkp:0<MT kd
     . have u5:decide (MT kd > 0)=true:=B0 hkp
       rw[B9 ⟨hon,hkp⟩]at hI
       simp only at hI
       have hb2:=onN_bd (n:=MT kd) (⟨hout,hol⟩:Mv k out)
       have hmn:(out++[(MT kd,([]:List Ln))]).any AG=out.any AG:=Rg out _
       obtain⟨b,c,xs,rfl,p1,p2,p3,p4⟩:=hra.slice
       have hen:(DT out).length=out.length:=by simp
       have hen2:DT (out++[(MT kd,[])])=DT out++[(MT kd,[])]:=by simp
       have hps:=fun {b' c' xs' news fs' it'}=>hra.push (b':=b') (c':=c') (xs':=xs') (news:=news) (fs':=fs') (it':=it') (n:=MT kd) rfl p3
       rw[<-hen2]at hps
       rw[hen]at p1
       refine F5 (F5 (N0 (L4 (B6 C (yQ (L4 (B6 C (yQ (L4 ?_)))))))));refine yN C (yQ (L4 (yB C C C C (yQ (C5 (I6 ?_))))));rw[u1];refine O5 C (I3 (F5 (L1 (F5 (F5 (N0 (L4 (B6 C (yQ ?_)))))))));refine L4 (B6 C (yQ (L4 (yN C (yQ (L4 (yB C C C C (yQ (L4 ?_)))))))));refine yB C C C C (yQ (C5 (I6 ?_)));rw[hwn];rw[u2];refine O4 C (I3 (F5 (N0 (L4 (B6 C (yQ (L4 (B6 C (yQ ?_)))))))));refine L4 (yW ex (by omega) C C (yQ (L4 (K5 C C (yQ (L4 (yC (k2) C C (yQ (L4 ?_)))))))));refine H3 C (yQ (C5 (F5 (F5 (N0 (L4 (B6 C (yQ (L4 ?_)))))))));refine yN C (yQ (L4 (yB C C C C (yQ (L4 (B6 C (yQ (L4 (B6 C ?_)))))))));refine yQ (L4 (yW y0 (by omega) C C (yQ (L4 (K5 C C (yQ (L4 (N6 C C (yQ ?_)))))))));refine L4 (L0 C C (yQ (L4 (B6 C (yQ (L4 ?_))))));rw[u4];refine B6 C (yQ (L4 (yW y1 (by omega) C C (yQ (L4 (K5 C C (yQ (L4 (yC (k4) C C ?_)))))))));refine yQ (L4 (yB C C C C (yQ (L4 (L0 C C (yQ (C5 (I6 ?_))))))));rw[u5];refine O5 C (F5 (N0 (L4 (B6 C (yQ (L4 (B6 C (yQ (L4 ?_)))))))));refine yW y1 (by omega) C C (yQ (L4 (K5 C C (yQ (L4 (yC (k4) C C (yQ (L4 (yG (ys:=[_,_]) C C ?_)))))))));refine yQ (L4 ?_);refine yR (es:=[[_,_]]) C C C C C ?_;refine yQ ?_;refine P4 ?_;refine RS C p3 p4 (by rw[hen];exact p1) p2 C (by rw[hen];omega) (by rw[hen];omega) (fun b' c' xs' news g1 g2 g3 g4 g5 g6 g7 g8=>?_);refine L4 (H3 C (yQ (C5 (Q4 (N0 (L4 (B6 C (yQ (L4 ?_)))))))));refine yB C C C C (yQ (L4 (H3 C (yQ (C5 (I6 ?_))))))
       exact⟨(k+1,out++[(MT kd,[])],.slice (some ⟨b',0,none⟩) ((DT out).length+1) c',_),⟨h,hb2,hps g1 g2 g4 g5 g6 g7 g8 (fun q hq=>List.mem_append_right _ hq),hI⟩,arith,⟨rfl,⟨E6,E6,.of_eq (G4 (fun x=>SV.d (dB x)) hmn.symm),P2 hw,D3⟩,D3,D3,C⟩,C⟩
     . have u5:decide (MT kd > 0)=false:=A7 hkp
       rw[B5 fun h=>hkp h.2]at hI
       cases hI
       cases hR
       refine F5 (F5 (N0 (L4 (B6 C (yQ (L4 (B6 C (yQ (L4 ?_)))))))));refine yN C (yQ (L4 (yB C C C C (yQ (C5 (I6 ?_))))));rw[u1];refine O5 C (I3 (F5 (L1 (F5 (F5 (N0 (L4 (B6 C (yQ ?_)))))))));refine L4 (B6 C (yQ (L4 (yN C (yQ (L4 (yB C C C C (yQ (L4 ?_)))))))));refine yB C C C C (yQ (C5 (I6 ?_)));rw[hwn];rw[u2];refine O4 C (I3 (F5 (N0 (L4 (B6 C (yQ (L4 (B6 C (yQ ?_)))))))));refine L4 (yW ex (by omega) C C (yQ (L4 (K5 C C (yQ (L4 (yC (k2) C C (yQ (L4 ?_)))))))));refine H3 C (yQ (C5 (F5 (F5 (N0 (L4 (B6 C (yQ (L4 ?_)))))))));refine yN C (yQ (L4 (yB C C C C (yQ (L4 (B6 C (yQ (L4 (B6 C ?_)))))))));refine yQ (L4 (yW y0 (by omega) C C (yQ (L4 (K5 C C (yQ (L4 (N6 C C (yQ ?_)))))))));refine L4 (L0 C C (yQ (L4 (B6 C (yQ (L4 ?_))))));rw[u4];refine B6 C (yQ (L4 (yW y1 (by omega) C C (yQ (L4 (K5 C C (yQ (L4 (yC (k4) C C ?_)))))))));refine yQ (L4 (yB C C C C (yQ (L4 (L0 C C (yQ (C5 (I6 ?_))))))));rw[u5];refine O4 C (I3 (F5 (N0 (L4 (B6 C (yQ (L4 (B6 C (yQ ?_)))))))));refine L4 (yW ex (by omega) C C (yQ (L4 (K5 C C (yQ (L4 (yC (k3) C C (yQ (L4 ?_)))))))));refine N9 C (yQ (L4 (yX C C (yQ (L4 (yX C C (yQ (L4 (yZ (cs:=[_,_,_]) C C ?_)))))))));refine yQ (L4 (yS (cs':=[_,_,_]) C C C C C (yQ (L4 (H3 C (yQ (C5 (F5 (F5 ?_)))))))));refine N0 (L4 (B6 C (yQ (L4 (yU C C C (yQ (L4 (B6 C (yQ ?_)))))))));refine L4 (yO C (yQ (L4 (yO C (yQ (L4 (yO C (yQ (L4 ?_)))))))));refine L0 C C (yQ (C5 (O5 C (F5 (N0 (L4 (B6 C (yQ (L4 ?_)))))))));refine yB C C C C (yQ (L4 (H3 C (yQ (L4 (H3 C (yQ (L4 (H3 C ?_)))))))));refine yQ (C5 (M1 (G0 (K1 (G0 (G0 (K1 (G0 ?_))))))));rw[hw]
       exact L7 _ (.tnil 2 C (.tmp C (.tmp C .nil))) C
   . have u4:(w==[111,110])=false:=G9 hon
     rw[B5 fun h=>hon h.1]at hI
     cases hI
     cases hR
     refine F5 (F5 (N0 (L4 (B6 C (yQ (L4 (B6 C (yQ (L4 ?_)))))))));refine yN C (yQ (L4 (yB C C C C (yQ (C5 (I6 ?_))))));rw[u1];refine O5 C (I3 (F5 (L1 (F5 (F5 (N0 (L4 (B6 C (yQ ?_)))))))));refine L4 (B6 C (yQ (L4 (yN C (yQ (L4 (yB C C C C (yQ (L4 ?_)))))))));refine yB C C C C (yQ (C5 (I6 ?_)));rw[hwn];rw[u2];refine O4 C (I3 (F5 (N0 (L4 (B6 C (yQ (L4 (B6 C (yQ ?_)))))))));refine L4 (yW ex (by omega) C C (yQ (L4 (K5 C C (yQ (L4 (yC (k2) C C (yQ (L4 ?_)))))))));refine H3 C (yQ (C5 (F5 (F5 (N0 (L4 (B6 C (yQ (L4 ?_)))))))));refine yN C (yQ (L4 (yB C C C C (yQ (L4 (B6 C (yQ (L4 (B6 C ?_)))))))));refine yQ (L4 (yW y0 (by omega) C C (yQ (L4 (K5 C C (yQ (L4 (N6 C C (yQ ?_)))))))));refine L4 (L0 C C (yQ (L4 (B6 C (yQ (L4 ?_))))));rw[u4];refine yO C (yQ (L4 (yO C (yQ (L4 (yO C (yQ (L4 (yO C ?_)))))))));refine yQ (L4 (yO C (yQ (L4 (K9 C C (yQ (C5 (O4 C (I3 ?_)))))))));refine F5 (N0 (L4 (B6 C (yQ (L4 (B6 C (yQ (L4 (yW ex (by omega) C C ?_)))))))));refine yQ (L4 (K5 C C (yQ (L4 (yC (k3) C C (yQ (L4 (N9 C (yQ ?_)))))))));refine L4 (yX C C (yQ (L4 (yX C C (yQ (L4 (yZ (cs:=[_,_,_]) C C (yQ (L4 ?_)))))))));refine yS (cs':=[_,_,_]) C C C C C (yQ (L4 (H3 C (yQ (C5 (F5 (F5 (N0 (L4 ?_)))))))));refine B6 C (yQ (L4 (yU C C C (yQ (L4 (B6 C (yQ (L4 (yO C ?_)))))))));refine yQ (L4 (yO C (yQ (L4 (yO C (yQ (L4 (L0 C C (yQ ?_)))))))));refine C5 (O5 C (F5 (N0 (L4 (B6 C (yQ (L4 (yB C C C C (yQ ?_)))))))));refine L4 (H3 C (yQ (L4 (H3 C (yQ (L4 (H3 C (yQ (C5 ?_)))))))));refine M1 (G0 (K1 (G0 (G0 (K1 (G0 ?_))))));rw[hw]
     exact L7 _ (.tnil 2 C (.tmp C (.tmp C .nil))) C
 rw[PP hW]at hI
 have u6:((((R7 32 line).map fun t=>([dS t]:List DV)).length:Int)==2)=false:=G9 (by rw[A8];omega)
 clear hwl
 obtain⟨⟨x,ok⟩,hxo⟩:=H8 (NQ line)
 rw[<-hxo]at k3 hI
 obtain⟨W,hWW⟩:=H8 (R7 32 line)
 rw[<-hWW]at k2 u6
 clear hxo hWW hW
 cases ok with
 | false=>
  rw[B5 fun h=>by cases h.1]at hI
  cases hI
  cases hR
  refine F5 (F5 (N0 (L4 (B6 C (yQ (L4 (B6 C (yQ (L4 ?_)))))))));refine yN C (yQ (L4 (yB C C C C (yQ (C5 (I6 ?_))))));rw[u1];refine O5 C (I3 (F5 (L1 (F5 (F5 (N0 (L4 (B6 C (yQ ?_)))))))));refine L4 (B6 C (yQ (L4 (yN C (yQ (L4 (yB C C C C (yQ (L4 ?_)))))))));refine yB C C C C (yQ (C5 (I6 ?_)));rw[hwn];rw[u2];refine O4 C (I3 (F5 (N0 (L4 (B6 C (yQ (L4 (B6 C (yQ ?_)))))))));refine L4 (yW ex (by omega) C C (yQ (L4 (K5 C C (yQ (L4 (yC (k2) C C (yQ (L4 ?_)))))))));refine H3 C (yQ (C5 (F5 (F5 (N0 (L4 (B6 C (yQ (L4 ?_)))))))));refine yN C (yQ (L4 (yB C C C C (yQ (L4 (B6 C (yQ (L4 ?_))))))));rw[u6];refine yO C (yQ (L4 (yO C (yQ (L4 (yO C (yQ (L4 (yO C ?_)))))))));refine yQ (L4 (K9 C C (yQ (L4 (B6 C (yQ (L4 (yO C (yQ ?_)))))))));refine L4 (yO C (yQ (L4 (yO C (yQ (L4 (yO C (yQ (L4 ?_)))))))));refine yO C (yQ (L4 (K9 C C (yQ (C5 (O4 C (I3 (F5 (N0 ?_)))))))));refine L4 (B6 C (yQ (L4 (B6 C (yQ (L4 (yW ex (by omega) C C (yQ (L4 ?_)))))))));refine K5 C C (yQ (L4 (yC (k3) C C (yQ (L4 (N9 C (yQ (L4 (yX C C ?_)))))))));refine yQ (L4 (yX C C (yQ (L4 (yZ (cs:=[_,_,_]) C C (yQ (L4 (yS (cs':=[_,_,_]) C C C C C (yQ ?_)))))))));refine L4 (H3 C (yQ (C5 (F5 (F5 (N0 (L4 (B6 C (yQ ?_)))))))));refine L4 (yU C C C (yQ (L4 (B6 C (yQ (L4 (yO C (yQ (L4 ?_)))))))));refine yO C (yQ (L4 (yO C (yQ (L4 (L0 C C (yQ (C5 (O5 C ?_)))))))));refine F5 (N0 (L4 (B6 C (yQ (L4 (yB C C C C (yQ (L4 (H3 C ?_)))))))));refine yQ (L4 (H3 C (yQ (L4 (H3 C (yQ (C5 (M1 (G0 ?_)))))))));refine K1 (G0 (G0 (K1 (G0 ?_))));rw[hw]
  exact L7 _ (.tnil 2 C (.tmp C (.tmp C .nil))) C
 | true=>
 rcases List.eq_nil_or_concat out with rfl|⟨l',r,rfl⟩
 . obtain⟨b,c,xs,rfl,-⟩:=hra.slice
   rw[B5 fun h=>by cases h.2]at hI
   cases hI
   cases hR
   refine F5 (F5 (N0 (L4 (B6 C (yQ (L4 (B6 C (yQ (L4 ?_)))))))));refine yN C (yQ (L4 (yB C C C C (yQ (C5 (I6 ?_))))));rw[u1];refine O5 C (I3 (F5 (L1 (F5 (F5 (N0 (L4 (B6 C (yQ ?_)))))))));refine L4 (B6 C (yQ (L4 (yN C (yQ (L4 (yB C C C C (yQ (L4 ?_)))))))));refine yB C C C C (yQ (C5 (I6 ?_)));rw[hwn];rw[u2];refine O4 C (I3 (F5 (N0 (L4 (B6 C (yQ (L4 (B6 C (yQ ?_)))))))));refine L4 (yW ex (by omega) C C (yQ (L4 (K5 C C (yQ (L4 (yC (k2) C C (yQ (L4 ?_)))))))));refine H3 C (yQ (C5 (F5 (F5 (N0 (L4 (B6 C (yQ (L4 ?_)))))))));refine yN C (yQ (L4 (yB C C C C (yQ (L4 (B6 C (yQ (L4 ?_))))))));rw[u6];refine yO C (yQ (L4 (yO C (yQ (L4 (yO C (yQ (L4 (yO C ?_)))))))));refine yQ (L4 (K9 C C (yQ (L4 (B6 C (yQ (L4 (yO C (yQ ?_)))))))));refine L4 (yO C (yQ (L4 (yO C (yQ (L4 (yO C (yQ (L4 ?_)))))))));refine yO C (yQ (L4 (K9 C C (yQ (C5 (O4 C (I3 (F5 (N0 ?_)))))))));refine L4 (B6 C (yQ (L4 (B6 C (yQ (L4 (yW ex (by omega) C C (yQ (L4 ?_)))))))));refine K5 C C (yQ (L4 (yC (k3) C C (yQ (L4 (N9 C (yQ (L4 (yX C C ?_)))))))));refine yQ (L4 (yX C C (yQ (L4 (yZ (cs:=[_,_,_]) C C (yQ (L4 (yS (cs':=[_,_,_]) C C C C C (yQ ?_)))))))));refine L4 (H3 C (yQ (C5 (F5 (F5 (N0 (L4 (B6 C (yQ ?_)))))))));refine L4 (yU C C C (yQ (L4 (B6 C (yQ (L4 (B6 C (yQ (L4 ?_)))))))));refine yNv C (yQ (L4 (yB C C C C (yQ (L4 (K9 C C (yQ (C5 (O5 C ?_)))))))));refine F5 (N0 (L4 (B6 C (yQ (L4 (yB C C C C (yQ (L4 (H3 C ?_)))))))));refine yQ (L4 (H3 C (yQ (L4 (H3 C (yQ (C5 (M1 (G0 ?_)))))))));refine K1 (G0 (G0 (K1 (G0 ?_))));rw[hw]
   exact L7 _ (.tnil 2 C (.tmp C (.tmp C .nil))) C
 rw[List.concat_eq_append]at hI hra hout hol hlg ⊢
 have hne2:(l'++[r]).isEmpty=false:=by cases l'<;>rfl
 rw[B9 ⟨rfl,hne2⟩,Ab]at hI
 simp only at hI
 have hb2:=lnN_bd (x:=x) (⟨hout,hol⟩:Mv k (l'++[r]))
 have hma:=Ox x l' r
 rw[Ab]at hma
 have hma2:(l'++[(r.1,r.2++[x])]).any AG=((l'++[r]).any AG||decide (64<r.2.length+1)):=hma
 have hrl:r.2.length<=k:=hol r (by simp)
 have hol2:l'.length+1<=k:=by have:=hout;simp at this;exact this
 have hen2:DT (l'++[r])=DT l'++[(r.1,r.2.map W9)]:=by simp
 have hen3:DT (l'++[(r.1,r.2++[x])])=DT l'++[(r.1,r.2.map W9++[W9 x])]:=by simp
 have hel:(DT l').length=l'.length:=by simp
 rw[hen2]at hra
 obtain⟨br,cp,xs,lv,lc,rfl,x1,x2,hu,hlv1,q2,h6,done⟩:=hra.last
 rw[hel]at x2 hu done hv1 ⊢
 simp only[A8]at q2 done
 have hbr:∀ (b':Nat) (bs':EB),(lv.ownBlock=some b'∨G1 i.bs b'=none)->(∀ b,b≠b'->lv.ownBlock≠some b->G1 bs' b=G1 i.bs b)->G1 bs' br=some (xs,IJ):=fun b' bs' w3 w4=>by
  have h7:br≠b':=fun e=>by
   rcases w3 with w3|w3
   . exact h6 (e ▸ w3)
   . rw[<-e,x1]at w3;cases w3
  rw[w4 br h7 h6]
  exact x1
 have t1:(((l'.length+1:Nat):Int)==0)=false:=G9 (by omega)
 have hwl:IntKind.i64.wrap (((l'.length+1:Nat):Int)-1)=(l'.length:Int):=by rw[I8 _ (by omega)];omega
 have hoff:0+((l'.length:Int)).toNat*2=l'.length*2:=by rw[H1];omega
 have hlt:(l'.length:Int)<((l'.length+1:Nat):Int):=by omega
 have t2:decide (((r.2.length+1:Nat):Int) > 64)=decide (64<r.2.length+1):=decide_eq_decide.2 (by omega)
 have hT:lg=true->true=(l'++[(r.1,r.2++[x])]).any AG:=fun e=>by rw[hma2,<-hlg,e,Bool.true_or]
 have hF:lg=false->decide (((r.2.length+1:Nat):Int) > 64)=(l'++[(r.1,r.2++[x])]).any AG:=fun e=>by rw[hma2,<-hlg,e,Bool.false_or,t2]
 have fin:∀ (v':Value) (b':Nat) (bs':EB) (news vs:List Value),v'.ownBlock=some b'->RowAt bs' Ps 3 v' (r.2.length+1) (lc++news)->(lv.ownBlock=some b'∨G1 i.bs b'=none)->(∀ b,b≠b'->lv.ownBlock≠some b->G1 bs' b=G1 i.bs b)->news.length=3->(∀ u∈news,u.oneCell'=true)->vs.length=1->Lf vs [.val v'] →
  RB ⟨(br,(BO xs (l'.length*2+1) vs,IJ))::bs',vs.zip [.val v']++(news.zip (W9 x)++i.fs),i.it⟩ (.slice (some ⟨br,0,none⟩) (l'.length+1) cp) IJ Ps (DT (l'++[(r.1,r.2++[x])])):=fun v' b' bs' news vs w1 w2 w3 w4 w5 w6 w7 w8=>by
  rw[hen3]
  exact done v' b' bs' news vs (W9 x) _ i.it w1 w2 w3 w4 w5 C w6 w7 w8 (fun q hq=>by simp[hq]) (fun q hq=>List.mem_append_right _ (List.mem_append_left _ hq))
 have hgb:∀ {ys:List Value} {bs':EB},G1 ((br,(ys,IJ))::bs') br=some (ys,IJ):=fun {ys bs'}=>by rw[G3,B9 rfl]
 have hgs:∀ u:Value,(BO xs (l'.length*2+1) [u])[l'.length*2+1]? = some u:=fun u=>by
  show(xs.set (l'.length*2+1) u)[l'.length*2+1]? = some u
  rw[List.getElem?_set_self (by omega)]
 rw[<-hlg]
 clear hma hma2 hlg done hra hen2 hen3 hel hol hout
 refine F5 (F5 (N0 (L4 (B6 C (yQ (L4 (B6 C (yQ (L4 ?_)))))))));refine yN C (yQ (L4 (yB C C C C (yQ (C5 (I6 ?_))))));rw[u1];refine O5 C (I3 (F5 (L1 (F5 (F5 (N0 (L4 (B6 C (yQ ?_)))))))));refine L4 (B6 C (yQ (L4 (yN C (yQ (L4 (yB C C C C (yQ (L4 ?_)))))))));refine yB C C C C (yQ (C5 (I6 ?_)));rw[hwn];rw[u2];refine O4 C (I3 (F5 (N0 (L4 (B6 C (yQ (L4 (B6 C (yQ ?_)))))))));refine L4 (yW ex (by omega) C C (yQ (L4 (K5 C C (yQ (L4 (yC (k2) C C (yQ (L4 ?_)))))))));refine H3 C (yQ (C5 (F5 (F5 (N0 (L4 (B6 C (yQ (L4 ?_)))))))));refine yN C (yQ (L4 (yB C C C C (yQ (L4 (B6 C (yQ (L4 ?_))))))));rw[u6];refine yO C (yQ (L4 (yO C (yQ (L4 (yO C (yQ (L4 (yO C ?_)))))))));refine yQ (L4 (K9 C C (yQ (L4 (B6 C (yQ (L4 (yO C (yQ ?_)))))))));refine L4 (yO C (yQ (L4 (yO C (yQ (L4 (yO C (yQ (L4 ?_)))))))));refine yO C (yQ (L4 (K9 C C (yQ (C5 (O4 C (I3 (F5 (N0 ?_)))))))));refine L4 (B6 C (yQ (L4 (B6 C (yQ (L4 (yW ex (by omega) C C (yQ (L4 ?_)))))))));refine K5 C C (yQ (L4 (yC (k3) C C (yQ (L4 (N9 C (yQ (L4 (yX C C ?_)))))))));refine yQ (L4 (yX C C (yQ (L4 (yZ (cs:=[_,_,_]) C C (yQ (L4 (yS (cs':=[_,_,_]) C C C C C (yQ ?_)))))))));refine L4 (H3 C (yQ (C5 (F5 (F5 (N0 (L4 (B6 C (yQ ?_)))))))));refine L4 (yU C C C (yQ (L4 (B6 C (yQ (L4 (B6 C (yQ (L4 ?_)))))))));refine yNv C (yQ (L4 (yB C C C C (yQ (L4 (K9 C C (yQ (C5 (O4 C ?_)))))))));refine I3 (F5 (N0 (L4 (B6 C (yQ (L4 (yNv C (yQ (L4 ?_)))))))));refine yB C C C C (yQ (L4 (H3 C (yQ (C5 (F5 ?_))))));refine RU Tryz.mixed ?_;rw[t1];rw[hwl]
 refine T5 0 C C C (by kernel_rfl) (X4 C) ?_
 refine T5 1 C C C (by kernel_rfl) (X4 C) ?_
 refine T5 2 C C C (by kernel_rfl) (X4 C) ?_
 refine T5 3 C C C (by kernel_rfl) (X4 C) ?_
 refine T5 4 C C C (by kernel_rfl) (held_ix hoff (by omega) hlt C C) ?_
 refine T5 5 C C C (by kernel_rfl) (Nr C) ?_
 refine J7 [6,7] C C ⟨⟨_,C,?_⟩,⟨_,C,?_⟩,D3⟩
 . refine W7 C x1 hu hlv1 ?_;refine J7 [_] C C ⟨⟨_,C,?_⟩,D3⟩;refine L4 (Ae (ys:=[_,_,_]) C C C C (yQ (C5 ?_)))
   refine J7 [_] C C ⟨⟨_,C,?_⟩,D3⟩;refine L4 ?_;refine yR (es:=[[_,_,_]]) C C C C C ?_;refine yQ (C5 ?_);refine J7 [_] C C ⟨⟨_,C,?_⟩,D3⟩
   refine CX q2 C C (by omega) (by omega) (fun v' b' bs' news w1 w2 w3 w4 w5 w6 w0 w10=>?_);refine J7 [_] C C ⟨⟨_,C,?_⟩,D3⟩;refine L4 (Lg hoff (by omega) hlt C C (yQ (C5 ?_)));refine J7 [_] C C ⟨⟨_,C,?_⟩,D3⟩;refine L4 (yFv C (yQ (C5 ?_)));refine J7 [_] C C ⟨⟨_,C,?_⟩,D3⟩
   refine CY (ds:=[.val v']) C (hbr b' bs' w3 w4) C C x2 (fun vs w7 w9 w8=>?_);refine Bv C ?_;refine N0 (L4 (B6 C (yQ (L4 (B6 C (yQ (L4 ?_)))))))
   have hfin:=fin v' b' bs' news vs w1 w2 w3 w4 w5 w6 w7 w8
   cases lg with
   | true=>
    refine yO C (yQ (L4 (yO C (yQ (L4 (yO C (yQ (L4 (yO C ?_)))))))));refine yQ (L4 (yO C (yQ (L4 (yO C (yQ (L4 (yO C (yQ ?_)))))))));refine L4 (L0 C C (yQ (L4 (H3 C (yQ (C5 (N0 (L4 (B6 C ?_)))))))));refine yQ (L4 (yB C C C C (yQ (L4 (H3 C (yQ (C5 (I6 ?_))))))))
    exact⟨(k+1,l'++[(r.1,r.2++[x])],_,_),⟨h,hb2,hfin,hI⟩,arith,⟨rfl,⟨E6,E6,.of_eq (G4 (fun x=>SV.d (dB x)) (hT C)),P2 hw,D3⟩,D3,D3,C⟩,C⟩
   | false=>
    obtain⟨b2,c2,xs2,rfl,-⟩:=w2.pos (Nat.succ_pos _)
    obtain rfl:=MF w7 w8
    refine B6 C (yQ (L4 (B6 C (yQ (L4 (Lg hoff (by omega) hlt C C (yQ (L4 (yFv C ?_)))))))));refine yQ ?_;refine P4 ?_;refine W7 C hgb (hgs _) C ?_;refine L4 (yNv C (yQ (L4 (yB C C C C (yQ (L4 (K9 C C (yQ (L4 ?_)))))))));refine H3 C (yQ (C5 (N0 (L4 (B6 C (yQ (L4 (yB C C C C (yQ ?_)))))))));refine L4 (H3 C (yQ (C5 (I6 ?_))))
    exact⟨(k+1,l'++[(r.1,r.2++[x])],_,_),⟨h,hb2,hfin,hI⟩,arith,⟨rfl,⟨E6,E6,.of_eq (G4 (fun x=>SV.d (dB x)) (hF C)),P2 hw,D3⟩,D3,D3,C⟩,C⟩
 . refine L4 (Ae (ys:=[_,_,_]) C C C C (yQ (C5 ?_)))
   refine J7 [6,8] C C ⟨⟨_,C,?_⟩,⟨_,C,?_⟩,D3⟩
   . refine W7 C x1 hu hlv1 ?_;refine J7 [_] C C ⟨⟨_,C,?_⟩,D3⟩;refine L4 ?_;refine yR (es:=[[_,_,_]]) C C C C C ?_;refine yQ (C5 ?_)
     refine J7 [_] C C ⟨⟨_,C,?_⟩,D3⟩;refine CX q2 C C (by omega) (by omega) (fun v' b' bs' news w1 w2 w3 w4 w5 w6 w0 w10=>?_);refine J7 [_] C C ⟨⟨_,C,?_⟩,D3⟩;refine L4 ?_
     refine Lg hoff (by omega) hlt C C (yQ (C5 ?_));refine J7 [_] C C ⟨⟨_,C,?_⟩,D3⟩;refine L4 (yFv C (yQ (C5 ?_)))
     refine J7 [_] C C ⟨⟨_,C,?_⟩,D3⟩;refine CY (ds:=[.val v']) C (hbr b' bs' w3 w4) C C x2 (fun vs w7 w9 w8=>?_);refine Bv C ?_;refine N0 (L4 (B6 C (yQ ?_)))
     refine L4 (B6 C (yQ (L4 ?_)))
     have hfin:=fin v' b' bs' news vs w1 w2 w3 w4 w5 w6 w7 w8
     cases lg with
     | true=>
      refine yO C (yQ (L4 (yO C (yQ (L4 (yO C (yQ (L4 (yO C ?_)))))))));refine yQ (L4 (yO C (yQ (L4 (yO C (yQ (L4 (yO C (yQ ?_)))))))));refine L4 (L0 C C (yQ (L4 (H3 C (yQ (C5 (N0 (L4 (B6 C ?_)))))))));refine yQ (L4 (yB C C C C (yQ (L4 (H3 C (yQ (C5 (I6 ?_))))))))
      exact⟨(k+1,l'++[(r.1,r.2++[x])],_,_),⟨h,hb2,hfin,hI⟩,arith,⟨rfl,⟨E6,E6,.of_eq (G4 (fun x=>SV.d (dB x)) (hT C)),P2 hw,D3⟩,D3,D3,C⟩,C⟩
     | false=>
      obtain⟨b2,c2,xs2,rfl,-⟩:=w2.pos (Nat.succ_pos _)
      obtain rfl:=MF w7 w8
      refine B6 C (yQ (L4 (B6 C (yQ (L4 (Lg hoff (by omega) hlt C C (yQ (L4 (yFv C ?_)))))))));refine yQ ?_;refine P4 ?_;refine W7 C hgb (hgs _) C ?_;refine L4 (yNv C (yQ (L4 (yB C C C C (yQ (L4 (K9 C C (yQ (L4 ?_)))))))));refine H3 C (yQ (C5 (N0 (L4 (B6 C (yQ (L4 (yB C C C C (yQ ?_)))))))));refine L4 (H3 C (yQ (C5 (I6 ?_))))
      exact⟨(k+1,l'++[(r.1,r.2++[x])],_,_),⟨h,hb2,hfin,hI⟩,arith,⟨rfl,⟨E6,E6,.of_eq (G4 (fun x=>SV.d (dB x)) (hF C)),P2 hw,D3⟩,D3,D3,C⟩,C⟩
   . refine L4 ?_;refine yR (es:=[[_,_,_]]) C C C C C ?_;refine yQ (C5 ?_);refine J7 [_] C C ⟨⟨_,C,?_⟩,D3⟩;refine W7 C x1 hu hlv1 ?_
     refine J7 [_] C C ⟨⟨_,C,?_⟩,D3⟩;refine CX q2 C C (by omega) (by omega) (fun v' b' bs' news w1 w2 w3 w4 w5 w6 w0 w10=>?_);refine J7 [_] C C ⟨⟨_,C,?_⟩,D3⟩;refine L4 ?_
     refine Lg hoff (by omega) hlt C C (yQ (C5 ?_));refine J7 [_] C C ⟨⟨_,C,?_⟩,D3⟩;refine L4 (yFv C (yQ (C5 ?_)))
     refine J7 [_] C C ⟨⟨_,C,?_⟩,D3⟩;refine CY (ds:=[.val v']) C (hbr b' bs' w3 w4) C C x2 (fun vs w7 w9 w8=>?_);refine Bv C ?_;refine N0 (L4 (B6 C (yQ ?_)))
     refine L4 (B6 C (yQ (L4 ?_)))
     have hfin:=fin v' b' bs' news vs w1 w2 w3 w4 w5 w6 w7 w8
     cases lg with
     | true=>
      refine yO C (yQ (L4 (yO C (yQ (L4 (yO C (yQ (L4 (yO C ?_)))))))));refine yQ (L4 (yO C (yQ (L4 (yO C (yQ (L4 (yO C (yQ ?_)))))))));refine L4 (L0 C C (yQ (L4 (H3 C (yQ (C5 (N0 (L4 (B6 C ?_)))))))));refine yQ (L4 (yB C C C C (yQ (L4 (H3 C (yQ (C5 (I6 ?_))))))))
      exact⟨(k+1,l'++[(r.1,r.2++[x])],_,_),⟨h,hb2,hfin,hI⟩,arith,⟨rfl,⟨E6,E6,.of_eq (G4 (fun x=>SV.d (dB x)) (hT C)),P2 hw,D3⟩,D3,D3,C⟩,C⟩
     | false=>
      obtain⟨b2,c2,xs2,rfl,-⟩:=w2.pos (Nat.succ_pos _)
      obtain rfl:=MF w7 w8
      refine B6 C (yQ (L4 (B6 C (yQ (L4 (Lg hoff (by omega) hlt C C (yQ (L4 (yFv C ?_)))))))));refine yQ ?_;refine P4 ?_;refine W7 C hgb (hgs _) C ?_;refine L4 (yNv C (yQ (L4 (yB C C C C (yQ (L4 (K9 C C (yQ (L4 ?_)))))))));refine H3 C (yQ (C5 (N0 (L4 (B6 C (yQ (L4 (yB C C C C (yQ ?_)))))))));refine L4 (H3 C (yQ (C5 (I6 ?_))))
      exact⟨(k+1,l'++[(r.1,r.2++[x])],_,_),⟨h,hb2,hfin,hI⟩,arith,⟨rfl,⟨E6,E6,.of_eq (G4 (fun x=>SV.d (dB x)) (hF C)),P2 hw,D3⟩,D3,D3,C⟩,C⟩
theorem wRSide (c:Bool):PCalls Tryz.prog 93 [dB c] (.d (dS (sdW c))):=by
 cases c with
 | true=>
  refine L5 Tryz.func93 C Tryz.ntmps93 Tryz.results93 fun B w0=>?_
  refine D7 (H3 C (yQ (B2 (D7 (B6 C (yQ (G2 C (D7 (H3 C ?_)))))))));refine yQ (C4 (A5 ?_))
  exact M5 C C
 | false=>
  refine L5 Tryz.func93 C Tryz.ntmps93 Tryz.results93 fun B w0=>?_
  refine D7 (H3 C (yQ (B2 (D7 (B6 C (yQ (D8 C (B1 (D7 ?_)))))))));refine H3 C (yQ (C4 ?_))
  exact M5 C C
theorem lnsT_le (ls:List Ln) (k:Nat):(V5 T9 (ls.take k)).length<=(V5 T9 ls).length:=by
 have h:V5 T9 (ls.take k++ls.drop k)=V5 T9 (ls.take k)++V5 T9 (ls.drop k):=by simp only[V5,List.map_append,List.flatten_append]
 rw[List.take_append_drop]at h
 rw[h,C9]
 omega
theorem Qt (l:List Ru) (k:Nat):(P8 T9 (l.take k)).length<=(P8 T9 l).length:=by
 have h:P8 T9 (l.take k++l.drop k)=P8 T9 (l.take k)++P8 T9 (l.drop k):=by simp only[P8,List.map_append,List.flatten_append]
 rw[List.take_append_drop]at h
 rw[h,C9]
 omega
theorem OS (l:List Ru) (hb:∀ r∈l,OK r):PCalls Tryz.prog 40 [P3 l] (.tup [dS (RP l),dI (Lv l)]):=by
 by_cases h1:64<l.length
 . have t1:decide (((l.map X6).length:Int) > 64)=true:=B0 (by rw[A8];omega)
   have e1:Lv l=4:=by rw[Lv,Hw,B9 h1]
   have e2:RP l=[]:=by rw[RP,prnT,B5 (show ¬ Hw (M0 I4) X0 T9 l=0 from fun h=>by rw[show Hw (M0 I4) X0 T9 l=4 from e1]at h;cases h)]
   rw[e1,e2]
   refine L5 Tryz.func40 C Tryz.ntmps40 Tryz.results40 fun B w0=>?_
   refine D7 (H3 C (H3 C (yQ (B2 (D7 (B6 C (yN C (yB C C C C (yQ ?_)))))))));refine B3 ?_;rw[t1];refine G2 C (D7 (H3 C (H3 C (yQ (C4 (A5 ?_))))))
   exact Y7 C C C
 have t1:decide (((l.map X6).length:Int) > 64)=false:=A7 (by rw[A8];omega)
 have hpE:Lv l=if JN (M0 I4) X0 l≠0 then JN (M0 I4) X0 l else if 65536<(P8 T9 l).length then 4 else 0:=by rw[Lv,Hw,B5 h1]
 have hpT:RP l=if Lv l=0 then P8 T9 l else []:=rfl
 have hrz:=@Qu (M0 I4) X0 l
 obtain⟨E,hE⟩:=H8 (Lv l)
 obtain⟨T,hT⟩:=H8 (RP l)
 rw[<-hE]at hpE hpT
 rw[<-hT]at hpT
 rw[<-hE,<-hT]
 clear hE hT
 refine L5 Tryz.func40 C Tryz.ntmps40 Tryz.results40 fun B w0=>?_
 refine D7 (H3 C (H3 C (yQ (B2 (D7 (B6 C (yN C (yB C C C C (yQ ?_)))))))));refine B3 ?_;rw[t1];refine D8 C (B1 (B2 (D7 (H3 C (yQ (B7 ?_))))));refine H9 (fun i:Nat=>⟨89,[(0,.d (P3 l)),(4,.d (dI i))],[],[]⟩) (fun i=>i<=l.length∧JN (M0 I4) X0 (l.drop i)=JN (M0 I4) X0 l) (fun i=>l.length-i) 0 ⟨E7 _,C⟩
  ⟨rfl,⟨E6,E6,D3⟩,D3,D3,rfl⟩ ?_
 rintro i ⟨hi,hI⟩
 rcases D5 i l.length with h|h
 . have u1:decide ((i:Int)<((l.map X6).length:Int))=true:=B0 (by rw[A8];omega)
   obtain⟨r,hx⟩:=DJ h
   have hbr:=hb _ (B8 hx)
   have ex:=ix X6 l i i r rfl hx
   have hw:=I8 ((i:Int)+1) (by omega)
   have c1:=QM r hbr
   rw[KX hx]at hI
   have arith:l.length-(i+1)<l.length-i:=by omega
   by_cases e1:Y8 r=0
   . have t2:(Y8 r != 0)=false:=by simp[e1]
     rw[B9 e1]at hI
     obtain⟨x,hx⟩:=H8 (Y8 r)
     rw[<-hx]at c1 t2
     refine B2 (D7 (B6 C (B6 C (yN C (yB C C C C (yQ (B3 ?_)))))));rw[u1];refine G2 C (B1 (B2 (B7 (D7 (B6 C (B6 C (yW ex (by omega) C C (T3 (ys:=[_,_]) C C C (yC (c1) C C ?_)))))))));refine H3 C (yQ (D7 (B6 C (yB C C C C (yQ (B3 ?_))))));rw[t2];refine D8 C (B1 (B4 (B6 C (yB C C C C (H3 C (yQ (B3 ?_)))))))
     exact⟨i+1,⟨h,hI⟩,arith,C,⟨E6,P2 hw,D3⟩,D3,D3,C⟩
   . have t2:(Y8 r != 0)=true:=by simp[e1]
     rw[B5 e1]at hI
     rw[<-hI,B9 e1]at hpE
     rw[hpE,B5 e1]at hpT
     obtain⟨x,hx⟩:=H8 (Y8 r)
     rw[<-hx]at c1 t2 hpE
     subst hpE hpT
     refine B2 (D7 (B6 C (B6 C (yN C (yB C C C C (yQ (B3 ?_)))))));rw[u1];refine G2 C (B1 (B2 (B7 (D7 (B6 C (B6 C (yW ex (by omega) C C (T3 (ys:=[_,_]) C C C (yC (c1) C C ?_)))))))));refine H3 C (yQ (D7 (B6 C (yB C C C C (yQ (B3 ?_))))));rw[t2];refine G2 C (D7 (B6 C (H3 C (H3 C (yQ (C4 (C3 (A5 (A5 ?_)))))))));refine C3 (A5 ?_)
     exact Y7 C C C
 have u1:decide ((i:Int)<((l.map X6).length:Int))=false:=A7 (by rw[A8];omega)
 rw[J6 h]at hI
 have hz:JN (M0 I4) X0 l=0:=hI.symm
 have hall:=hrz.1 hz
 rw[hz,B5 (by simp)]at hpE
 clear hI hz hrz
 refine B2 (D7 (B6 C (B6 C (yN C (yB C C C C (yQ (B3 ?_)))))));rw[u1];refine D8 C (F9 (D7 (H3 C (yQ (B2 (D7 (H3 C (yQ (B7 ?_)))))))));refine H9 (fun j:Nat=>⟨89,[(0,.d (P3 l)),(6,.d (dS (P8 T9 (l.take j)))),(7,.d (dI j))],[],[]⟩) (fun j=>j<=l.length∧(P8 T9 (l.take j)).length<=65536+j*104) (fun j=>l.length-j) 0 ⟨E7 _,by simp[P8]⟩
  ⟨rfl,⟨E6,E6,E6,D3⟩,D3,D3,rfl⟩ ?_
 rintro j ⟨hj,hjl⟩
 clear u1 h hi
 rcases D5 j l.length with h|h
 rotate_left
 . have u1:decide ((j:Int)<((l.map X6).length:Int))=false:=A7 (by rw[A8];omega)
   rw[E3 h]
   clear hall hb hjl
   obtain⟨r,hr⟩:=H8 (P8 T9 l)
   rw[<-hr]at hpE hpT ⊢
   by_cases h2:65536<r.length
   . have t2:decide ((r.length:Int) > 65536)=true:=B0 (by omega)
     rw[B9 h2]at hpE
     subst hpE
     rw[B5 (by omega)]at hpT
     subst hpT
     refine B2 (D7 (B6 C (B6 C (yN C (yB C C C C (yQ (B3 ?_)))))));rw[u1];refine D8 C (F9 (B2 (D7 (B6 C (N3 C (yB C C C C (yQ (B3 ?_))))))));rw[t2];refine G2 C (D7 (H3 C (H3 C (yQ (C4 (A5 ?_))))))
     exact Y7 C C C
   . have t2:decide ((r.length:Int) > 65536)=false:=A7 (by omega)
     rw[B5 h2]at hpE
     subst hpE
     rw[B9 rfl]at hpT
     subst hpT
     refine B2 (D7 (B6 C (B6 C (yN C (yB C C C C (yQ (B3 ?_)))))));rw[u1];refine D8 C (F9 (B2 (D7 (B6 C (N3 C (yB C C C C (yQ (B3 ?_))))))));rw[t2];refine D8 C (B1 (D7 (B6 C (H3 C (H3 C (yQ (C4 ?_)))))))
     exact Y7 C C C
 have u1:decide ((j:Int)<((l.map X6).length:Int))=true:=B0 (by rw[A8];omega)
 obtain⟨⟨n,ls⟩,hx⟩:∃ a,l[j]? = some a:=⟨_,A4 h⟩
 have hbr:=hb _ (B8 hx)
 have e1:=hall _ (B8 hx)
 have ex:=ix X6 l j j (n,ls) rfl hx
 have hw:=I8 ((j:Int)+1) (by omega)
 have hnx:=Gg hx
 have htl:=Qt l (j+1)
 have arith:l.length-(j+1)<l.length-j:=by omega
 obtain⟨-,hll,hlw⟩:=(GB (tp:=M0 I4) (ce:=X0)).1 e1
 have hll:ls.length<=64:=hll
 have k0:=Iv n
 have hkl:=Nk n
 have hru:Lr T9 (n,ls)=(([111,110,32]++HQ n)++[10])++V5 T9 ls:=by rw[Lr,onT];rfl
 obtain⟨kw,hkw⟩:=H8 (HQ n)
 rw[<-hkw]at k0 hkl hru
 obtain⟨P,hP⟩:=H8 (P8 T9 (l.take j))
 rw[<-hP]at hnx hjl ⊢
 rw[hru]at hnx
 clear hP hru hkw hx hall hb
 have hi64:j<=64:=by omega
 obtain⟨V,hV⟩:∃ V:F6,V=((P++[111,110,32])++kw)++[10]:=⟨_,rfl⟩
 have hVl:V.length<=65536+(j+1)*104:=by rw[hV];simp;omega
 have hnx2:P8 T9 (l.take (j+1))=V++V5 T9 ls:=by rw[hnx,hV];simp
 clear hnx
 refine B2 (D7 (B6 C (B6 C (yN C (yB C C C C (yQ (B3 ?_)))))));rw[u1];refine G2 C (B1 (B2 (B7 (D7 (B6 C ?_)))));refine O2 (l1:=P) (l2:=[111,110,32]) (by simp;omega) C C ?_;refine B6 C (B6 C (yW ex (by omega) C C (Q3 C C (K5 C C (yC (k0) C C ?_)))));refine O2 (l1:=P++[111,110,32]) (l2:=kw) (by simp;omega) C C ?_;refine O2 (l1:=(P++[111,110,32])++kw) (l2:=[10]) (by simp;omega) C C ?_;refine H3 C (yQ (D7 (H3 C (yQ (B7 ?_)))))
 rw[<-hV]
 clear hV k0
 refine H9 (fun k:Nat=>⟨89,[(0,.d (P3 l)),(6,.d (dS (V++V5 T9 (ls.take k)))),(7,.d (dI j)),(8,.d (dI k))],[],[]⟩) (fun k=>k<=ls.length∧(V++V5 T9 (ls.take k)).length<=65536+(j+1)*104) (fun k=>ls.length-k) 0 ⟨E7 _,by simp[V5];omega⟩
  ⟨rfl,⟨E6,.of_eq (G4 (fun x:F6=>SV.d (dS x)) (show V=V++V5 T9 (ls.take 0)by simp[V5])),E6,E6,D3⟩,D3,D3,rfl⟩ ?_
 rintro k ⟨hk,hkl2⟩
 rcases D5 k ls.length with h2|h2
 rotate_left
 . have u2:decide ((k:Int)<((ls.map W9).length:Int))=false:=A7 (by rw[A8];omega)
   rw[E3 h2]at hkl2 ⊢
   have hnl:=hkl2
   rw[<-hnx2]at hnl ⊢
   refine B2 (D7 (B6 C (B6 C (B6 C (yW ex (by omega) C C (Q3 C C (K5 C C (yN C (yB C C C C ?_)))))))));refine yQ (B3 ?_);rw[u2];refine D8 C (F9 (B4 (B6 C (yB C C C C (H3 C (yQ (B3 ?_)))))))
   exact⟨j+1,⟨h,hnl⟩,arith,C,⟨E6,E6,P2 hw,D3⟩,D3,D3,C⟩
 have u2:decide ((k:Int)<((ls.map W9).length:Int))=true:=B0 (by rw[A8];omega)
 obtain⟨⟨a,s,e⟩,hxk⟩:∃ a,ls[k]? = some a:=⟨_,A4 h2⟩
 obtain⟨hba,hbe1,hbe2⟩:=hbr.2 _ (B8 hxk)
 obtain⟨-,hce⟩:=hlw _ (B8 hxk)
 simp only at hba hbe1 hbe2 hce
 have ek:=ix W9 ls k k (a,s,e) rfl hxk
 have hw2:=I8 ((k:Int)+1) (by omega)
 have hel:=(T7.1 hce).1
 have c2:=QI e (by omega) (fun c hc=>(hbe2 c hc).1) fun c hc=>(hbe2 c hc).2
 rw[hce]at c2
 have c3:=wRSide s
 have hpv:=NW hce fun c hc=>(hbe2 c hc).2
 have hsd:(sdW s).length<=6:=by cases s<;>decide
 have hnk:=Ia hxk
 rw[show lnT T9 (a,s,e)=sdW s++32::(a++32::T9 e)from rfl]at hnk
 have hle:=lnsT_le ls (k+1)
 obtain⟨p,hp⟩:=H8 (T9 e)
 rw[<-hp]at c2 hpv hnk
 obtain⟨Q,hQ⟩:=H8 (V++V5 T9 (ls.take k))
 rw[<-hQ]at hkl2 ⊢
 have arith2:ls.length-(k+1)<ls.length-k:=by omega
 have hk64:k<=64:=by omega
 obtain⟨w,hwd⟩:=H8 (sdW s)
 rw[<-hwd]at c3 hsd hnk
 obtain⟨Z,hZ⟩:∃ Z:F6,Z=(((((Q++w)++[32])++a)++[32])++p)++[10]:=⟨_,rfl⟩
 have hZ2:Z=V++V5 T9 (ls.take (k+1)):=by rw[hZ,hnk,hQ];simp
 have hZt:Z.length<=(P8 T9 l).length:=by
  refine D9 ?_ htl
  rw[hnx2,hZ2,C9,C9]
  omega
 clear hQ hwd hp hle hnk htl hxk hlw hbr
 by_cases h3:65536<Z.length
 . have t2:decide ((Z.length:Int) > 65536)=true:=B0 (by omega)
   rw[B9 (by omega)]at hpE
   subst hpE
   rw[B5 (by omega)]at hpT
   subst hpT
   refine B2 (D7 (B6 C (B6 C (B6 C (yW ex (by omega) C C (Q3 C C (K5 C C (yN C (yB C C C C ?_)))))))));refine yQ (B3 ?_);rw[u2];refine G2 C (B1 (B2 (B7 (D7 (B6 C (B6 C (yW ex (by omega) C C (Q3 C C (K5 C C ?_)))))))));refine B6 C (yW ek (by omega) C C (T3 (ys:=[_,_,_]) C C C (yZ (cs:=[_,_,_]) C C (yS (cs':=[_,_,_]) C C C C C (yQ (D7 (X9 C (AL C C C (yC (c2) C C ?_)))))))));refine N9 C (yX C C (yX C C (H3 C (H3 C (yQ (B2 ?_))))));refine J2 Tryz.mixed (by kernel_rfl) ?_;refine B6 C (X9 C (AL C C C (yC (c3) C C (O2 (l1:=Q) (l2:=w) (by omega) C C ?_))));refine O2 (l1:=Q++w) (l2:=[32]) (by simp;omega) C C ?_;refine X9 C (AL C C C ?_);refine O2 (l1:=(Q++w)++[32]) (l2:=a) (by simp;omega) C C ?_;refine O2 (l1:=((Q++w)++[32])++a) (l2:=[32]) (by simp;omega) C C ?_;refine B6 C ?_;refine O2 (l1:=(((Q++w)++[32])++a)++[32]) (l2:=p) (by simp;omega) C C ?_;refine O2 (l1:=((((Q++w)++[32])++a)++[32])++p) (l2:=[10]) (by simp;omega) C C ?_;refine H3 C (yQ (D7 (B6 C (N3 C (yB C C C C (yQ (B3 ?_)))))));rw[<-hZ];rw[t2];refine G2 C (D7 (H3 C (H3 C (yQ (C4 (C3 (A5 (A5 (C3 ?_)))))))));refine C3 (A5 (A5 (C3 (A5 ?_))))
   exact Y7 C C C
 . have t2:decide ((Z.length:Int) > 65536)=false:=A7 (by omega)
   refine B2 (D7 (B6 C (B6 C (B6 C (yW ex (by omega) C C (Q3 C C (K5 C C (yN C (yB C C C C ?_)))))))));refine yQ (B3 ?_);rw[u2];refine G2 C (B1 (B2 (B7 (D7 (B6 C (B6 C (yW ex (by omega) C C (Q3 C C (K5 C C ?_)))))))));refine B6 C (yW ek (by omega) C C (T3 (ys:=[_,_,_]) C C C (yZ (cs:=[_,_,_]) C C (yS (cs':=[_,_,_]) C C C C C (yQ (D7 (X9 C (AL C C C (yC (c2) C C ?_)))))))));refine N9 C (yX C C (yX C C (H3 C (H3 C (yQ (B2 ?_))))));refine J2 Tryz.mixed (by kernel_rfl) ?_;refine B6 C (X9 C (AL C C C (yC (c3) C C (O2 (l1:=Q) (l2:=w) (by omega) C C ?_))));refine O2 (l1:=Q++w) (l2:=[32]) (by simp;omega) C C ?_;refine X9 C (AL C C C ?_);refine O2 (l1:=(Q++w)++[32]) (l2:=a) (by simp;omega) C C ?_;refine O2 (l1:=((Q++w)++[32])++a) (l2:=[32]) (by simp;omega) C C ?_;refine B6 C ?_;refine O2 (l1:=(((Q++w)++[32])++a)++[32]) (l2:=p) (by simp;omega) C C ?_;refine O2 (l1:=((((Q++w)++[32])++a)++[32])++p) (l2:=[10]) (by simp;omega) C C ?_;refine H3 C (yQ (D7 (B6 C (N3 C (yB C C C C (yQ (B3 ?_)))))));rw[<-hZ];rw[t2];refine D8 C (B1 (B4 (B6 C (yB C C C C (H3 C (yQ (B3 ?_)))))))
   exact⟨k+1,⟨h2,by rw[<-hZ2];omega⟩,arith2,rfl,⟨E6,.of_eq (G4 (fun x=>SV.d (dS x)) hZ2),E6,P2 hw2,D3⟩,D3,D3,rfl⟩
theorem prs_all {s:F6} (hs:s.length<=2500∨65536<s.length):(X7 (M0 I4) At s).1.length<=1000000 ∧ ∀ r∈(X7 (M0 I4) At s).1,OK r:=by
 obtain⟨⟨a,n,e⟩,h⟩:=H8 (X7 (M0 I4) At s)
 rw[<-h]
 have key:e=0∨a=[]:=by
  unfold X7 at h
  by_cases h0:65536<s.length
  . rw[B9 h0]at h;cases h;exact .inr C
  . rw[B5 h0]at h
    obtain⟨⟨x,y⟩,hG⟩:=H8 (CO (Y5 (M0 I4) At) 0 [] (R7 10 s))
    rw[<-hG]at h
    cases y with
    | some i=>
     simp only at h
     have h3:=G4 (fun p=>p.1) h
     exact .inr h3
    | none=>
     simp only at h
     by_cases h4:64<x.length∨(x.any fun r=>decide (64<r.2.length))=true
     . rw[B9 h4]at h;cases h;exact .inr C
     . rw[B5 h4]at h;cases h;exact .inl C
 rcases key with rfl|rfl
 . rcases hs with hs|hs
   . have:=prs_bd hs h.symm
     exact⟨D9 this.1 (by omega),this.2⟩
   . rw[X7,B9 hs]at h;cases h
 . exact⟨by simp,fun r hr=>by cases hr⟩
theorem SD (s:F6) (l:List Ru):PCalls Tryz.prog 7 [dS s,P3 l] (.d (dB true)):=by
 have k0:=wAwake
 have k1:=QS [l] (by simp)
 simp only[List.map_cons,List.map_nil,List.any_cons,List.any_nil,Bool.or_false]at k1
 cases hg:HW l with
 | true=>
  rw[hg]at k1
  refine L5 Tryz.func7 C Tryz.ntmps7 Tryz.results7 fun B w0=>?_
  refine D7 (H3 C (yQ (B2 (D7 (B6 C ?_)))));refine yR (es:=[[_]]) C C C C C ?_;refine yC (k1) C C (B6 C (yO C (yO C (yO C (yO C (yO C (yO C (yO C (yO C ?_)))))))));refine L0 C C (yQ (G2 C (D7 (yC (k0) C C (H3 C (yQ (C4 (A5 ?_))))))))
  exact M5 C C
 | false=>
 rw[hg]at k1
 obtain⟨hl1,hl2⟩:=grt_bdR hg
 by_cases hm:2500<s.length∧s.length<=65536
 . have t1:decide ((s.length:Int) > 2500)=true:=B0 (by omega)
   have t2:decide ((s.length:Int)<=65536)=true:=B0 (by omega)
   refine L5 Tryz.func7 C Tryz.ntmps7 Tryz.results7 fun B w0=>?_
   refine D7 (H3 C (yQ (B2 (D7 (B6 C ?_)))));refine yR (es:=[[_]]) C C C C C ?_;refine yC (k1) C C (B6 C (B6 C (N3 C (yB C C C C (B6 C ?_)))));rw[t1];refine B6 C (N3 C (yB C C C C (L0 C C (K9 C C (yQ (B3 ?_))))));rw[t2];refine G2 C (D7 (yC (k0) C C (H3 C (yQ (C4 (A5 ?_))))))
   exact M5 C C
 have hs:s.length<=2500∨65536<s.length:=by omega
 obtain⟨hp1,hp2⟩:=prs_all hs
 have c1:=Ds s
 have c2:=QJ s
 have c3:=QO l hl1 hl2
 have c4:=OS l hl2
 obtain⟨⟨R1,R2,R3⟩,hR⟩:=H8 (X7 (M0 I4) At s)
 rw[<-hR]at c1 c2 hp1 hp2
 simp only at c1 c2 hp1 hp2
 have e1:=wSame R1 R1 hp1 hp2
 rw[B0 rfl]at e1
 obtain⟨T,hT⟩:=H8 (RP l)
 obtain⟨E,hE⟩:=H8 (Lv l)
 rw[<-hT,<-hE]at c3 c4
 have u1:(R2==R2)=true:=by simp
 have u2:(R3==R3)=true:=by simp
 have u3:(T==T)=true:=by simp
 have u4:(E==E)=true:=by simp
 clear hR hT hE hp1 hp2 hl2 hg hm
 refine L5 Tryz.func7 C Tryz.ntmps7 Tryz.results7 fun B w0=>?_
 rcases hs with hs|hs
 . have t1:decide ((s.length:Int) > 2500)=false:=A7 (by omega)
   refine D7 (H3 C (yQ (B2 (D7 (B6 C ?_)))));refine yR (es:=[[_]]) C C C C C ?_;refine yC (k1) C C (B6 C (B6 C (N3 C (yB C C C C (B6 C ?_)))));rw[t1];refine yO C (yO C (yO C (K9 C C (K9 C C (yQ (D8 C (B1 (D7 (B6 C ?_)))))))));refine yC (c1) C C (N9 C (yX C C (yX C C (yX C C (H3 C (H3 C (H3 C (yQ (D7 ?_)))))))));refine B6 C (yC (c2) C C (N9 C (yX C C (yX C C (yX C C (H3 C (H3 C (H3 C (yQ ?_)))))))));refine D7 (B6 C (yC (c3) C C (N9 C (yX C C (yX C C (H3 C (H3 C (yQ (D7 ?_)))))))));refine B6 C (yC (c4) C C (N9 C (yX C C (yX C C (H3 C (H3 C (yQ (D7 (B6 C ?_)))))))));refine B6 C (yC (e1) C C (B6 C (B6 C (B6 C (yB C C C C (L0 C C (B6 C ?_)))))));rw[u1];refine B6 C (B6 C (yB C C C C (L0 C C (B6 C ?_))));rw[u2];refine B6 C (B6 C (N6 C C (L0 C C (B6 C ?_))));rw[u3];refine B6 C (B6 C (yB C C C C (L0 C C (B6 C ?_))));rw[u4];refine yC (k0) C C (L0 C C (H3 C (yQ (C4 ?_))))
   exact M5 C C
 . have t1:decide ((s.length:Int) > 2500)=true:=B0 (by omega)
   have t2:decide ((s.length:Int)<=65536)=false:=A7 (by omega)
   refine D7 (H3 C (yQ (B2 (D7 (B6 C ?_)))));refine yR (es:=[[_]]) C C C C C ?_;refine yC (k1) C C (B6 C (B6 C (N3 C (yB C C C C (B6 C ?_)))));rw[t1];refine B6 C (N3 C (yB C C C C (L0 C C (K9 C C (yQ (B3 ?_))))));rw[t2];refine D8 C (B1 (D7 (B6 C (yC (c1) C C (N9 C (yX C C (yX C C (yX C C (H3 C ?_)))))))));refine H3 C (H3 C (yQ (D7 (B6 C (yC (c2) C C (N9 C (yX C C (yX C C (yX C C ?_)))))))));refine H3 C (H3 C (H3 C (yQ (D7 (B6 C (yC (c3) C C (N9 C (yX C C (yX C C ?_)))))))));refine H3 C (H3 C (yQ (D7 (B6 C (yC (c4) C C (N9 C (yX C C (yX C C (H3 C ?_)))))))));refine H3 C (yQ (D7 (B6 C (B6 C (yC (e1) C C (B6 C (B6 C (B6 C (yB C C C C ?_)))))))));refine L0 C C (B6 C ?_);rw[u1];refine B6 C (B6 C (yB C C C C (L0 C C (B6 C ?_))));rw[u2]
   refine B6 C (B6 C (N6 C C (L0 C C (B6 C ?_))));rw[u3];refine B6 C (B6 C (yB C C C C (L0 C C (B6 C ?_))));rw[u4]
   refine yC (k0) C C (L0 C C (H3 C (yQ (C4 ?_))))
   exact M5 C C
end Go.Proofs.YtddfimjiihggmaaGreatDoor