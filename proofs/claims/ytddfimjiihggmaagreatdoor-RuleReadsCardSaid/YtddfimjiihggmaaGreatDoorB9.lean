/- Walk: charts. -/
import Derived.Test.YtddfimjiihggmaaGreatDoorB8
set_option maxHeartbeats 16000000
set_option maxRecDepth 20000
namespace Go.Proofs.YtddfimjiihggmaaGreatDoor
open Go.RowKit Px
theorem le_nlt (a b:F6):(lt8 a b||a==b) = !lt8 b a:=by
 show(ltS a b||a==b) = !ltS b a
 rcases X3 a b with h|h|h
 . rw[h,Z4 h];rfl
 . subst h;rw[U2];simp
 . rw[h,Z4 h]
   have:=ltS_ne h
   simp[Ne.symm this]
def acJ (l:List Ac) (k:Nat) (a:Ac):Int:=
 if acE a.1≠0 then 3 else if a.2<1∨5<a.2 then 7
 else if k≠0∧lt8 ((l[k-1]?).getD ([],0)).1 a.1=false then 8
 else if (l.take k).any (fun b=>Ht a.1 b.1 && !(a.2==b.2))=true then 18 else 0
def chJ (l:List Ac):Nat->Nat->Int
 | 0,_=>0
 | n+1,k=>match l[k]? with
  | none=>0
  | some a=>if acJ l k a=0 then chJ l n (k+1)else acJ l k a
def ctE (l:List Ac):Int:=if 256<l.length then 4 else chJ l l.length 0
theorem Sm {l:List Ac} {k:Nat} {a:Ac} (h:l[k]? = some a):chJ l (l.length-k) k=if acJ l k a=0 then chJ l (l.length-(k+1)) (k+1)else acJ l k a:=by
 have h1:=(A6.1 h).1
 rw[show l.length-k=(l.length-(k+1))+1 by omega,chJ,h]
theorem LT {α:Type} {b:α->Bool} {l:List α} {m:Nat} (h:m ≥ l.length) (h0:∀ (j:Nat) x,j<m->l[j]? = some x->b x=false):l.any b=false:=by
 rw[List.any_eq_false]
 intro x hx
 obtain⟨j,hj⟩:=List.mem_iff_getElem?.1 hx
 rw[h0 j x (by have:=(A6.1 hj).1;omega) hj]
 simp
theorem OX (l:List Ac) (hl:l.length<=1000000) (hb:∀ a∈l,a.1.length<=1000000):PCalls Tryz.prog 33 [.sl 2 (l.map DM)] (.d (dI (ctE l))):=by
 obtain⟨E,hE⟩:=H8 (ctE l)
 rw[<-hE]
 unfold ctE at hE
 by_cases h0:256<l.length
 . have t1:decide (((l.map DM).length:Int) > 256)=true:=B0 (by rw[A8];omega)
   rw[B9 h0]at hE
   subst hE
   refine L5 Tryz.func33 C Tryz.ntmps33 Tryz.results33 fun B w0=>?_
   refine D7 (H3 C (yQ (B2 (D7 (B6 C (yN C (yB C C C C (yQ (B3 ?_)))))))))
   rw[t1];refine G2 C ?_;refine B2 ?_;refine B4 ?_;refine H3 C ?_;refine yQ ?_;refine C4 ?_;refine A5 ?_
   exact M5 C C
 have t1:decide (((l.map DM).length:Int) > 256)=false:=A7 (by rw[A8];omega)
 rw[B5 h0]at hE
 refine L5 Tryz.func33 C Tryz.ntmps33 Tryz.results33 fun B w0=>?_
 refine D7 (H3 C (yQ (B2 (D7 (B6 C (yN C (yB C C C C (yQ (B3 ?_)))))))))
 rw[t1];refine D8 C ?_;refine B1 ?_;refine B2 ?_;refine B2 ?_;refine B4 ?_;refine B6 C ?_;refine yN C ?_;refine B6 C ?_;refine yQ ?_;refine B7 ?_
 refine H9 (fun k:Nat=>⟨67,[(0,.d (.sl 2 (l.map DM))),(10,.d (.sl 2 (l.map DM))),(11,.d (dI l.length)),(12,.d (dI k))],[],[]⟩) (fun k=>k<=l.length∧chJ l (l.length-k) k=E) (fun k=>l.length-k) 0 ⟨E7 _,hE.symm⟩
  ⟨rfl,⟨E6,E6,FN (by simp),E6,D3⟩,D3,D3,rfl⟩ ?_
 rintro k ⟨hk,hI⟩
 clear hE
 rcases D5 k l.length with h|h
 rotate_left
 . have u1:decide ((k:Int)<(l.length:Int))=false:=A7 (by omega)
   have:E=0:=by rw[<-hI,Nat.sub_eq_zero_of_le h];rfl
   subst this
   refine D7 (yB C C C C (yQ (B2 ?_)));rw[u1];refine D8 C (F9 (D7 (H3 C (yQ (C4 ?_)))))
   exact M5 C C
 have u1:decide ((k:Int)<(l.length:Int))=true:=B0 (by omega)
 obtain⟨⟨a0,a1⟩,ha⟩:∃ a,l[k]? = some a:=⟨_,A4 h⟩
 have ex:=ix DM l k k (a0,a1) rfl ha
 have hw:=I8 ((k:Int)+1) (by omega)
 have hla:=hb _ (B8 ha)
 simp only at hla
 have c1:=QZ a0 hla
 rw[Sm ha]at hI
 have arith:l.length-(k+1)<l.length-k:=by omega
 obtain⟨J,hJ⟩:=H8 (acJ l k (a0,a1))
 rw[<-hJ]at hI
 unfold acJ at hJ
 simp only at hJ
 by_cases e1:acE a0=0
 rotate_left
 . rw[B9 e1]at hJ
   rw[hJ,B5 (by omega)]at hI
   subst hI
   have t2:(acE a0 != 0)=true:=by simp[e1]
   obtain⟨x,hx⟩:=H8 (acE a0)
   rw[<-hx]at c1 t2
   refine D7 (yB C C C C (yQ (B2 ?_)));rw[u1];refine G2 C (B1 (B2 (B7 (D7 (B6 C (yW ex (by omega) C C (T3 (ys:=[_,_]) C C C (yZ (cs:=[_,_]) C C (H3 C ?_)))))))));refine yS (cs':=[_,_]) C C C C C (yQ (B2 (B7 (D7 (X9 C (AL C C C (yC (c1) C C (yB C C C C (H3 C ?_)))))))));refine yQ (B3 ?_)
   rw[t2];refine G2 C ?_;refine B2 ?_;refine B4 ?_;refine H3 C ?_;refine yQ ?_;refine C4 ?_;refine C3 ?_;refine A5 ?_;refine C3 ?_;refine A5 ?_;refine A5 ?_
   refine C3 ?_;refine A5 ?_
   exact M5 C C
 rw[e1]at c1
 rw[B5 (by simp[e1])]at hJ
 by_cases e2:a1<1∨5<a1
 . rw[B9 e2]at hJ
   rw[hJ,B5 (by omega)]at hI
   subst hI
   by_cases e3:a1<1
   . have t3:decide (a1<1)=true:=B0 e3
     refine D7 (yB C C C C (yQ (B2 ?_)));rw[u1];refine G2 C (B1 (B2 (B7 (D7 (B6 C (yW ex (by omega) C C (T3 (ys:=[_,_]) C C C (yZ (cs:=[_,_]) C C (H3 C ?_)))))))));refine yS (cs':=[_,_]) C C C C C (yQ (B2 (B7 (D7 (X9 C (AL C C C (yC (c1) C C (yB C C C C (H3 C ?_)))))))));refine yQ (D8 C (D7 (X9 C (AL C C C (yB C C C C (B6 C ?_))))));rw[t3];refine yO C (yO C (yO C (L0 C C (H3 C (yQ (G2 C (D7 (H3 C (yQ ?_)))))))));refine C4 (C3 (A5 (C3 (A5 (A5 (C3 (A5 ?_)))))))
     exact M5 C C
   . have t3:decide (a1<1)=false:=A7 e3
     have t4:decide (a1 > 5)=true:=B0 (by omega)
     refine D7 (yB C C C C (yQ (B2 ?_)));rw[u1];refine G2 C (B1 (B2 (B7 (D7 (B6 C (yW ex (by omega) C C (T3 (ys:=[_,_]) C C C (yZ (cs:=[_,_]) C C (H3 C ?_)))))))));refine yS (cs':=[_,_]) C C C C C (yQ (B2 (B7 (D7 (X9 C (AL C C C (yC (c1) C C (yB C C C C (H3 C ?_)))))))));refine yQ (D8 C (D7 (X9 C (AL C C C (yB C C C C (B6 C ?_))))));rw[t3];refine X9 C (AL C C C (yB C C C C (K9 C C (H3 C (yQ (B3 ?_))))));rw[t4];refine G2 C (D7 (H3 C (yQ (C4 (C3 (A5 (C3 (A5 (A5 ?_)))))))));refine C3 (A5 ?_)
     exact M5 C C
 have t3:decide (a1<1)=false:=A7 (by omega)
 have t4:decide (a1 > 5)=false:=A7 (by omega)
 rw[B5 e2]at hJ
 have inner:∀ (B:Nat) (w0:Cx) (Q:Exit->PS->Prop),True:=fun _ _ _=>trivial
 clear inner
 rcases H7 k with hk0|hk0
 . subst hk0
   rw[B5 (by simp),B5 (by simp)]at hJ
   rw[hJ,B9 rfl]at hI
   have t5:decide (((0:Nat):Int) > 0)=false:=rfl
   refine D7 (yB C C C C (yQ (B2 ?_)));rw[u1];refine G2 C (B1 (B2 (B7 (D7 (B6 C (yW ex (by omega) C C (T3 (ys:=[_,_]) C C C (yZ (cs:=[_,_]) C C (H3 C ?_)))))))));refine yS (cs':=[_,_]) C C C C C (yQ (B2 (B7 (D7 (X9 C (AL C C C (yC (c1) C C (yB C C C C (H3 C ?_)))))))));refine yQ (D8 C (D7 (X9 C (AL C C C (yB C C C C (B6 C ?_))))));rw[t3];refine X9 C (AL C C C (yB C C C C (K9 C C (H3 C (yQ (B3 ?_))))));rw[t4];refine D8 C (B2 ?_);refine J2 Tryz.mixed (by kernel_rfl) ?_;refine B6 C (yB C C C C (B6 C (yO C (yO C (yO C (yO C (yO C (yO C (yO C ?_)))))))));refine yO C (yO C (K9 C C (H3 C (yQ (D8 C (B1 (D7 (B6 C (B6 C ?_)))))))));refine yDh (by omega) (by simp) C C ?_;refine yN C (B6 C (yQ (B7 ?_)));rw[t5]
   refine H9 (fun m:Nat=>⟨67,[(0,.d (.sl 2 (l.map DM))),(10,.d (.sl 2 (l.map DM))),(11,.d (dI l.length)),(12,.d (dI ((0:Nat):Int))),(48,.d (dI 0)),(49,.d (dI 0))],[],[]⟩) (fun m=>m=0) (fun _=>0) 0 C
    ⟨rfl,⟨E6,E6,E6,E6,FN (by simp),E6,D3⟩,D3,D3,rfl⟩ ?_
   rintro m rfl
   refine D7 (yB C C C C (yQ (B2 (D8 C (F9 (B4 (yB C C C C (B6 C (yQ ?_)))))))));refine B3 ?_
   exact⟨0+1,⟨h,hI⟩,arith,C,⟨E6,E6,E6,P2 hw,D3⟩,D3,D3,C⟩
 have t5:decide ((k:Int) > 0)=true:=B0 (by omega)
 obtain⟨⟨p0,p1⟩,hp⟩:∃ a,l[k-1]? = some a:=⟨_,A4 (by omega)⟩
 have ep:=ix DM l ((k:Int)-1) (k-1) (p0,p1) (by omega) hp
 have hwk:=I8 ((k:Int)-1) (by omega)
 have hle:=le_nlt a0 p0
 rw[hp]at hJ
 simp only[Option.getD_some]at hJ
 cases hlt:lt8 p0 a0 with
 | false=>
  rw[hlt]at hle
  rw[B9 ⟨by omega,hlt⟩]at hJ
  rw[hJ,B5 (by omega)]at hI
  subst hI
  refine D7 (yB C C C C (yQ (B2 ?_)));rw[u1];refine G2 C (B1 (B2 (B7 (D7 (B6 C (yW ex (by omega) C C (T3 (ys:=[_,_]) C C C (yZ (cs:=[_,_]) C C (H3 C ?_)))))))));refine yS (cs':=[_,_]) C C C C C (yQ (B2 (B7 (D7 (X9 C (AL C C C (yC (c1) C C (yB C C C C (H3 C ?_)))))))));refine yQ (D8 C (D7 (X9 C (AL C C C (yB C C C C (B6 C ?_))))));rw[t3];refine X9 C (AL C C C (yB C C C C (K9 C C (H3 C (yQ (B3 ?_))))));rw[t4];refine D8 C (B2 ?_);refine J2 Tryz.mixed (by kernel_rfl) ?_;refine B6 C (yB C C C C (B6 C ?_));rw[t5];refine X9 C (AL C C C (B6 C (B6 C (yB C C C C ?_))));rw[hwk];refine yW ep (by omega) C C (Q3 C C (K5 C C (yBsm C C (L0 C C (H3 C (yQ (B3 ?_)))))));rw[hle];refine G2 C (D7 (H3 C (yQ (C4 (C3 (A5 (C3 (A5 (A5 ?_)))))))));refine C3 (A5 ?_)
  exact M5 C C
 | true=>
 rw[hlt]at hle
 rw[B5 (fun h=>by rw[hlt]at h;exact G5 h.2 (by simp))]at hJ
 obtain⟨P,hP⟩:=H8 (l.take k)
 have hPl:P.length=k:=by rw[hP,F4];omega
 have htk:(l.map DM).take (k:Int).toNat=P.map DM:=by rw[H1,hP,List.map_take]
 rw[<-hP]at hJ
 refine D7 (yB C C C C (yQ (B2 ?_)));rw[u1];refine G2 C (B1 (B2 (B7 (D7 (B6 C (yW ex (by omega) C C (T3 (ys:=[_,_]) C C C (yZ (cs:=[_,_]) C C (H3 C ?_)))))))));refine yS (cs':=[_,_]) C C C C C (yQ (B2 (B7 (D7 (X9 C (AL C C C (yC (c1) C C (yB C C C C (H3 C ?_)))))))));refine yQ (D8 C (D7 (X9 C (AL C C C (yB C C C C (B6 C ?_))))));rw[t3];refine X9 C (AL C C C (yB C C C C (K9 C C (H3 C (yQ (B3 ?_))))));rw[t4];refine D8 C (B2 ?_);refine J2 Tryz.mixed (by kernel_rfl) ?_;refine B6 C (yB C C C C (B6 C ?_));rw[t5];refine X9 C (AL C C C (B6 C (B6 C (yB C C C C ?_))));rw[hwk];refine yW ep (by omega) C C (Q3 C C (K5 C C (yBsm C C (L0 C C (H3 C (yQ (B3 ?_)))))));rw[hle];refine D8 C (B1 (D7 (B6 C (B6 C ?_))));refine yDh (by omega) (by rw[A8];omega) C C ?_;refine yN C (B6 C (yQ (B7 ?_)));rw[htk]
 refine H9 (fun m:Nat=>⟨67,[(0,.d (.sl 2 (l.map DM))),(10,.d (.sl 2 (l.map DM))),(11,.d (dI l.length)),(12,.d (dI k)),(4,.bx 4 0),(47,.d (.sl 2 (P.map DM))),(48,.d (dI k)),(49,.d (dI m))],[(4,[.d (dS a0),.d (dI a1)])],[]⟩) (fun m=>m<=k ∧ ∀ (j:Nat) x,j<m->P[j]? = some x->(Ht a0 x.1 && !(a1==x.2))=false) (fun m=>k-m) 0 ⟨E7 _,fun j x hj=>G5 hj (Nat.not_lt_zero _)⟩
  ⟨rfl,⟨E6,E6,E6,E6,E6,E6,.of_eq (G4 (fun n:Nat=>SV.d (dI n)) (by simp[hPl])),E6,D3⟩,⟨⟨_,rfl,H5 _⟩,D3⟩,D3,rfl⟩ ?_
 rintro m ⟨hm,hno⟩
 rcases D5 m k with h2|h2
 rotate_left
 . have u2:decide ((m:Int)<(k:Int))=false:=A7 (by omega)
   rw[LT (by omega) hno,B5 (by simp)]at hJ
   rw[hJ,B9 rfl]at hI
   refine D7 (yB C C C C (yQ (B2 ?_)));rw[u2];refine D8 C (F9 (B4 (yB C C C C (B6 C (yQ (B3 ?_))))))
   exact⟨k+1,⟨h,hI⟩,arith,C,⟨E6,E6,E6,P2 hw,D3⟩,D3,D3,C⟩
 have u2:decide ((m:Int)<(k:Int))=true:=B0 (by omega)
 obtain⟨⟨b0,b1⟩,hbm⟩:∃ a,P[m]? = some a:=⟨_,A4 (by omega)⟩
 have eb:=ix DM P m m (b0,b1) rfl hbm
 have hw2:=I8 ((m:Int)+1) (by omega)
 have c2:=Pz a0 b0
 have arith2:k-(m+1)<k-m:=by omega
 have nxt:(Ht a0 b0 && !(a1==b1))=false->∀ (j:Nat) x,j<m+1->P[j]? = some x->(Ht a0 x.1 && !(a1==x.2))=false:=fun he j x hj hx=>by
  rcases D5 j m with h3|h3
  . exact hno j x h3 hx
  . obtain rfl:j=m:=by omega
    rw[hbm]at hx;cases hx;exact he
 have bad:(Ht a0 b0 && !(a1==b1))=true->E=18:=fun he=>by
  rw[B9 (List.any_eq_true.2 ⟨_,B8 hbm,he⟩)]at hJ
  rw[hJ,B5 (by omega)]at hI
  exact hI.symm
 clear hJ hI hno hP ep hle htk
 cases hu:Ht a0 b0 with
 | false=>
  rw[hu]at c2 nxt
  have hn2:=nxt (by rfl)
  refine D7 (yB C C C C (yQ (B2 ?_)));rw[u2];refine G2 C (B1 (B2 (B7 (D7 (yW eb (by omega) C C (T3 (ys:=[_,_]) C C C (yZ (cs:=[_,_]) C C (yS (cs':=[_,_]) C C C C C (yQ ?_)))))))));refine D7 (X9 C (AL C C C (X9 C (AL C C C (yC (c2) C C (B6 C (yO C (yO C (yO C ?_)))))))));refine yO C (yO C (K9 C C (yQ (D8 C (B1 (B4 (yB C C C C (B6 C (yQ ?_)))))))));refine B3 ?_
  exact⟨m+1,⟨h2,hn2⟩,arith2,C,⟨E6,E6,E6,E6,E6,E6,E6,P2 hw2,D3⟩,⟨⟨_,C,H5 _⟩,D3⟩,D3,C⟩
 | true=>
  rw[hu]at c2 nxt bad
  by_cases he:a1=b1
  . have t6:(a1 != b1)=false:=by simp[he]
    have hn2:=nxt (by simp[he])
    refine D7 (yB C C C C (yQ (B2 ?_)));rw[u2];refine G2 C (B1 (B2 (B7 (D7 (yW eb (by omega) C C (T3 (ys:=[_,_]) C C C (yZ (cs:=[_,_]) C C (yS (cs':=[_,_]) C C C C C (yQ ?_)))))))));refine D7 (X9 C (AL C C C (X9 C (AL C C C (yC (c2) C C (B6 C (X9 C (AL C C C (X9 C ?_)))))))));refine AL C C C (yB C C C C (L0 C C (yQ (B3 ?_))));rw[t6];refine D8 C (B1 (B4 (yB C C C C (B6 C (yQ (B3 ?_))))))
    exact⟨m+1,⟨h2,hn2⟩,arith2,C,⟨E6,E6,E6,E6,E6,E6,E6,P2 hw2,D3⟩,⟨⟨_,C,H5 _⟩,D3⟩,D3,C⟩
  . have t6:(a1 != b1)=true:=by simp[he]
    have hE:=bad (by simp[he])
    subst hE
    refine D7 (yB C C C C (yQ (B2 ?_)));rw[u2];refine G2 C (B1 (B2 (B7 (D7 (yW eb (by omega) C C (T3 (ys:=[_,_]) C C C (yZ (cs:=[_,_]) C C (yS (cs':=[_,_]) C C C C C (yQ ?_)))))))));refine D7 (X9 C (AL C C C (X9 C (AL C C C (yC (c2) C C (B6 C (X9 C (AL C C C (X9 C ?_)))))))));refine AL C C C (yB C C C C (L0 C C (yQ (B3 ?_))));rw[t6];refine G2 C (D7 (H3 C (yQ (C4 (C3 (A5 (A5 (C3 (C3 ?_)))))))));refine A5 (A5 (C3 (A5 ?_)))
    exact M5 C C
abbrev dKd (kw:F6) (nms:List F6) (sg:F6):List DV:=[dS kw,BF nms,dS sg]
def DP (sg s:F6):Bool:=(s==[42] && !sg.contains 42)||(s==[43] && !sg.contains 43)
theorem luE_eq (n:Int) (kw:F6) (nms:List F6) (sg:F6) (ch:List Ac) (x:Ln):luE nf (n,kw,nms,sg) ch x=if (R7 46 x.1).any (DP sg)=true then 9 else if (nf x.2.2).any (fun c=>!nms.contains c.1)=true then 6 else if (Pb x.1 ch).2 then 0 else 6:=rfl
theorem wCl1 (kw:F6) (nms:List F6) (sg:F6) (hn:nms.length<=1000000):∀ xs r,phC (fun c=>!nms.contains c.1) xs r->PCalls Tryz.prog 109 (xs++[dKd kw nms sg].map DV.ref) r:=by
 rintro _ _ ⟨⟨c0,c1⟩,rfl,rfl⟩
 show PCalls Tryz.prog 109 [.agg [dS c0,dS c1],.ref [dS kw,BF nms,dS sg]] _
 have k1:=wContS nms c0 hn
 obtain⟨b,hb⟩:=H8 (nms.contains c0)
 rw[<-hb]at k1
 show PCalls Tryz.prog 109 [.agg [dS c0,dS c1],.ref [dS kw,BF nms,dS sg]] (.d (dB (!nms.contains c0)))
 rw[<-hb]
 refine L5 Tryz.func109 C Tryz.ntmps109 Tryz.results109 fun B w0=>?_
 refine Bq 1 C ?_;refine D7 (yK (cs:=[_,_]) C C (H3 C (yQ (D7 (Q3 C C (K5 C C (X9 C (AL C C C (yC (k1) C C ?_)))))))));refine yU C C C (H3 C (yQ (C4 ?_)))
 exact M5 C C
theorem Lm (n:Int) (kw:F6) (nms:List F6) (sg:F6) (ch:List Ac) (x:Ln) (hn:nms.length<=1000000) (hx:bdN x) (h0:X0 x.2.2=0):PCalls Tryz.prog 57 [.agg (dKd kw nms sg),.agg (W9 x),.sl 2 (ch.map DM)] (.d (dI (luE nf (n,kw,nms,sg) ch x))):=by
 obtain⟨a,c,e⟩:=x
 obtain⟨b1,b2,b3⟩:=hx
 simp only at b1 b2 b3 h0
 obtain⟨E,hE⟩:=H8 (luE nf (n,kw,nms,sg) ch (a,c,e))
 rw[<-hE]
 rw[luE_eq]at hE
 simp only at hE
 have k1:=QB a 46 b1
 have hsl:(R7 46 a).length<=1000001:=D9 (Ah 46 a) (by omega)
 have k2:=GU e b2 fun c hc=>(b3 c hc).2
 rw[h0,Pu,B9 h0]at k2
 have hnl:=Ek e
 have k3:=wHasC (fun c=>!nms.contains c.1) (nf e) (by have:=(T7.1 h0).1;omega)
 have k4:=wFindA ch a
 have k5:=IG sg 42
 have k6:=IG sg 43
 have h1:=wCl1 kw nms sg hn
 obtain⟨SS,hS⟩:=H8 (R7 46 a)
 rw[<-hS]at hE k1 hsl
 obtain⟨N,hN⟩:=H8 (nf e)
 rw[<-hN]at hE k2 k3
 obtain⟨⟨f0,f1⟩,hf⟩:=H8 (Pb a ch)
 obtain⟨f00,f01⟩:=f0
 rw[<-hf]at hE k4
 simp only at hE k4
 clear hS hN hf h0 b1 b2 b3 hnl
 refine L5 Tryz.func57 C Tryz.ntmps57 Tryz.results57 fun B w0=>?_
 refine D7 (yK (cs:=[_,_,_]) C C (yK (cs:=[_,_,_]) C C (H3 C (yQ (B2 (D7 (X9 C (AL C C C (yC (k1) C C ?_)))))))));refine yN C (B6 C (yQ (B7 ?_)));refine H9 (fun i:Nat=>⟨53,[(2,.d (.sl 2 (ch.map DM))),(3,.bx 3 0),(4,.bx 4 0),(15,.d (.sl 1 (SS.map fun t=>[dS t]))),(16,.d (dI SS.length)),(17,.d (dI i))],[(3,[.d (dS kw),.d (BF nms),.d (dS sg)]),(4,[.d (dS a),.d (dB c),.d (.sl 2 (e.map dCf))])],[]⟩) (fun i=>i<=SS.length ∧ ∀ (j:Nat) x,j<i->SS[j]? = some x->DP sg x=false) (fun i=>SS.length-i) 0 ⟨E7 _,fun j x hj=>G5 hj (Nat.not_lt_zero _)⟩
  ⟨rfl,⟨E6,E6,E6,E6,FN (by simp),E6,D3⟩,⟨⟨_,rfl,H5 _⟩,⟨_,rfl,H5 _⟩,D3⟩,D3,rfl⟩ ?_
 rintro i ⟨hi,hno⟩
 rcases D5 i SS.length with h|h
 . have u1:decide ((i:Int)<(SS.length:Int))=true:=B0 (by omega)
   obtain⟨s,hs⟩:=DJ h
   have es:=ix (fun t=>[dS t]) SS i i s rfl hs
   have hw:=I8 ((i:Int)+1) (by omega)
   have arith:SS.length-(i+1)<SS.length-i:=by omega
   have bad:DP sg s=true->E=9:=fun hb=>by
    rw[B9 (List.any_eq_true.2 ⟨s,B8 hs,hb⟩)]at hE
    exact hE
   have nxt:DP sg s=false->∀ (j:Nat) x,j<i+1->SS[j]? = some x->DP sg x=false:=fun hb=>BV hs hno hb
   clear hE hno
   by_cases h42:s=[42]
   . subst h42
     have e1:DP sg [42] = !sg.contains 42:=by simp[DP]
     rw[e1]at bad nxt
     cases hc:sg.contains 42 with
     | true=>
      rw[hc]at k5 nxt
      have hn2:=nxt rfl
      refine D7 (yB C C C C (yQ (B2 ?_)));rw[u1];refine G2 C (B1 (B2 (B7 (D7 (yW es (by omega) C C (K5 C C (H3 C (yQ (D7 ?_)))))))));refine B6 C (N6 C C (B6 C (yO C (yO C (L0 C C (B6 C (X9 C (AL C C C (B6 C ?_)))))))));refine yC (k5) C C (yU C C C (L0 C C (yQ (D8 C (B1 (B4 (yB C C C C (B6 C (yQ ?_)))))))));refine B3 ?_
      exact⟨i+1,⟨h,hn2⟩,arith,C,⟨E6,E6,E6,E6,E6,P2 hw,D3⟩,⟨⟨_,C,H5 _⟩,⟨_,C,H5 _⟩,D3⟩,D3,C⟩
     | false=>
      rw[hc]at k5 bad
      have hE9:=bad rfl
      subst hE9
      refine D7 (yB C C C C (yQ (B2 ?_)));rw[u1];refine G2 C (B1 (B2 (B7 (D7 (yW es (by omega) C C (K5 C C (H3 C (yQ (D7 ?_)))))))));refine B6 C (N6 C C (B6 C (yO C (yO C (L0 C C (B6 C (X9 C (AL C C C (B6 C ?_)))))))));refine yC (k5) C C (yU C C C (L0 C C (yQ (G2 C (D7 (H3 C (yQ (C4 (C3 ?_)))))))));refine A5 (A5 (C3 (A5 ?_)))
      exact M5 C C
   have t42:(s==[42])=false:=by simp[h42]
   by_cases h43:s=[43]
   . subst h43
     have e1:DP sg [43] = !sg.contains 43:=by simp[DP]
     rw[e1]at bad nxt
     cases hc:sg.contains 43 with
     | true=>
      rw[hc]at k6 nxt
      have hn2:=nxt rfl
      refine D7 (yB C C C C (yQ (B2 ?_)));rw[u1];refine G2 C (B1 (B2 (B7 (D7 (yW es (by omega) C C (K5 C C (H3 C (yQ (D7 ?_)))))))));refine B6 C (N6 C C (B6 C (B6 C (N6 C C (K9 C C (B6 C (X9 C (AL C C C (B6 C ?_)))))))));refine yC (k6) C C (yU C C C (L0 C C (yQ (D8 C (B1 (B4 (yB C C C C (B6 C (yQ ?_)))))))));refine B3 ?_
      exact⟨i+1,⟨h,hn2⟩,arith,C,⟨E6,E6,E6,E6,E6,P2 hw,D3⟩,⟨⟨_,C,H5 _⟩,⟨_,C,H5 _⟩,D3⟩,D3,C⟩
     | false=>
      rw[hc]at k6 bad
      have hE9:=bad rfl
      subst hE9
      refine D7 (yB C C C C (yQ (B2 ?_)));rw[u1];refine G2 C (B1 (B2 (B7 (D7 (yW es (by omega) C C (K5 C C (H3 C (yQ (D7 ?_)))))))));refine B6 C (N6 C C (B6 C (B6 C (N6 C C (K9 C C (B6 C (X9 C (AL C C C (B6 C ?_)))))))));refine yC (k6) C C (yU C C C (L0 C C (yQ (G2 C (D7 (H3 C (yQ (C4 (C3 ?_)))))))));refine A5 (A5 (C3 (A5 ?_)))
      exact M5 C C
   have t43:(s==[43])=false:=by simp[h43]
   have hn2:=nxt (by simp[DP,t42,t43])
   refine D7 (yB C C C C (yQ (B2 ?_)));rw[u1];refine G2 C (B1 (B2 (B7 (D7 (yW es (by omega) C C (K5 C C (H3 C (yQ (D7 ?_)))))))));refine B6 C (N6 C C (B6 C ?_));rw[t42];refine B6 C (N6 C C (K9 C C (B6 C ?_)));rw[t43];refine yO C (yO C (yO C (yO C (yO C (K9 C C (yQ (D8 C (B1 (B4 ?_)))))))));refine yB C C C C (B6 C (yQ (B3 ?_)))
   exact⟨i+1,⟨h,hn2⟩,arith,C,⟨E6,E6,E6,E6,E6,P2 hw,D3⟩,⟨⟨_,C,H5 _⟩,⟨_,C,H5 _⟩,D3⟩,D3,C⟩
 . have u1:decide ((i:Int)<(SS.length:Int))=false:=A7 (by omega)
   rw[LT h hno,B5 (by simp)]at hE
   clear hno
   cases hc:(N.any fun c=>!nms.contains c.1) with
   | true=>
    rw[hc]at k3 hE
    rw[B9 rfl]at hE
    subst hE
    refine D7 (yB C C C C (yQ (B2 ?_)));rw[u1];refine D8 C (F9 (D7 (X9 C (AL C C C (yC (k2) C C (N9 C (yX C C (yX C C (H3 C ?_)))))))));refine H3 C (yQ (B2 (D7 (B6 C (OQ C ?_)))));refine Jv k3 (.d C (.fn D6 C C h1 .nil)) C ?_;refine yQ (G2 C (D7 (H3 C (yQ (C4 (A5 ?_))))))
    exact M5 C C
   | false=>
    rw[hc]at k3 hE
    rw[B5 (by simp)]at hE
    cases f1 with
    | true=>
     rw[B9 rfl]at hE
     subst hE
     refine D7 (yB C C C C (yQ (B2 ?_)));rw[u1];refine D8 C (F9 (D7 (X9 C (AL C C C (yC (k2) C C (N9 C (yX C C (yX C C (H3 C ?_)))))))));refine H3 C (yQ (B2 (D7 (B6 C (OQ C ?_)))));refine Jv k3 (.d C (.fn D6 C C h1 .nil)) C ?_;refine yQ (D8 C (B1 (B2 (D7 (B6 C (X9 C (AL C C C (yC (k4) C C (N9 C ?_)))))))));refine yX C C (yX C C (yZ (cs:=[_,_]) C C (yS (cs':=[_,_]) C C C C C (H3 C (yQ (D7 (B6 C (yU C C C (yQ ?_)))))))));refine D8 C (B1 (D7 (H3 C (yQ (C4 ?_)))))
     exact M5 C C
    | false=>
     rw[B5 (by simp)]at hE
     subst hE
     refine D7 (yB C C C C (yQ (B2 ?_)));rw[u1];refine D8 C (F9 (D7 (X9 C (AL C C C (yC (k2) C C (N9 C (yX C C (yX C C (H3 C ?_)))))))));refine H3 C (yQ (B2 (D7 (B6 C (OQ C ?_)))));refine Jv k3 (.d C (.fn D6 C C h1 .nil)) C ?_;refine yQ (D8 C (B1 (B2 (D7 (B6 C (X9 C (AL C C C (yC (k4) C C (N9 C ?_)))))))));refine yX C C (yX C C (yZ (cs:=[_,_]) C C (yS (cs':=[_,_]) C C C C C (H3 C (yQ (D7 (B6 C (yU C C C (yQ ?_)))))))));refine G2 C (D7 (H3 C (yQ (C4 (A5 ?_)))))
     exact M5 C C
def ruI (l:List Ru) (ch:List Ac):Int×Int:=if ctE ch≠0 then (0,1)else if 64<l.length then (0,4)else OZ (M0 I4) X0 nf ch 0 [] l
theorem Oy {nm:List Cf->List Cf} {kk:Pq} {ch:List Ac} {ls:List Ln} {k:Nat} {l:Ln} (h:ls[k]? = some l):HH nm kk ch (ls.drop k)=if luE nm kk ch l=0 then HH nm kk ch (ls.drop (k+1))else luE nm kk ch l:=by
 obtain⟨h1,h2⟩:=A6.1 h
 rw[I5 h1,h2,HH]
theorem OY {ch:List Ac} {l:List Ru} {k:Nat} {r:Ru} (h:l[k]? = some r):OZ (M0 I4) X0 nf ch k (l.take k) (l.drop k) =
 if Y8 r≠0 then ((k:Int),Y8 r)
 else if ((l.take k).any fun x=>x.1==r.1)=true then ((k:Int),5)
 else match Z0 r.1 with
  | none=>(0,0)
  | some kk=>if HH nf kk ch r.2≠0 then ((k:Int),HH nf kk ch r.2)else if Fs r.2 then OZ (M0 I4) X0 nf ch (k+1) (l.take (k+1)) (l.drop (k+1))else ((k:Int),14):=by
 obtain⟨h1,h2⟩:=A6.1 h
 rw[I5 h1,h2,OZ,H4,h]
 rfl
theorem SX (l:List Ru) (n:Int):(Pa l n).isSome=l.any fun x=>x.1==n:=by
 unfold Pa
 induction l with
 | nil=>rfl
 | cons x l ih=>
  rw[List.find?_cons,List.any_cons]
  cases x.1==n with
  | true=>rfl
  | false=>simpa using ih
theorem QW (l:List Ru) (ch:List Ac) (hl:l.length<=1000000) (hb:∀ r∈l,OK r) (hc:ch.length<=1000000) (hcb:∀ a∈ch,a.1.length<=1000000):PCalls Tryz.prog 14 [P3 l,.sl 2 (ch.map DM)] (.tup [dI (ruI l ch).1,dI (ruI l ch).2]):=by
 have c0:=OX ch hc hcb
 have k0:=Iy
 obtain⟨⟨E1,E2⟩,hE⟩:=H8 (ruI l ch)
 rw[<-hE]
 unfold ruI at hE
 by_cases h0:ctE ch=0
 rotate_left
 . have t1:(ctE ch != 0)=true:=by simp[h0]
   rw[B9 h0]at hE
   cases hE
   obtain⟨x,hx⟩:=H8 (ctE ch)
   rw[<-hx]at c0 t1
   refine L5 Tryz.func14 C Tryz.ntmps14 Tryz.results14 fun B w0=>?_
   refine D7 (H3 C (H3 C (yQ (B2 (D7 (B6 C (yC (c0) C C (yB C C C C (yQ ?_)))))))));refine B3 ?_;rw[t1];refine G2 C (D7 (H3 C (H3 C (yQ (C4 (A5 ?_))))))
   exact Y7 C C C
 rw[B5 (by simp[h0])]at hE
 rw[h0]at c0
 by_cases h1:64<l.length
 . have t2:decide (((l.map X6).length:Int) > 64)=true:=B0 (by rw[A8];omega)
   rw[B9 h1]at hE
   cases hE
   refine L5 Tryz.func14 C Tryz.ntmps14 Tryz.results14 fun B w0=>?_
   refine D7 (H3 C (H3 C (yQ (B2 (D7 (B6 C (yC (c0) C C (yB C C C C (yQ ?_)))))))));refine D8 C (B1 (B2 (D7 (B6 C (yN C (yB C C C C (yQ (B3 ?_))))))));rw[t2]
   refine G2 C (D7 (H3 C (H3 C (yQ (C4 (A5 ?_))))))
   exact Y7 C C C
 have t2:decide (((l.map X6).length:Int) > 64)=false:=A7 (by rw[A8];omega)
 rw[B5 h1]at hE
 refine L5 Tryz.func14 C Tryz.ntmps14 Tryz.results14 fun B w0=>?_
 refine D7 (H3 C (H3 C (yQ (B2 (D7 (B6 C (yC (c0) C C (yB C C C C (yQ ?_)))))))));refine D8 C (B1 (B2 (D7 (B6 C (yN C (yB C C C C (yQ (B3 ?_))))))));rw[t2]
 refine D8 C (B1 (B2 (D7 (B6 C (yN C (B6 C (yQ (B7 ?_))))))))
 clear c0 h0 hc hcb
 refine H9 (fun k:Nat=>⟨68,[(0,.d (P3 l)),(1,.d (.sl 2 (ch.map DM))),(20,.d (P3 l)),(21,.d (dI l.length)),(22,.d (dI k))],[],[]⟩) (fun k=>k<=l.length∧OZ (M0 I4) X0 nf ch k (l.take k) (l.drop k)=(E1,E2)) (fun k=>l.length-k) 0 ⟨E7 _,hE.symm⟩
  ⟨rfl,⟨E6,E6,E6,FN (by simp),E6,D3⟩,D3,D3,rfl⟩ ?_
 rintro k ⟨hk,hI⟩
 clear hE
 rcases D5 k l.length with h|h
 rotate_left
 . have u1:decide ((k:Int)<(l.length:Int))=false:=A7 (by omega)
   rw[J6 h]at hI
   cases hI
   refine D7 (yB C C C C (yQ (B2 ?_)));rw[u1];refine D8 C (F9 (D7 (H3 C (H3 C (yQ (C4 ?_))))))
   exact Y7 C C C
 have u1:decide ((k:Int)<(l.length:Int))=true:=B0 (by omega)
 obtain⟨r,hr⟩:=DJ h
 have hbr:=hb _ (B8 hr)
 rw[OY hr]at hI
 have ex:=ix X6 l k k r rfl hr
 have hw:=I8 ((k:Int)+1) (by omega)
 have c1:=GT r hbr
 have c2:=wFindR (l.take k) r.1 (by rw[F4];omega)
 have htk:(l.map X6).take (k:Int).toNat=(l.take k).map X6:=by rw[H1,List.map_take]
 have arith:l.length-(k+1)<l.length-k:=by omega
 rw[SX]at c2
 by_cases e1:Y8 r=0
 rotate_left
 . have t3:(Y8 r != 0)=true:=by simp[e1]
   rw[B9 e1]at hI
   cases hI
   obtain⟨x,hx⟩:=H8 (Y8 r)
   rw[<-hx]at c1 t3 ⊢
   obtain⟨n,ls⟩:=r
   refine D7 (yB C C C C (yQ (B2 ?_)));rw[u1];refine G2 C (B1 (B2 (B7 (D7 (B6 C (yW ex (by omega) C C (T3 (ys:=[_,_]) C C C (yZ (cs:=[_,_]) C C (H3 C ?_)))))))));refine yS (cs':=[_,_]) C C C C C (yQ (B2 (D7 (Ae (ys:=[_,_]) C C C C (yC (c1) C C (H3 C (yQ (D7 (B6 C ?_)))))))));refine yB C C C C (yQ (B3 ?_));rw[t3];refine G2 C (D7 (B6 C (B6 C (H3 C (H3 C (yQ (C4 (A5 (C3 ?_)))))))));refine A5 (A5 (C3 (A5 ?_)))
   exact Y7 C C C
 have hwf:=(GB (tp:=M0 I4) (ce:=X0)).1 e1
 rw[B5 (by simp[e1])]at hI
 rw[e1]at c1
 obtain⟨P,hP⟩:=H8 (l.take k)
 rw[<-hP]at c2 htk
 obtain⟨o,ho⟩:=H8 (orR (Pa P r.1))
 rw[<-ho]at c2
 obtain⟨o0,o1⟩:=o
 have hPl:(P.map X6).length=k:=by rw[hP,A8,F4];omega
 rw[<-hP]at hI
 clear hP ho hb
 cases e2:(P.any fun x=>x.1==r.1) with
 | true=>
  rw[e2]at c2 hI
  rw[B9 rfl]at hI
  cases hI
  obtain⟨n,ls⟩:=r
  refine D7 (yB C C C C (yQ (B2 ?_)));rw[u1];refine G2 C (B1 (B2 (B7 (D7 (B6 C (yW ex (by omega) C C (T3 (ys:=[_,_]) C C C (yZ (cs:=[_,_]) C C (H3 C ?_)))))))));refine yS (cs':=[_,_]) C C C C C (yQ (B2 (D7 (Ae (ys:=[_,_]) C C C C (yC (c1) C C (H3 C (yQ (D7 (B6 C ?_)))))))));refine yB C C C C (yQ (D8 C (B1 (B2 (B2 ?_)))));refine J2 Tryz.mixed (by kernel_rfl) ?_;refine B6 C (B6 C ?_);refine yDh (by omega) (by rw[A8];omega) C C ?_;refine X9 C (AL C C C ?_);rw[htk];refine yC (c2) C C (N9 C (yX C C (yX C C (yZ (cs:=[_,_]) C C (yS (cs':=[_,_]) C C C C C (H3 C (yQ (D7 (B6 C ?_)))))))));refine yQ (G2 C (D7 (B6 C (H3 C (H3 C (yQ (C4 (A5 (C3 ?_)))))))));refine A5 (A5 (C3 (A5 ?_)))
  exact Y7 C C C
 | false=>
 rw[e2]at c2 hI
 rw[B5 (by simp)]at hI
 obtain⟨n,ls⟩:=r
 obtain⟨⟨kk,hkk⟩,hll,hlw⟩:=hwf
 simp only at hkk hll hlw hI
 rw[hkk]at hI
 simp only at hI
 obtain⟨hg,hh⟩:=HU n
 have hkeq:kk=(n,HQ n,Gx n,sgK n):=by
  have h3:=(BZ hkk).2
  rw[HQ,Gx,sgK,hkk]
  obtain⟨q0,q1,q2,q3⟩:=kk
  simp only at h3
  subst h3
  rfl
 have hnl:(Gx n).length<=1000000:=by
  have h2:∀ k∈kndL,k.2.2.1.length<=1000000:=by
   have:∀ k∈kndL,k.2.2.1.length<=4:=by decide
   exact fun k hk=>D9 (this k hk) (by omega)
  have:=h2 kk (BZ hkk).1
  rw[hkeq]at this
  exact this
 rw[hkeq]at hI
 have k2:=fun x=>Lm n (HQ n) (Gx n) (sgK n) ch x hnl
 obtain⟨M,hM⟩:=H8 (Bz)
 rw[<-hM]at k0 hg
 obtain⟨kw,hkw⟩:=H8 (HQ n)
 obtain⟨kg,hkg⟩:=H8 (sgK n)
 obtain⟨kn,hkn⟩:=H8 (Gx n)
 rw[<-hkw,<-hkg,<-hkn]at hg hI k2
 clear hM hkw hkg hkn hkeq hnl hkk hh e2 e1
 have k3:=IH (n,ls) hll fun x hx=>⟨(T7.1 (hlw x hx).2).1,fun c hc=>((hbr.2 x hx).2.2 c hc).2⟩
 simp only at k3
 refine D7 (yB C C C C (yQ (B2 ?_)));rw[u1];refine G2 C (B1 (B2 (B7 (D7 (B6 C (yW ex (by omega) C C (T3 (ys:=[_,_]) C C C (yZ (cs:=[_,_]) C C (H3 C ?_)))))))));refine yS (cs':=[_,_]) C C C C C (yQ (B2 (D7 (Ae (ys:=[_,_]) C C C C (yC (c1) C C (H3 C (yQ (D7 (B6 C ?_)))))))));refine yB C C C C (yQ (D8 C (B1 (B2 (B2 ?_)))));refine J2 Tryz.mixed (by kernel_rfl) ?_;refine B6 C (B6 C ?_);refine yDh (by omega) (by rw[A8];omega) C C ?_;refine X9 C (AL C C C ?_);rw[htk];refine yC (c2) C C (N9 C (yX C C (yX C C (yZ (cs:=[_,_]) C C (yS (cs':=[_,_]) C C C C C (H3 C (yQ (D7 (B6 C ?_)))))))));refine yQ (D8 C (B1 (B2 (D7 (X9 C (AL C C C (yN C (B6 C (yQ ?_)))))))));refine B7 ?_;refine H9 (fun j:Nat=>⟨68,[(0,.d (P3 l)),(1,.d (.sl 2 (ch.map DM))),(20,.d (P3 l)),(21,.d (dI l.length)),(22,.d (dI k)),(6,.d (dI k)),(7,.bx 7 0),(45,.d (.sl 3 (ls.map W9))),(46,.d (dI ls.length)),(47,.d (dI j))],[(7,[.d (dI n),.d (.sl 3 (ls.map W9))])],[]⟩) (fun j=>j<=ls.length∧HH nf (n,kw,kn,kg) ch (ls.drop j)=HH nf (n,kw,kn,kg) ch ls) (fun j=>ls.length-j) 0 ⟨E7 _,C⟩
  ⟨rfl,⟨E6,E6,E6,E6,E6,E6,E6,E6,FN (by simp),E6,D3⟩,⟨⟨_,rfl,H5 _⟩,D3⟩,D3,rfl⟩ ?_
 rintro j ⟨hj,hJ⟩
 rcases D5 j ls.length with h2|h2
 . have u2:decide ((j:Int)<(ls.length:Int))=true:=B0 (by omega)
   obtain⟨x,hx⟩:=DJ h2
   have em:=ix W9 ls j j x rfl hx
   have hw2:=I8 ((j:Int)+1) (by omega)
   have hxm:=B8 hx
   have k4:=k2 x (hbr.2 x hxm) (hlw x hxm).2
   have arith2:ls.length-(j+1)<ls.length-j:=by omega
   rw[Oy hx]at hJ
   obtain⟨y,hy⟩:=H8 (luE nf (n,kw,kn,kg) ch x)
   rw[<-hy]at k4 hJ
   obtain⟨x0,x1,x2⟩:=x
   clear k2 k3 hy hxm hbr hll hlw
   by_cases hy0:y=0
   . have t4:(y != 0)=false:=by simp[hy0]
     rw[B9 hy0]at hJ
     refine D7 (yB C C C C (yQ (B2 ?_)));rw[u2];refine G2 C (B1 (B2 (B7 (D7 (yW em (by omega) C C (T3 (ys:=[_,_,_]) C C C (yZ (cs:=[_,_,_]) C C (yS (cs':=[_,_,_]) C C C C C (yQ ?_)))))))));refine B2 ?_;refine J2 Tryz.mixed (by kernel_rfl) ?_;refine yC (k0) C C (X9 C (AL C C C (yKeI C C hg (Ae (ys:=[_,_,_]) C C C C (B6 C (yC (k4) C C (H3 C (yQ (D7 ?_)))))))));refine B6 C (yB C C C C (yQ (B3 ?_)));rw[t4];refine D8 C (B1 (B4 (yB C C C C (B6 C (yQ (B3 ?_))))))
     exact⟨j+1,⟨h2,hJ⟩,arith2,C,⟨E6,E6,E6,E6,E6,E6,E6,E6,E6,P2 hw2,D3⟩,⟨⟨_,C,H5 _⟩,D3⟩,D3,C⟩
   . have t4:(y != 0)=true:=by simp[hy0]
     rw[B5 hy0]at hJ
     rw[<-hJ,B9 hy0]at hI
     cases hI
     refine D7 (yB C C C C (yQ (B2 ?_)));rw[u2];refine G2 C (B1 (B2 (B7 (D7 (yW em (by omega) C C (T3 (ys:=[_,_,_]) C C C (yZ (cs:=[_,_,_]) C C (yS (cs':=[_,_,_]) C C C C C (yQ ?_)))))))));refine B2 ?_;refine J2 Tryz.mixed (by kernel_rfl) ?_;refine yC (k0) C C (X9 C (AL C C C (yKeI C C hg (Ae (ys:=[_,_,_]) C C C C (B6 C (yC (k4) C C (H3 C (yQ (D7 ?_)))))))));refine B6 C (yB C C C C (yQ (B3 ?_)));rw[t4];refine G2 C (D7 (B6 C (B6 C (H3 C (H3 C (yQ (C4 (C3 (A5 ?_)))))))));refine A5 (C3 (A5 (C3 (A5 (A5 (C3 (A5 ?_)))))))
     exact Y7 C C C
 . have u2:decide ((j:Int)<(ls.length:Int))=false:=A7 (by omega)
   have hz:HH nf (n,kw,kn,kg) ch ls=0:=by rw[<-hJ,J6 h2];rfl
   rw[hz,B5 (by simp)]at hI
   clear k2 hbr hll hlw hJ hz
   cases hbal:Fs ls with
   | true=>
    rw[hbal]at k3 hI
    rw[B9 rfl]at hI
    refine D7 (yB C C C C (yQ (B2 ?_)));rw[u2];refine D8 C (F9 (D7 (Ae (ys:=[_,_]) C C C C (yC (k3) C C (yU C C C (yQ (D8 C (B1 (B4 ?_)))))))));refine yB C C C C (B6 C (yQ (B3 ?_)))
    exact⟨k+1,⟨h,hI⟩,arith,C,⟨E6,E6,E6,E6,P2 hw,D3⟩,D3,D3,C⟩
   | false=>
    rw[hbal]at k3 hI
    rw[B5 (by simp)]at hI
    cases hI
    refine D7 (yB C C C C (yQ (B2 ?_)));rw[u2];refine D8 C (F9 (D7 (Ae (ys:=[_,_]) C C C C (yC (k3) C C (yU C C C (yQ (G2 C (D7 (B6 C ?_)))))))));refine H3 C (H3 C (yQ (C4 (C3 (A5 (A5 (C3 (A5 ?_))))))))
    exact Y7 C C C
def insI (x:F6):List F6->List F6
 | []=>[x]
 | y::l=>if ltS y x then y::insI x l else x::y::l
def Kv:List F6->List F6
 | []=>[]
 | x::l=>insI x (Kv l)
theorem Ie (x:F6) (l:List F6):(insI x l).Perm (x::l):=by
 induction l with
 | nil=>exact .refl _
 | cons y l ih=>
  rw[insI]
  split
  . exact(ih.cons y).trans (.swap x y l)
  . exact .refl _
theorem MV (l:List F6):(Kv l).Perm l:=by
 induction l with
 | nil=>exact .refl _
 | cons x l ih=>exact(Ie x _).trans (ih.cons x)
theorem ltS_no {a b:F6} (h:ltS a b=true):ltS b a=false:=by
 cases e:ltS b a with
 | false=>rfl
 | true=>
  have:=BX h e
  rw[U2]at this
  cases this
theorem insI_up {x:F6} {l:List F6} (h:l.Pairwise fun x y=>ltS y x=false):(insI x l).Pairwise fun x y=>ltS y x=false:=by
 induction l with
 | nil=>exact List.pairwise_singleton _ _
 | cons y l ih=>
  rw[List.pairwise_cons]at h
  rw[insI]
  split
  . rename_i hy
    refine List.pairwise_cons.2 ⟨fun z hz=>?_,ih h.2⟩
    rcases List.mem_cons.1 ((Ie x l).mem_iff.1 hz)with rfl|hz
    . exact ltS_no hy
    . exact h.1 z hz
  . rename_i hy
    have hy:ltS y x=false:=by simpa using hy
    refine List.pairwise_cons.2 ⟨fun z hz=>?_,List.pairwise_cons.2 h⟩
    rcases List.mem_cons.1 hz with rfl|hz
    . exact hy
    . have h1:=h.1 z hz
      cases e:ltS z x with
      | false=>rfl
      | true=>
       rcases X3 x y with h2|h2|h2
       . rw[BX e h2]at h1;cases h1
       . subst h2;rw[e]at h1;cases h1
       . rw[h2]at hy;cases hy
theorem SP (l:List F6):(Kv l).Pairwise fun x y=>ltS y x=false:=by
 induction l with
 | nil=>exact .nil
 | cons x l ih=>exact insI_up ih
theorem mSort_i (l:List F6):HA l=Kv l:=by
 refine List.Perm.eq_of_pairwise (le:=fun x y:F6=>ltS y x=false) (fun x y _ _ h1 h2=>?_) (Kj l) (SP l) ((List.mergeSort_perm l _).trans (MV l).symm)
 rcases X3 x y with h|h|h
 . rw[h]at h2;cases h2
 . exact h
 . rw[h]at h1;cases h1
def nfi (e:List Cf):List Cf:=(Kv ((O3 e e.length).map (·.1))).filterMap (keep (O3 e e.length))
theorem nf_i (e:List Cf):nf e=nfi e:=by rw[nf,mSort_i];rfl
open Go.RowKit Go.Shelf Px
variable {F:Nat->Nat->Prop}
attribute [local go_sem] Oper.semAt_some
def Hx:Nat->Bool->F6->List (Bool×F6)
 | 0,_,_=>[]
 | n+1,neg,s=>(neg,R0 32 s)::if BL 32 s then (if R0 32 (P7 32 s)=[43]∨R0 32 (P7 32 s)=[45]then Hx n (R0 32 (P7 32 s)==[45]) (P7 32 (P7 32 s))else [(false,[])])else []
def Dx (neg:Bool) (s:F6):List (Bool×F6):=Hx (s.length+1) neg s
theorem IU:∀ (n m:Nat) (neg:Bool) (s:F6),s.length<n->s.length<m->Hx n neg s=Hx m neg s
 | n+1,m+1,neg,s,h1,h2=>by
  rw[Hx,Hx]
  by_cases hb:BL 32 s=true
  . have l1:=(V2 32 s).2.2 hb
    have l2:=(V2 32 (P7 32 s)).2.1
    rw[IU n m _ _ (by omega) (by omega)]
  . rw[B5 hb,B5 hb]
theorem Bu (neg:Bool) (s:F6):Dx neg s=(neg,R0 32 s)::if BL 32 s then (if R0 32 (P7 32 s)=[43]∨R0 32 (P7 32 s)=[45]then Dx (R0 32 (P7 32 s)==[45]) (P7 32 (P7 32 s))else [(false,[])])else []:=by
 unfold Dx
 rw[Hx]
 by_cases hb:BL 32 s=true
 . have l1:=(V2 32 s).2.2 hb
   have l2:=(V2 32 (P7 32 s)).2.1
   rw[IU s.length ((P7 32 (P7 32 s)).length+1) _ _ (by omega) (by omega)]
 . rw[B5 hb,B5 hb]
abbrev Hs (p:Bool×F6):List Value:=[.bool p.1,vS p.2]
def S3 (s:F6):List (Bool×F6):=Dx (Jy 45 s) (Hr 45 s)
theorem Kf {P:Program} {f:FuncId} {vs us:List Value} (h:PCalls P f (vs.map .val) (.tup (us.map .val))) (h1:∀ v∈vs,v.oneCell'=true) {W:World} (hg:GlobOk F W):Calls P f vs.toArray W fun e W'=>e=.returned (.tuple us.toArray)∧Below W.heap.size W W':=by
 refine(h F W vs (by simp) (fun i v x hv hx=>?_) hg).mono ?_
 . rw[C6,hv]at hx
   cases hx
   exact DRep.val v (h1 v (B8 hv))
 . rintro e W' ⟨v,rfl,⟨ws,rfl,h3,h4⟩,h5⟩
   have:ws=us:=by
    refine List.ext_getElem (by simpa using h3) fun i h6 h7=>?_
    exact DRep.val_eq (h4 i _ _ (A4 h6) (by rw[C6,A4 h7];rfl))
   rw[this]
   exact⟨rfl,h5⟩
theorem Cw {W W':World} (h:GlobOk F W) (hb:Below W.heap.size W W'):GlobOk F W':=fun q cs hq=>by
 obtain⟨h1,vs,h2,T,z,h3⟩:=h q cs hq
 exact⟨h1.mono fun b o hf hs=>⟨hf,L3 (hb.block b (Y1 hs)) o⟩,vs,h2,T,z,(hb.block q (D2.1 h3).1).trans h3⟩
theorem Jp {c:UInt8} (s:F6) {n:Nat} (h:s.length<=n):(Hr c s).length<=n:=by
 cases s with
 | nil=>exact h
 | cons x t=>
  rw[Hr]
  split
  . rw[List.length_cons]at h;omega
  . exact h
def lenV:Value->Nat
 | .string b=>b.size
 | _=>0
theorem GG (s:F6):lenV (vS s)=s.length:=by simp[lenV,ByteArray.size]
theorem Kg (s:F6) (hs:s.length<=1000000) (F:Nat->Nat->Prop) (w:World) (p:Value) (hp:DRep F w p (.ref [dS s])):Mx Tryz.prog 177 #[p] ((S3 s).map Hs) F w:=by
 intro l J Jx hJ hJx hY hgo h0
 obtain⟨b,off,rfl,hc⟩:∃ b off,p=.pointer (some ⟨b,off,none⟩)∧w.cell? ⟨b,off,none⟩=some (vS s):=by
  cases hp with
  | @ref b off _ f hc h=>
   refine⟨b,off,C,?_⟩
   have:=(hc 0 (by simp)).1
   rw[DRep.val_eq (h 0 (dS s) rfl)]at this
   exact this
 refine callsIn_of_wp Tryz.func177 C trivial ?_ C
 simp only[Tryz.ntmps177,List.size_toArray,List.length_cons,List.length_nil,Nat.reduceAdd,Nat.reduceSub,Array.replicate_succ,Array.replicate_zero,List.push_toArray,List.append_toArray,List.nil_append,List.cons_append]
 have HJ:=Lib.hid hJ
 have HJX:=Lib.hid hJx
 have HY:=Lib.hid hY
 have HG:=Lib.hid hgo
 have C1:Hid (∀ W,GlobOk F W->Calls Tryz.prog 121 #[vS s,vS [45]] W fun e W'=>e=.returned (.tuple #[vS (Hr 45 s),.bool (Jy 45 s)])∧Below W.heap.size W W'):=
  Lib.hid fun W hg=>Kf (vs:=[vS s,vS [45]]) (us:=[vS (Hr 45 s),.bool (Jy 45 s)]) (wCutP1 s 45 hs) (fun v hv=>by simp at hv;rcases hv with rfl|rfl<;>rfl) hg
 have C2:Hid (∀ t,t.length<=1000000->∀ W,GlobOk F W->Calls Tryz.prog 79 #[vS t,vS [32]] W fun e W'=>e=.returned (.tuple #[vS (R0 32 t),vS (P7 32 t),.bool (BL 32 t)])∧Below W.heap.size W W'):=
  Lib.hid fun t ht W hg=>Kf (vs:=[vS t,vS [32]]) (us:=[vS (R0 32 t),vS (P7 32 t),.bool (BL 32 t)]) (KH t 32 ht) (fun v hv=>by simp at hv;rcases hv with rfl|rfl<;>rfl) hg
 clear hJ hJx hY hgo
 have hpl:Hid ((Hr 45 s).length<=1000000):=Lib.hid (Jp s hs)
 gi_wp2_with (refine⟨D3,rfl,?_⟩;gi_at_call 121;refine(callsIn_wide.2 (C1.out _ HG.out)).mono ?_;rintro e w' ⟨rfl,hb1⟩)
 have HG1:=Lib.hid (Cw HG.out hb1)
 have J1:=HJ.out 0 _ _ h0 hb1
 clear hb1 HG h0
 gi_loopw [3,4] (fun v3 v4 wr=>∃ (i:Nat) (neg:Bool) (s':F6),v3=vS s'∧v4=.bool neg∧J i wr∧Hid (((S3 s).map Hs).drop i=(Dx neg s').map Hs∧s'.length<=1000000∧GlobOk F wr))
  (fun v3 _ _=>lenV v3)
 case atStart=>exact⟨0,_,_,rfl,rfl,J1,Lib.hid ⟨rfl,hpl.out,HG1.out⟩⟩
 case round=>
  obtain⟨i,neg,s',rfl,rfl,hJi,HR⟩:=hrel
  have K2:=Lib.hid (C2.out s' HR.out.2.1 wr HR.out.2.2)
  have hcons:=HR.out.1
  rw[Bu,List.map_cons]at hcons
  have HX:Hid (((S3 s).map Hs)[i]? = some (Hs (neg,R0 32 s'))∧((S3 s).map Hs).drop (i+1)=(if BL 32 s' then (if R0 32 (P7 32 s')=[43]∨R0 32 (P7 32 s')=[45]then Dx (R0 32 (P7 32 s')==[45]) (P7 32 (P7 32 s'))else [(false,[])])else []).map Hs):=Lib.hid ⟨by
   have:=G4 (fun l=>l[0]?) hcons
   simpa using this,by
   have:=G4 (List.drop 1) hcons
   simpa using this⟩
  clear hcons
  gi_wp2_with (refine⟨D3,rfl,?_⟩;gi_at_call 79;refine(callsIn_wide.2 K2.out).mono ?_;rintro e w' ⟨rfl,hb2⟩;obtain⟨fn,tmps,assign,body,hy,hR⟩:=HY.out i _ w' HX.out.1 (HJ.out i _ _ hJi hb2);have HR2:=Lib.hid hR;have HG2:=Lib.hid (Cw HR.out.2.2 hb2);clear hR hb2)
  refine⟨rfl,?_⟩
  refine HR2.out.mono ?_
  rintro e W3 (⟨rfl,hJ3,-,hg3⟩|⟨rfl,hJx3⟩)
  . have HG3:=Lib.hid hg3
    have HD:=Lib.hid HX.out.2
    clear hg3
    cases hb:BL 32 s' with
    | false=>
     have HL:Hid (i+1=((S3 s).map Hs).length):=Lib.hid (by
      have h1:=HD.out
      rw[hb,B5 (by simp),List.map_nil,List.drop_eq_nil_iff]at h1
      have h2:=(A6.1 HX.out.1).1
      omega)
     gi_wp2
     refine bodyPost_ret (results_none C _ _ _) C ?_
     exact⟨⟨_,C⟩,.inl (by rw[<-HL.out];exact hJ3)⟩
    | true=>
     have l1:=V2 32 s'
     have l2:=V2 32 (P7 32 s')
     have HB:Hid ((P7 32 s').length<=1000000∧(P7 32 (P7 32 s')).length<=1000000∧(P7 32 (P7 32 s')).length<s'.length):=Lib.hid ⟨by have:=HR.out.2.1;omega,by have:=HR.out.2.1;omega,by have:=l1.2.2 hb;omega⟩
     have K3:=Lib.hid (C2.out (P7 32 s') HB.out.1 W3 HG3.out)
     clear l1 l2
     have HD2:Hid (((S3 s).map Hs).drop (i+1)=(if R0 32 (P7 32 s')=[43]∨R0 32 (P7 32 s')=[45]then Dx (R0 32 (P7 32 s')==[45]) (P7 32 (P7 32 s'))else [(false,[])]).map Hs):=Lib.hid (by have:=HD.out;rwa [hb,B9 rfl]at this)
     clear HD
     obtain⟨sg,hsg⟩:=H8 (R0 32 (P7 32 s'))
     obtain⟨nx,hnx⟩:=H8 (P7 32 (P7 32 s'))
     obtain⟨mo,hmo⟩:=H8 (BL 32 (P7 32 s'))
     rw[<-hsg,<-hnx,<-hmo]at K3
     rw[<-hsg,<-hnx]at HD2
     rw[<-hnx]at HB
     clear hsg hnx hmo
     by_cases h3:sg=[43]∨sg=[45]
     . have HD3:=Lib.hid (show((S3 s).map Hs).drop (i+1)=(Dx (sg==[45]) nx).map Hs by have:=HD2.out;rwa [B9 h3]at this)
       clear HD2
       rcases h3 with rfl|rfl
       . gi_wp2_with (refine⟨D3,rfl,?_⟩;gi_at_call 79;refine(callsIn_wide.2 K3.out).mono ?_;rintro e w4 ⟨rfl,hb4⟩)
         have HG4:=Lib.hid (Cw HG3.out hb4)
         have J4:=HJ.out _ _ _ hJ3 hb4
         go_roundw
         case rel=>exact⟨i+1,false,nx,rfl,rfl,J4,Lib.hid ⟨HD3.out,HB.out.2.1,HG4.out⟩⟩
         case measure=>rw[GG,GG];exact HB.out.2.2
       . gi_wp2_with (refine⟨D3,rfl,?_⟩;gi_at_call 79;refine(callsIn_wide.2 K3.out).mono ?_;rintro e w4 ⟨rfl,hb4⟩)
         have HG4:=Lib.hid (Cw HG3.out hb4)
         have J4:=HJ.out _ _ _ hJ3 hb4
         go_roundw
         case rel=>exact⟨i+1,true,nx,rfl,rfl,J4,Lib.hid ⟨HD3.out,HB.out.2.1,HG4.out⟩⟩
         case measure=>rw[GG,GG];exact HB.out.2.2
     . have HD3:=Lib.hid (show((S3 s).map Hs).drop (i+1)=[Hs (false,[])]by have:=HD2.out;rwa [B5 h3]at this)
       have HX3:Hid (((S3 s).map Hs)[i+1]? = some (Hs (false,[]))∧i+1+1=((S3 s).map Hs).length):=Lib.hid ⟨by
        have:=G4 (fun l=>l[0]?) HD3.out
        simpa using this,by
        have:=G4 List.length HD3.out
        simp at this
        simp
        omega⟩
       have b1:(!sg==[43])=true:=by have:¬ sg=[43]:=fun e=>h3 (.inl e);simp[this]
       have b2:(!sg==[45])=true:=by have:¬ sg=[45]:=fun e=>h3 (.inr e);simp[this]
       clear HD2 HD3 h3
       gi_wp2_with (refine⟨D3,rfl,?_⟩;gi_at_call 79;refine(callsIn_wide.2 K3.out).mono ?_;rintro e w4 ⟨rfl,hb4⟩;obtain⟨fn5,tmps5,assign5,body5,hy5,hR5⟩:=HY.out (i+1) _ w4 HX3.out.1 (HJ.out _ _ _ hJ3 hb4);have HR5:=Lib.hid hR5;clear hR5 hb4)
       refine⟨rfl,?_⟩
       refine HR5.out.mono ?_
       rintro e W5 (⟨rfl,hJ5,-,-⟩|⟨rfl,hJx5⟩)
       . gi_wp2
         refine bodyPost_ret (results_none C _ _ _) C ?_
         exact⟨⟨_,C⟩,.inl (by rw[<-HX3.out.2];exact hJ5)⟩
       . gi_wp2
         refine bodyPost_ret (results_none C _ _ _) C ?_
         exact⟨⟨_,C⟩,.inr hJx5⟩
  . gi_wp2
    refine bodyPost_ret (results_none C _ _ _) C ?_
    exact⟨⟨_,C⟩,.inr hJx3⟩
theorem prT_ne (d:F6):Gu d≠[]:=by
 unfold Gu
 split
 . simp
 . assumption
theorem ND (d:F6) (hd:d.length<=65536):PCalls Tryz.prog 178 [dS d] (.tup [dS (if Gu d=d then J3 (val d)else []),dI (if Gu d=d then 0 else 3)]):=by
 have k1:=Ix d (by omega)
 have k2:=DZ d (by omega)
 have t0:decide ((d.length:Int) > 65536)=false:=A7 (by omega)
 obtain⟨p,hp⟩:=H8 (Gu d)
 obtain⟨q,hq⟩:=H8 (J3 (val d))
 rw[<-hp]at k1 ⊢
 rw[<-hq]at k2 ⊢
 by_cases h:p=d
 . have t1:(!(p==d))=false:=by simp[h]
   rw[B9 h,B9 h]
   refine L5 Tryz.func178 C Tryz.ntmps178 Tryz.results178 fun B w0=>?_
   refine D7 (H3 C (H3 C (yQ (B2 (D7 (B6 C (N3 C (yB C C C C (yQ ?_)))))))));refine B3 ?_;rw[t0];refine D8 C (B1 (B2 (D7 (B6 C (yC (k1) C C (B6 C (L8 C C (yQ (B3 ?_)))))))));rw[t1];refine D8 C (B1 (D7 (B6 C (yC (k2) C C (H3 C (H3 C (yQ (C4 ?_))))))))
   exact Y7 C C C
 . have t1:(!(p==d))=true:=by simp[h]
   rw[B5 h,B5 h]
   refine L5 Tryz.func178 C Tryz.ntmps178 Tryz.results178 fun B w0=>?_
   refine D7 (H3 C (H3 C (yQ (B2 (D7 (B6 C (N3 C (yB C C C C (yQ ?_)))))))));refine B3 ?_;rw[t0];refine D8 C (B1 (B2 (D7 (B6 C (yC (k1) C C (B6 C (L8 C C (yQ (B3 ?_)))))))));rw[t1];refine G2 C (D7 (H3 C (H3 C (yQ (C4 (A5 ?_))))))
   exact Y7 C C C
def Qg (d nm:F6):Option Cf:=if Gu d=d∧d.head? ≠ some 45∧Bx nm=true then some (nm,J3 (val d))else none
def Qh (t:F6):Option Cf:=if BL 42 t then Qg (R0 42 t) (P7 42 t)else Qg [49] t
abbrev oCf (o:Option Cf):Cf:=o.getD ([],[])
theorem Lj (t:F6) (ht:t.length<=65536):PCalls Tryz.prog 127 [dS t] (.tup [.agg (dCf (oCf (Qh t))),dB (Qh t).isSome]):=by
 have k1:=KH t 42 (by omega)
 obtain⟨hl1,hl2,-⟩:=V2 42 t
 unfold Qh
 cases hb:BL 42 t with
 | true=>
  rw[hb]at k1
  rw[B9 rfl]
  obtain⟨d,hd⟩:=H8 (R0 42 t)
  obtain⟨nm,hnm⟩:=H8 (P7 42 t)
  rw[<-hd]at hl1
  rw[<-hd,<-hnm]at k1 ⊢
  have k2:=ND d (by omega)
  have k3:=Iz nm
  clear hd hnm hb
  unfold Qg
  by_cases h1:Gu d=d
  rotate_left
  . rw[B5 h1,B5 h1]at k2
    rw[B5 (fun h=>h1 h.1)]
    refine L5 Tryz.func127 C Tryz.ntmps127 Tryz.results127 fun B w0=>?_
    refine D7 (yZ (cs:=[_,_]) C C (H3 C (yQ (D7 (B6 C (yC (k1) C C (N9 C (yX C C (yX C C ?_)))))))));refine yX C C (H3 C (H3 C (H3 C (yQ (B2 (D7 (B6 C (yU C C C (yQ ?_)))))))));refine D8 C (B1 (D7 (B6 C (yC (k2) C C (N9 C (yX C C (yX C C (H3 C (H3 C ?_)))))))));refine yQ (B2 (D7 (B6 C (yB C C C C (B6 C (yO C (yO C (yO C (L0 C C ?_)))))))));refine B6 C (yO C (yO C (yO C (L0 C C (yQ (G2 C (D7 (yG (ys:=[_,_]) C C (yS (cs':=[_,_]) C C C C C ?_)))))))));refine H3 C (yQ (C4 (A5 ?_)))
    exact J5 _ (.agg D6 C C C C (.tmp C .nil)) C
  rw[B9 h1,B9 h1]at k2
  obtain⟨x,d,rfl⟩:∃ x l,d=x::l:=by
   cases d with
   | nil=>exact G5 h1 (prT_ne _)
   | cons x l=>exact⟨x,l,C⟩
  have hx:(x::d:F6)[(0:Int).toNat]? = some x:=rfl
  obtain⟨q,hq⟩:=H8 (J3 (val (x::d)))
  rw[<-hq]at k2 ⊢
  by_cases h2:x=45
  . have t2:((x.toNat:Int)==45)=true:=by rw[h2];rfl
    rw[B5 (fun h=>h.2.1 (by rw[h2];rfl))]
    refine L5 Tryz.func127 C Tryz.ntmps127 Tryz.results127 fun B w0=>?_
    refine D7 (yZ (cs:=[_,_]) C C (H3 C (yQ (D7 (B6 C (yC (k1) C C (N9 C (yX C C (yX C C ?_)))))))));refine yX C C (H3 C (H3 C (H3 C (yQ (B2 (D7 (B6 C (yU C C C (yQ ?_)))))))));refine D8 C (B1 (D7 (B6 C (yC (k2) C C (N9 C (yX C C (yX C C (H3 C (H3 C ?_)))))))));refine yQ (B2 (D7 (B6 C (yB C C C C (B6 C (B6 C (U9 hx (by omega) C C (yB C C C C (K9 C C ?_)))))))));refine B6 C ?_;rw[t2];refine yO C (yO C (yO C (L0 C C (yQ (G2 C (D7 (yG (ys:=[_,_]) C C (yS (cs':=[_,_]) C C C C C (H3 C ?_)))))))));refine yQ (C4 (A5 ?_))
    exact J5 _ (.agg D6 C C C C (.tmp C .nil)) C
  have t2:((x.toNat:Int)==45)=false:=G9 fun h=>h2 (UInt8.toNat_inj.1 (by have:(45:UInt8).toNat=45:=rfl;omega))
  cases h3:Bx nm with
  | false=>
   rw[h3]at k3
   rw[B5 (fun h=>by simp at h)]
   refine L5 Tryz.func127 C Tryz.ntmps127 Tryz.results127 fun B w0=>?_
   refine D7 (yZ (cs:=[_,_]) C C (H3 C (yQ (D7 (B6 C (yC (k1) C C (N9 C (yX C C (yX C C ?_)))))))));refine yX C C (H3 C (H3 C (H3 C (yQ (B2 (D7 (B6 C (yU C C C (yQ ?_)))))))));refine D8 C (B1 (D7 (B6 C (yC (k2) C C (N9 C (yX C C (yX C C (H3 C (H3 C ?_)))))))));refine yQ (B2 (D7 (B6 C (yB C C C C (B6 C (B6 C (U9 hx (by omega) C C (yB C C C C (K9 C C ?_)))))))));refine B6 C ?_;rw[t2];refine B6 C (yC (k3) C C (yU C C C (K9 C C (yQ (G2 C (D7 (yG (ys:=[_,_]) C C (yS (cs':=[_,_]) C C C C C (H3 C ?_)))))))));refine yQ (C4 (A5 ?_))
   exact J5 _ (.agg D6 C C C C (.tmp C .nil)) C
  | true=>
   rw[h3]at k3
   rw[B9 ⟨h1,fun h=>h2 (by simpa using h),rfl⟩]
   refine L5 Tryz.func127 C Tryz.ntmps127 Tryz.results127 fun B w0=>?_
   refine D7 (yZ (cs:=[_,_]) C C (H3 C (yQ (D7 (B6 C (yC (k1) C C (N9 C (yX C C (yX C C ?_)))))))));refine yX C C (H3 C (H3 C (H3 C (yQ (B2 (D7 (B6 C (yU C C C (yQ ?_)))))))));refine D8 C (B1 (D7 (B6 C (yC (k2) C C (N9 C (yX C C (yX C C (H3 C (H3 C ?_)))))))));refine yQ (B2 (D7 (B6 C (yB C C C C (B6 C (B6 C (U9 hx (by omega) C C (yB C C C C (K9 C C ?_)))))))));refine B6 C ?_;rw[t2];refine B6 C (yC (k3) C C (yU C C C (K9 C C (yQ (D8 C (B1 (D7 (B6 C (B6 C ?_)))))))));refine yG (ys:=[_,_]) C C (yS (cs':=[_,_]) C C C C C (H3 C (yQ (C4 ?_))))
   exact J5 _ (.agg D6 C C C C (.tmp C .nil)) C
 | false=>
  rw[hb]at k1
  rw[B5 (by simp)]
  have e1:Gu [49]=[49]:=by kernel_rfl
  have e2:J3 (val [49])=[49]:=by kernel_rfl
  have k2:=ND [49] (by simp)
  rw[B9 e1,B9 e1,e2]at k2
  have k3:=Iz t
  obtain⟨d,hd⟩:=H8 (R0 42 t)
  obtain⟨nm,hnm⟩:=H8 (P7 42 t)
  rw[<-hd,<-hnm]at k1
  clear hd hnm hb
  have hx:([49]:F6)[(0:Int).toNat]? = some 49:=rfl
  unfold Qg
  cases h3:Bx t with
  | false=>
   rw[h3]at k3
   rw[B5 (fun h=>by simp at h)]
   refine L5 Tryz.func127 C Tryz.ntmps127 Tryz.results127 fun B w0=>?_
   refine D7 (yZ (cs:=[_,_]) C C (H3 C (yQ (D7 (B6 C (yC (k1) C C (N9 C (yX C C (yX C C ?_)))))))));refine yX C C (H3 C (H3 C (H3 C (yQ (B2 (D7 (B6 C (yU C C C (yQ ?_)))))))));refine G2 C (B4 (B6 C (H3 C (H3 C (yQ (D7 (B6 C (yC (k2) C C (N9 C ?_)))))))));refine yX C C (yX C C (H3 C (H3 C (yQ (B2 (D7 (B6 C (yB C C C C (B6 C ?_)))))))));refine B6 C (U9 hx (by omega) C C (yB C C C C (K9 C C (B6 C (B6 C (yC (k3) C C (yU C C C (K9 C C (yQ ?_)))))))));refine G2 C (D7 (yG (ys:=[_,_]) C C (yS (cs':=[_,_]) C C C C C (H3 C (yQ (C4 (A5 ?_)))))))
   exact J5 _ (.agg D6 C C C C (.tmp C .nil)) C
  | true=>
   rw[h3]at k3
   rw[B9 ⟨e1,by simp,rfl⟩,e2]
   refine L5 Tryz.func127 C Tryz.ntmps127 Tryz.results127 fun B w0=>?_
   refine D7 (yZ (cs:=[_,_]) C C (H3 C (yQ (D7 (B6 C (yC (k1) C C (N9 C (yX C C (yX C C ?_)))))))));refine yX C C (H3 C (H3 C (H3 C (yQ (B2 (D7 (B6 C (yU C C C (yQ ?_)))))))));refine G2 C (B4 (B6 C (H3 C (H3 C (yQ (D7 (B6 C (yC (k2) C C (N9 C ?_)))))))));refine yX C C (yX C C (H3 C (H3 C (yQ (B2 (D7 (B6 C (yB C C C C (B6 C ?_)))))))));refine B6 C (U9 hx (by omega) C C (yB C C C C (K9 C C (B6 C (B6 C (yC (k3) C C (yU C C C (K9 C C (yQ ?_)))))))));refine D8 C (B1 (D7 (B6 C (B6 C (yG (ys:=[_,_]) C C (yS (cs':=[_,_]) C C C C C (H3 C (yQ (C4 ?_)))))))))
   exact J5 _ (.agg D6 C C C C (.tmp C .nil)) C
def AW (p:Bool×F6):Option Cf:=(Qh p.2).map fun c=>if p.1 then (c.1,J3 (- val c.2))else c
def Lc (s:F6):Bool:=(S3 s).all fun p=>(AW p).isSome
def GE (s:F6):List Cf:=(S3 s).filterMap AW
def Ki (s:F6):Int:=if s=[48]then 0 else if Lc s then (if 16<(GE s).length then 4 else 0)else 3
def Hq (s:F6):List Cf:=if s=[48]then []else if Lc s then (if 16<(GE s).length then []else nf (GE s))else []
theorem Kh:∀ (n:Nat) (neg:Bool) (s:F6),s.length<n->(Hx n neg s).length<=s.length+1 ∧ ∀ p∈Hx n neg s,p.2.length<=s.length
 | 0,_,_,h=>by omega
 | n+1,neg,s,h=>by
  rw[Hx]
  have l0:=V2 32 s
  by_cases hb:BL 32 s=true
  . have l1:=l0.2.2 hb
    have l2:=(V2 32 (P7 32 s)).2.1
    rw[B9 hb]
    by_cases hc:R0 32 (P7 32 s)=[43]∨R0 32 (P7 32 s)=[45]
    . rw[B9 hc]
      obtain⟨h1,h2⟩:=Kh n (R0 32 (P7 32 s)==[45]) (P7 32 (P7 32 s)) (by omega)
      refine⟨by rw[List.length_cons];omega,fun p hp=>?_⟩
      rcases List.mem_cons.1 hp with rfl|hp
      . exact l0.1
      . have:=h2 p hp;omega
    . rw[B5 hc]
      refine⟨by simp;omega,fun p hp=>?_⟩
      simp at hp
      rcases hp with rfl|rfl
      . exact l0.1
      . simp
  . rw[B5 hb]
    refine⟨by simp,fun p hp=>?_⟩
    simp at hp
    rw[hp]
    exact l0.1
theorem Kb (s:F6):(S3 s).length<=s.length+1 ∧ ∀ p∈S3 s,p.2.length<=s.length:=by
 have h:=Jp (c:=45) s (E0 _)
 obtain⟨h1,h2⟩:=Kh ((Hr 45 s).length+1) (Jy 45 s) (Hr 45 s) (Nat.lt_succ_self _)
 exact⟨D9 h1 (by omega),fun p hp=>D9 (h2 p hp) h⟩
theorem Fz {t:F6} {c:Cf} (h:Qh t=some c):Bx c.1=true∧c.2.length<=t.length+1:=by
 have hl:=(V2 42 t).1
 have hR:∀ d nm,Qg d nm=some c->Bx c.1=true∧c.2.length<=d.length:=fun d nm h=>by
  unfold Qg at h
  split at h
  . rename_i h1
    cases h
    exact⟨h1.2.2,DF d⟩
  . cases h
 unfold Qh at h
 split at h
 . have:=hR _ _ h
   exact⟨this.1,by omega⟩
 . have:=hR _ _ h
   exact⟨this.1,by have:=this.2;simp at this;omega⟩
theorem Bm {p:Bool×F6} {c:Cf} (h:AW p=some c):Bx c.1=true∧c.2.length<=p.2.length+2:=by
 unfold AW at h
 rw[C7]at h
 obtain⟨d,h1,h2⟩:=h
 obtain⟨h3,h4⟩:=Fz h1
 split at h2
 . rw[<-h2]
   exact⟨h3,D9 (EU (k:=p.2.length+1) (by rw[Int.natAbs_neg];exact GV h4)) (by omega)⟩
 . rw[<-h2]
   exact⟨h3,by omega⟩
abbrev pT:Nat:=113*100000+4
theorem itParts (s:F6) (hs:s.length<=1000000):PCalls Tryz.prog 126 [dS s] (.d (dIt Tryz.prog ((S3 s).map Hs))):=by
 refine L5 Tryz.func126 C Tryz.ntmps126 Tryz.results126 fun B w0=>?_
 refine D7 (yK (cs:=[_]) C C (H3 C (yQ (D7 (OQ C (yAf C (yQ ?_)))))));refine pw_it1 2 1 ((S3 s).map Hs) (ds:=[dS s]) (Kg s hs) C C C ?_;refine C4 ?_
 exact M5 C C
theorem wParseG (s:F6) (hs:s.length<=65536) (hpl:(S3 s).length<=65537) (hpt:∀ p∈S3 s,p.2.length<=65536):PCalls Tryz.prog 80 [dS s] (.tup [.sl 2 ((Hq s).map dCf),dI (Ki s)]):=by
 have t0:decide ((s.length:Int) > 65536)=false:=A7 (by omega)
 by_cases h0:s=[48]
 . have t1:(s==[48])=true:=by simp[h0]
   rw[Hq,Ki,B9 h0,B9 h0]
   refine L5 Tryz.func80 C Tryz.ntmps80 Tryz.results80 fun B w0=>?_
   refine D7 (yZ (cs:=[_]) C C (yZ (cs:=[_]) C C (yQ (B2 (D7 (B6 C (N3 C (yB C C C C (yQ ?_)))))))));refine B3 ?_;rw[t0];refine D8 C (B1 (B2 (D7 (B6 C (N6 C C (yQ (B3 ?_)))))));rw[t1];refine G2 C (D7 (X8 (cs':=[_]) C C C C (X8 (cs':=[_]) C C C C (yQ (C4 (A5 ?_))))))
   exact J5 _ (.onil 2 D6 C C (.one D6 C C C .nil)) C
 have t1:(s==[48])=false:=by simp[h0]
 rw[Hq,Ki,B5 h0,B5 h0]
 have k1:=itParts s (by omega)
 obtain⟨R,hR⟩:=H8 ((if Lc s=true then (if 16<(GE s).length then []else nf (GE s))else []))
 obtain⟨E,hE⟩:∃ E:Int,E=(if Lc s=true then (if 16<(GE s).length then 4 else 0)else 3):=⟨_,rfl⟩
 rw[<-hR,<-hE]
 have hLl:∀ i,(((S3 s).take i).filterMap AW).length<=65537:=fun i=>D9 (List.length_filterMap_le _ _) (by rw[F4];omega)
 refine DS Tryz.func80 C Tryz.ntmps80 Tryz.results80 (by simp) fun B w0 hrl=>?_
 refine D7 (yZ (cs:=[_]) C C (yZ (cs:=[_]) C C (yQ (B2 (D7 (B6 C (N3 C (yB C C C C (yQ ?_)))))))));refine B3 ?_;rw[t0];refine D8 C (B1 (B2 (D7 (B6 C (N6 C C (yQ (B3 ?_)))))));rw[t1];refine D8 C (B1 (D7 (yZ (cs:=[_]) C C (yQ ?_))));refine Bp 4 0 pT 2 C C C C ?_;refine B2 (D7 (B6 C (yC (k1) C C (yQ (B7 ?_)))));refine RK (st':=⟨39,[(2,.bx 2 0),(3,.bx 3 0),(4,.bx 4 0),(15,.d (dIt Tryz.prog ((S3 s).map Hs)))],[(2,[.d (.val (.slice none 0 0))]),(3,[.d (dI 0)]),(4,[.ts pT 2 ((((S3 s).take 0).filterMap AW).map dCf)])],[(pT,((((S3 s).take 0).filterMap AW).map dCf).length)]⟩) ⟨rfl,⟨E6,E6,E6,E6,D3⟩,⟨⟨_,C,H5 _⟩,⟨_,C,H5 _⟩,⟨_,C,H5 _⟩,D3⟩,⟨rfl,D3⟩,C⟩ ?_;refine pw_rf ((S3 s).map Hs) [(5,16),(6,17)] (fun i=>∀ p∈(S3 s).take i,(AW p).isSome=true)
  (fun i=>[(2,[.d (.val (.slice none 0 0))]),(3,[.d (dI 0)]),(4,[.ts pT 2 ((((S3 s).take i).filterMap AW).map dCf)])])
  (fun i=>[(pT,((((S3 s).take i).filterMap AW).map dCf).length)]) (fun p hp=>by simp at hp) hrl rfl (fun x hx=>by obtain⟨p,-,rfl⟩:=H2.1 hx;rfl) rfl rfl (by decide) ?_ ?_
 . intro i x hx hI
   rw[C6,C7]at hx
   obtain⟨⟨neg,t⟩,hp,rfl⟩:=hx
   refine⟨[.any,.any,.bx 2 0,.bx 3 0,.bx 4 0,.d (dB neg),.d (dS t)],of_decide_eq_true C,.any (.any (.keep C (.refl _) (.keep C (.refl _) (.keep C (.refl _) (.new C C (.new C C .nil)))))),C,C,by kernel_rfl,fun B w0=>?_⟩
   have htl:=hpt _ (B8 hp)
   simp only at htl
   have k2:=Lj t (by omega)
   have hli:=hLl i
   have htk:(S3 s).take (i+1)=(S3 s).take i++[(neg,t)]:=by rw[H4,hp];rfl
   cases ht:Qh t with
   | none=>
    rw[ht]at k2
    have hok:Lc s=false:=by
     rw[Lc,List.all_eq_false]
     exact⟨(neg,t),B8 hp,by simp[AW,ht]⟩
    rw[hok,B5 (by simp)]at hR hE
    subst hR hE
    obtain⟨l,hl⟩:=H8 ((((S3 s).take i).filterMap AW).map dCf)
    rw[<-hl]
    refine B7 (D7 (B6 C (yC (k2) C C (N9 C (yX C C (yX C C (yZ (cs:=[_,_]) C C (yS (cs':=[_,_]) C C C C C (H3 C ?_)))))))));refine yQ (B2 (D7 (B6 C (yU C C C (yQ (G2 C (D7 (X8 (cs':=[_]) C C C C (X8 (cs':=[_]) C C C C ?_)))))))));refine yQ (C4 (A5 (C3 ?_)))
    exact⟨[(2,[.d (.val (.slice none 0 0))]),(3,[.d (dI 3)]),(4,[.ts pT 2 l])],[(pT,l.length)],⟨rfl,C,C,D3⟩,⟨rfl,D3⟩,C,C,by kernel_rfl,J5 _ (.onil 2 D6 rfl rfl (.one D6 rfl rfl rfl .nil)) rfl⟩
   | some c=>
    obtain⟨c0,c1⟩:=c
    rw[ht]at k2
    have hcl:=Fz ht
    simp only at hcl
    cases neg with
    | false=>
     have hnx:((S3 s).take (i+1)).filterMap AW=((S3 s).take i).filterMap AW++[(c0,c1)]:=by rw[htk,List.filterMap_append];simp[AW,ht]
     have hI2:∀ p∈(S3 s).take (i+1),(AW p).isSome=true:=fun p hp2=>by
      rw[htk]at hp2
      rcases List.mem_append.1 hp2 with h|h
      . exact hI p h
      . rw[List.mem_singleton.1 h];simp[AW,ht]
     obtain⟨zs,hz⟩:=H8 (((S3 s).take i).filterMap AW)
     rw[<-hz]at hnx hli ⊢
     clear hz
     refine B7 (D7 (B6 C (yC (k2) C C (N9 C (yX C C (yX C C (yZ (cs:=[_,_]) C C (yS (cs':=[_,_]) C C C C C (H3 C ?_)))))))));refine yQ (B2 (D7 (B6 C (yU C C C (yQ (D8 C (B1 (B2 (D7 ?_)))))))));refine B6 C (yQ (D8 C (B1 (B4 (Ju C C C (Ae (ys:=[_,_]) C C C C ?_))))));refine yR (es:=[[_,_]]) C C C C C ?_;refine yT (es':=(zs++[(c0,c1)]).map dCf) (m:=((zs++[(c0,c1)]).map dCf).length) (by simp;omega) (by simp;omega) C C C C C (by simp) (by simp) ?_;refine Pr (cs':=[_]) C C C C (yQ (BA ?_))
     exact⟨hI2,⟨rfl,C,(by rw[hnx];rfl),D3⟩,⟨(by rw[hnx];rfl),D3⟩⟩
    | true=>
     have hnx:((S3 s).take (i+1)).filterMap AW=((S3 s).take i).filterMap AW++[(c0,J3 (- val c1))]:=by rw[htk,List.filterMap_append];simp[AW,ht]
     have hI2:∀ p∈(S3 s).take (i+1),(AW p).isSome=true:=fun p hp2=>by
      rw[htk]at hp2
      rcases List.mem_append.1 hp2 with h|h
      . exact hI p h
      . rw[List.mem_singleton.1 h];simp[AW,ht]
     have k3:=QP c1 (by omega)
     obtain⟨zs,hz⟩:=H8 (((S3 s).take i).filterMap AW)
     obtain⟨q,hq⟩:=H8 (J3 (- val c1))
     rw[<-hz,<-hq]at hnx
     rw[<-hz]at hli ⊢
     rw[<-hq]at k3
     clear hz hq
     refine B7 (D7 (B6 C (yC (k2) C C (N9 C (yX C C (yX C C (yZ (cs:=[_,_]) C C (yS (cs':=[_,_]) C C C C C (H3 C ?_)))))))));refine yQ (B2 (D7 (B6 C (yU C C C (yQ (D8 C (B1 (B2 (D7 ?_)))))))));refine B6 C (yQ (G2 C (B4 (X9 C (AL C C C (yC (k3) C C (X9 C (X8 (cs':=[_,_]) C C C C (yQ ?_)))))))));refine B4 (Ju C C C (Ae (ys:=[_,_]) C C C C ?_));refine yR (es:=[[_,_]]) C C C C C ?_;refine yT (es':=(zs++[(c0,q)]).map dCf) (m:=((zs++[(c0,q)]).map dCf).length) (by simp;omega) (by simp;omega) C C C C C (by simp) (by simp) ?_;refine Pr (cs':=[_]) C C C C (yQ (BA ?_))
     exact⟨hI2,⟨rfl,C,(by rw[hnx];rfl),D3⟩,⟨(by rw[hnx];rfl),D3⟩⟩
 . intro hI
   rw[A8,I2]at hI
   have hok:Lc s=true:=E5.2 hI
   rw[hok,B9 rfl]at hR hE
   rw[A8,I2]
   show As 0 _ .normal ⟨39,_,[(2,[.d (.val (.slice none 0 0))]),(3,[.d (dI 0)]),(4,[.ts pT 2 ((GE s).map dCf)])],[(pT,((GE s).map dCf).length)]⟩
   have hll:(GE s).length<=65537:=by have:=hLl (S3 s).length;rwa [I2]at this
   by_cases h3:16<(GE s).length
   . have t2:decide ((((GE s).map dCf).length:Int) > 16)=true:=B0 (by rw[A8];omega)
     rw[B9 h3]at hR hE
     subst hR hE
     obtain⟨l,hl⟩:=H8 ((GE s).map dCf)
     rw[<-hl]at t2 ⊢
     refine B2 (D7 (Ju C C C (yN C (yB C C C C (yQ (B3 ?_))))));rw[t2];refine G2 C (D7 (X8 (cs':=[_]) C C C C (X8 (cs':=[_]) C C C C (yQ (C4 (A5 ?_))))))
     exact J5 _ (.onil 2 D6 C C (.one D6 C C C .nil)) C
   . have t2:decide ((((GE s).map dCf).length:Int) > 16)=false:=A7 (by rw[A8];omega)
     rw[B5 h3]at hR hE
     subst hE
     have hm:∀ c∈GE s,Bx c.1=true∧c.2.length<=70000:=fun c hc=>by
      obtain⟨p,hp,h4⟩:=List.mem_filterMap.1 hc
      have h5:=Bm h4
      have h6:=hpt p hp
      exact⟨h5.1,by omega⟩
     have k4:=KD (GE s) (by omega) (fun c hc=>by have:=Cq (hm c hc).1;omega) (fun c hc=>(hm c hc).2)
     rw[<-hR]at k4
     obtain⟨l,hl⟩:=H8 ((GE s).map dCf)
     rw[<-hl]at t2 k4 ⊢
     refine B2 (D7 (Ju C C C (yN C (yB C C C C (yQ (B3 ?_))))));rw[t2];refine D8 C (B1 (D7 (Ju C C C (yC (k4) C C (ySl (cs':=[_]) C C C C (X8 (cs':=[_]) C C C C (yQ (C4 ?_))))))))
     exact J5 _ (.one D6 C C C (.one D6 C C C .nil)) C
theorem wParse (s:F6) (hs:s.length<=65536):PCalls Tryz.prog 80 [dS s] (.tup [.sl 2 ((Hq s).map dCf),dI (Ki s)]):=by
 obtain⟨hpl,hpt⟩:=Kb s
 exact wParseG s (by omega) (by omega) fun p hp=>D9 (hpt p hp) hs
abbrev IJ:Nat:=32
abbrev Ps:Nat:=53
abbrev DT (l:List Ru):List (Int×List (List DV)):=l.map fun r=>(r.1,r.2.map W9)
def At (t:F6):Option (List Cf):=if Ki t=0 then some (Hq t)else none
def lnG (c:Bool) (out:List Ru) (t:F6):Option (List Ru):=
 if BL 32 t&&M0 I4 (R0 32 t) && !out.isEmpty then (At (P7 32 t)).map fun e=>Jt (R0 32 t,c,e) out else none
def MRd (bo:Nat) (out:List Ru) (o:Option (List Ru)) (r:SV) (j:EI):Prop:=r=.d (dB o.isSome)∧RA j bo IJ Ps (DT (o.getD out))
theorem MRd.ok {bo:Nat} {out:List Ru} {o:Option (List Ru)} (r:SV) (j:EI) (h:MRd bo out o r j):BR r=true:=by
 rw[h.1];rfl
theorem hLine (c:Bool) (out:List Ru) (t:F6) (bo:Nat) (i:EI) (hi:RA i bo IJ Ps (DT out)) (ht:t.length<=65536) (ho:out.length<=100000) (hol:∀ r∈out,r.2.length<=100000):
 HCE Tryz.prog 78 [dS t,.val (.pointer (some ⟨bo,0,none⟩)),.ref [dB c]] i (MRd bo out (lnG c out t)):=by
 obtain⟨hl1,hl2,-⟩:=V2 32 t
 have k1:=KH t 32 (by omega)
 have k2:=wParse (P7 32 t) (by omega)
 have k3:=QR (R0 32 t) (by omega)
 obtain⟨O,hO⟩:=H8 (lnG c out t)
 rw[<-hO]
 unfold lnG At at hO
 obtain⟨T,hT⟩:=H8 (R0 32 t)
 obtain⟨R,hR⟩:=H8 (P7 32 t)
 obtain⟨b,hb⟩:=H8 (BL 32 t)
 rw[<-hT,<-hR,<-hb]at k1 hO
 rw[<-hR]at k2
 rw[<-hT]at k3
 obtain⟨e,he⟩:=H8 (Hq R)
 obtain⟨x,hx⟩:=H8 (Ki R)
 obtain⟨tp,htp⟩:=H8 (M0 I4 T)
 rw[<-he,<-hx]at k2 hO
 rw[<-htp]at k3 hO
 clear hT hR hb he hx htp hl1 hl2
 have fail:O=none->MRd bo out O (.d (dB false)) ⟨i.bs,i.fs,none⟩:=fun h=>by rw[h];exact⟨rfl,hi⟩
 obtain⟨xs0,To,v,cells,h1,h2,h3,h4,h5⟩:=hi
 have hv1:=h3.one
 cases b with
 | false=>
  have f1:=fail (by rw[hO];simp)
  refine Z5 Tryz.func78 C Tryz.ntmps78 Tryz.results78 (by simp) fun p d0=>?_
  refine F5 (N0 (L4 (H3 C (yQ (C5 (F5 (N0 (L4 (B6 C ?_)))))))));refine yQ (L4 (yC (k1) C C (yQ (L4 (N9 C (yQ (L4 (yX C C (yQ ?_)))))))));refine L4 (yX C C (yQ (L4 (yX C C (yQ (L4 (H3 C (yQ (L4 ?_)))))))));refine H3 C (yQ (L4 (H3 C (yQ (C5 (F5 (N0 (L4 (B6 C ?_)))))))));refine yQ (L4 (yC (k2) C C (yQ (L4 (N9 C (yQ (L4 (yX C C (yQ ?_)))))))));refine L4 (yX C C (yQ (L4 (H3 C (yQ (L4 (H3 C (yQ (C5 ?_)))))))));refine F5 (F5 (N0 (L4 (B6 C (yQ (L4 (yU C C C (yQ (L4 ?_)))))))));refine B6 C (yQ (L4 (yO C (yQ (L4 (yO C (yQ (L4 (L0 C C ?_)))))))));refine yQ (L4 (B6 C (yQ (L4 (yO C (yQ (L4 (yO C (yQ ?_)))))))));refine L4 (yO C (yQ (L4 (L0 C C (yQ (L4 (B6 C (yQ (L4 ?_)))))))));refine yO C (yQ (L4 (yO C (yQ (L4 (yO C (yQ (L4 (L0 C C ?_)))))))));refine yQ (C5 (O5 C (F5 (N0 (L4 (H3 C (yQ (C5 (M1 ?_)))))))));refine G0 ?_
  exact L7 _ (.tmp C .nil) f1
 | true=>
 by_cases hx0:x=0
 rotate_left
 . have t1:(x != 0)=true:=by simp[hx0]
   have f1:=fail (by rw[hO];split<;>simp)
   refine Z5 Tryz.func78 C Tryz.ntmps78 Tryz.results78 (by simp) fun p d0=>?_
   refine F5 (N0 (L4 (H3 C (yQ (C5 (F5 (N0 (L4 (B6 C ?_)))))))));refine yQ (L4 (yC (k1) C C (yQ (L4 (N9 C (yQ (L4 (yX C C (yQ ?_)))))))));refine L4 (yX C C (yQ (L4 (yX C C (yQ (L4 (H3 C (yQ (L4 ?_)))))))));refine H3 C (yQ (L4 (H3 C (yQ (C5 (F5 (N0 (L4 (B6 C ?_)))))))));refine yQ (L4 (yC (k2) C C (yQ (L4 (N9 C (yQ (L4 (yX C C (yQ ?_)))))))));refine L4 (yX C C (yQ (L4 (H3 C (yQ (L4 (H3 C (yQ (C5 ?_)))))))));refine F5 (F5 (N0 (L4 (B6 C (yQ (L4 (yU C C C (yQ (L4 ?_)))))))));refine B6 C (yQ (L4 (B6 C (yQ (L4 (yB C C C C (yQ (L4 (K9 C C ?_)))))))));refine yQ (L4 (B6 C (yQ (L4 ?_))));rw[t1];refine yO C (yQ (L4 (yO C (yQ (L4 (yO C (yQ (L4 (L0 C C ?_)))))))));refine yQ (L4 (B6 C (yQ (L4 (yO C (yQ (L4 (yO C (yQ ?_)))))))));refine L4 (yO C (yQ (L4 (L0 C C (yQ (C5 (O5 C (F5 (N0 ?_)))))))));refine L4 (H3 C (yQ (C5 (M1 (G0 ?_)))))
   exact L7 _ (.tmp C .nil) f1
 subst hx0
 cases tp with
 | false=>
  have f1:=fail (by rw[hO];simp)
  refine Z5 Tryz.func78 C Tryz.ntmps78 Tryz.results78 (by simp) fun p d0=>?_
  refine F5 (N0 (L4 (H3 C (yQ (C5 (F5 (N0 (L4 (B6 C ?_)))))))));refine yQ (L4 (yC (k1) C C (yQ (L4 (N9 C (yQ (L4 (yX C C (yQ ?_)))))))));refine L4 (yX C C (yQ (L4 (yX C C (yQ (L4 (H3 C (yQ (L4 ?_)))))))));refine H3 C (yQ (L4 (H3 C (yQ (C5 (F5 (N0 (L4 (B6 C ?_)))))))));refine yQ (L4 (yC (k2) C C (yQ (L4 (N9 C (yQ (L4 (yX C C (yQ ?_)))))))));refine L4 (yX C C (yQ (L4 (H3 C (yQ (L4 (H3 C (yQ (C5 ?_)))))))));refine F5 (F5 (N0 (L4 (B6 C (yQ (L4 (yU C C C (yQ (L4 ?_)))))))));refine B6 C (yQ (L4 (B6 C (yQ (L4 (yB C C C C (yQ (L4 (K9 C C ?_)))))))));refine yQ (L4 (B6 C (yQ (L4 (B6 C (yQ (L4 (yC (k3) C C (yQ ?_)))))))));refine L4 (yU C C C (yQ (L4 (K9 C C (yQ (L4 (B6 C (yQ (L4 ?_)))))))));refine yO C (yQ (L4 (yO C (yQ (L4 (yO C (yQ (L4 (L0 C C ?_)))))))));refine yQ (C5 (O5 C (F5 (N0 (L4 (H3 C (yQ (C5 (M1 ?_)))))))));refine G0 ?_
  exact L7 _ (.tmp C .nil) f1
 | true=>
 rcases List.eq_nil_or_concat out with rfl|⟨l',r,rfl⟩
 . have f1:=fail (by rw[hO];simp)
   have hv:v=.slice none 0 0:=RowAt.zero h3
   subst hv
   refine Z5 Tryz.func78 C Tryz.ntmps78 Tryz.results78 (by simp) fun p d0=>?_
   refine F5 (N0 (L4 (H3 C (yQ (C5 (F5 (N0 (L4 (B6 C ?_)))))))));refine yQ (L4 (yC (k1) C C (yQ (L4 (N9 C (yQ (L4 (yX C C (yQ ?_)))))))));refine L4 (yX C C (yQ (L4 (yX C C (yQ (L4 (H3 C (yQ (L4 ?_)))))))));refine H3 C (yQ (L4 (H3 C (yQ (C5 (F5 (N0 (L4 (B6 C ?_)))))))));refine yQ (L4 (yC (k2) C C (yQ (L4 (N9 C (yQ (L4 (yX C C (yQ ?_)))))))));refine L4 (yX C C (yQ (L4 (H3 C (yQ (L4 (H3 C (yQ (C5 ?_)))))))));refine F5 (F5 (N0 (L4 (B6 C (yQ (L4 (yU C C C (yQ (L4 ?_)))))))));refine B6 C (yQ (L4 (B6 C (yQ (L4 (yB C C C C (yQ (L4 (K9 C C ?_)))))))));refine yQ (L4 (B6 C (yQ (L4 (B6 C (yQ (L4 (yC (k3) C C (yQ ?_)))))))));refine L4 (yU C C C (yQ (L4 (K9 C C (yQ (L4 (B6 C (yQ ?_))))))));refine P4 ?_;refine W7 C h1 h2 hv1 ?_;refine L4 (yNv C (yQ (L4 (yB C C C C (yQ (L4 (K9 C C (yQ (C5 ?_)))))))));refine O5 C (F5 (N0 (L4 (H3 C (yQ (C5 (M1 (G0 ?_))))))))
   exact L7 _ (.tmp C .nil) f1
 rw[List.concat_eq_append]at hO ho hol fail h3 h5 ⊢
 have hOs:O=some (l'++[(r.1,r.2++[(T,c,e)])]):=by
  have hne:(l'++[r]).isEmpty=false:=by cases l'<;>rfl
  rw[hO,hne]
  exact G4 some (Ab _ _ _)
 have hen:(DT (l'++[r])).length=l'.length+1:=by simp
 obtain⟨br,cp,xs,rfl,x2,x3,x1,x4,x5⟩:=h3.pos (by rw[hen];omega)
 rw[hen]at h2 x2 x5 h5 h4 hv1
 have hn1:((l'.length+1:Nat):Int)≠0:=by omega
 have t1:(((l'.length+1:Nat):Int)==0)=false:=G9 hn1
 have hw:IntKind.i64.wrap (((l'.length+1:Nat):Int)-1)=(l'.length:Int):=by
  rw[C9]at ho
  simp only[List.length_cons,List.length_nil]at ho
  rw[I8 _ (by omega)];omega
 have hoff:0+((l'.length:Int)).toNat*2=l'.length*2:=by rw[H1];omega
 have hlt:(l'.length:Int)<((l'.length+1:Nat):Int):=by omega
 have hcl:cells.length=(l'.length+1)*2:=by rw[<-x5,F4];omega
 have hen2:DT (l'++[r])=DT l'++[(r.1,r.2.map W9)]:=by simp
 rw[hen2]at h5
 have hel:(DT l').length=l'.length:=by simp
 have hlast:(DT l'++[(r.1,r.2.map W9)])[l'.length]? = some (r.1,r.2.map W9):=by rw[E9 (by omega),hel,Nat.sub_self];rfl
 obtain⟨-,lv,lc,q1,q2,q3,q4⟩:=h5.1 _ _ hlast
 have hlv1:=q2.one
 have hu:xs[l'.length*2+1]? = some lv:=by
  rw[<-x5]at q1
  have:=(A6.1 q1).1
  rw[F4]at this
  rwa [E8 (by omega)]at q1
 have hbo:br≠bo:=fun e=>h4 (by rw[e];rfl)
 have hrl:r.2.length<=100000:=hol r (by simp)
 have hxl:l'.length*2+1+1<=xs.length:=by omega
 simp only at q2 q4
 rw[A8]at q2
 have hbr:∀ (b':Nat) (bs':EB),(lv.ownBlock=some b'∨G1 i.bs b'=none)->(∀ b,b≠b'->lv.ownBlock≠some b->G1 bs' b=G1 i.bs b)->G1 bs' br=some (xs,IJ):=fun b' bs' w3 w4=>by
  have h6:lv.ownBlock≠some br:=fun e=>(q3 br e).2 rfl
  have h7:br≠b':=fun e=>by
   rcases w3 with w3|w3
   . exact h6 (e ▸ w3)
   . rw[<-e,x1]at w3;cases w3
  rw[w4 br h7 h6]
  exact x1
 have done:∀ (v':Value) (b':Nat) (bs':EB) (news vs:List Value),v'.ownBlock=some b'->RowAt bs' Ps 3 v' (r.2.length+1) (lc++news)->(lv.ownBlock=some b'∨G1 i.bs b'=none)->(∀ b,b≠b'->lv.ownBlock≠some b->G1 bs' b=G1 i.bs b)->news.length=3->(∀ u∈news,u.oneCell'=true)->vs.length=1->Lf vs [.val v'] →
  MRd bo (l'++[r]) O (.d (dB true)) ⟨(br,(BO xs (l'.length*2+1) vs,IJ))::bs',vs.zip [.val v']++(news.zip [dS T,dB c,.sl 2 (e.map dCf)]++i.fs),none⟩:=fun v' b' bs' news vs w1 w2 w3 w4 w5 w6 w7 w8=>by
  have hra:=RA.line (i:=i) (bo:=bo) (br:=br) (Er:=IJ) (El:=Ps) (To:=To) (c:=cp) (b':=b') (rs:=DT l') (r:=(r.1,r.2.map W9)) (e:=[dS T,dB c,.sl 2 (e.map dCf)]) (xs0:=xs0) (xs:=xs) (vs:=vs) (news:=news) (cells:=cells) (lc:=lc) (lv:=lv) (v':=v') (bs':=bs') (fs':=vs.zip [.val v']++(news.zip [dS T,dB c,.sl 2 (e.map dCf)]++i.fs)) (it':=none)
   h1 (by rw[hel];exact h2) hbo (by rw[hel];exact h5) (by rw[hel];exact hcl) x1 (by rw[hel];exact x2) x3 x4 (by rw[hel];exact x5) (by rw[hel];exact q1) (by simpa using q2) (fun m l hm=>q4 m l hm) w1 (by simpa using w2) w3 w4 w5 rfl w6 w7 w8 (fun q hq=>by simp[hq]) (fun q hq=>List.mem_append_right _ (List.mem_append_left _ hq))
  rw[hel]at hra
  rw[hOs]
  refine⟨rfl,?_⟩
  have e3:DT ((some (l'++[(r.1,r.2++[(T,c,e)])])).getD (l'++[r]))=DT l'++[(r.1,r.2.map W9++[[dS T,dB c,.sl 2 (e.map dCf)]])]:=by simp[DT]
  rw[e3]
  exact hra
 clear fail hO hOs h5 q4 hol hlast hen2 hel
 refine Z5 Tryz.func78 C Tryz.ntmps78 Tryz.results78 (by simp) fun p d0=>?_
 refine S4 (Aj 2 C) ?_;refine F5 (N0 (L4 (H3 C (yQ (C5 (F5 (N0 (L4 (B6 C ?_)))))))));refine yQ (L4 (yC (k1) C C (yQ (L4 (N9 C (yQ (L4 (yX C C (yQ ?_)))))))));refine L4 (yX C C (yQ (L4 (yX C C (yQ (L4 (H3 C (yQ (L4 ?_)))))))));refine H3 C (yQ (L4 (H3 C (yQ (C5 (F5 (N0 (L4 (B6 C ?_)))))))));refine yQ (L4 (yC (k2) C C (yQ (L4 (N9 C (yQ (L4 (yX C C (yQ ?_)))))))));refine L4 (yX C C (yQ (L4 (H3 C (yQ (L4 (H3 C (yQ (C5 ?_)))))))));refine F5 (F5 (N0 (L4 (B6 C (yQ (L4 (yU C C C (yQ (L4 ?_)))))))));refine B6 C (yQ (L4 (B6 C (yQ (L4 (yB C C C C (yQ (L4 (K9 C C ?_)))))))));refine yQ (L4 (B6 C (yQ (L4 (B6 C (yQ (L4 (yC (k3) C C (yQ ?_)))))))));refine L4 (yU C C C (yQ (L4 (K9 C C (yQ (L4 (B6 C (yQ ?_))))))));refine P4 ?_;refine W7 C h1 h2 hv1 ?_;refine L4 (yNv C (yQ (L4 (yB C C C C (yQ (L4 (K9 C C (yQ (C5 ?_)))))))));refine O4 C (I3 (F5 (N0 ?_)));refine P4 ?_;refine W7 C h1 h2 hv1 ?_;refine P4 ?_;refine W7 C h1 h2 hv1 ?_;refine L4 (yNv C (yQ (L4 (yB C C C C (yQ (L4 ?_))))));rw[t1];rw[hw]
 refine Lg hoff (by omega) hlt C C (yQ (L4 (H3 C (yQ (C5 (F5 ?_))))));refine RU Tryz.mixed ?_
 refine T5 0 C C C (by kernel_rfl) (X4 C) ?_
 refine T5 1 C C C (by kernel_rfl) (X4 C) ?_
 refine T5 2 C C C (by kernel_rfl) (held_nc C) ?_
 refine T5 3 C C C (by kernel_rfl) (Nr C) ?_
 refine T5 5 C C C (by kernel_rfl) (X4 C) ?_
 refine T5 7 C C C (by kernel_rfl) (X4 C) ?_
 refine J7 [4,6] C C ⟨⟨_,C,?_⟩,⟨_,C,?_⟩,D3⟩
 . refine W7 C x1 hu hlv1 ?_;refine J7 [_] C C ⟨⟨_,C,?_⟩,D3⟩;refine L4 (K5 C C (yQ (C5 ?_)));refine J7 [_] C C ⟨⟨_,C,?_⟩,D3⟩;refine L4 ?_
   refine yG (ys:=[_,_,_]) C C (yQ (C5 ?_));refine J7 [_] C C ⟨⟨_,C,?_⟩,D3⟩;refine L4 ?_;refine yR (es:=[[_,_,_]]) C C C C C ?_;refine yQ (C5 ?_)
   refine J7 [_] C C ⟨⟨_,C,?_⟩,D3⟩;refine CX q2 C C (by omega) (by omega) (fun v' b' bs' news w1 w2 w3 w4 w5 w6 w0 w10=>?_);refine J7 [_] C C ⟨⟨_,C,?_⟩,D3⟩;refine L4 ?_
   refine yXv C (yQ (C5 ?_));refine J7 [_] C C ⟨⟨_,C,?_⟩,D3⟩;refine L4 (yFv C (yQ (C5 ?_)));refine J7 [_] C C ⟨⟨_,C,?_⟩,D3⟩
   refine CY (ds:=[.val v']) C (hbr b' bs' w3 w4) C C hxl (fun vs w7 w9 w8=>?_);refine Bv C ?_;refine F5 (N0 (L4 (H3 C (yQ (C5 (M1 ?_))))))
   exact L7 _ (.tmp C .nil) (done v' b' bs' news vs w1 w2 w3 w4 w5 w6 w7 w8)
 . refine L4 (K5 C C (yQ (C5 ?_)))
   refine J7 [4,8] C C ⟨⟨_,C,?_⟩,⟨_,C,?_⟩,D3⟩
   . refine W7 C x1 hu hlv1 ?_;refine J7 [_] C C ⟨⟨_,C,?_⟩,D3⟩;refine L4 (yG (ys:=[_,_,_]) C C (yQ (C5 ?_)));refine J7 [_] C C ⟨⟨_,C,?_⟩,D3⟩
     refine L4 ?_;refine yR (es:=[[_,_,_]]) C C C C C ?_;refine yQ (C5 ?_);refine J7 [_] C C ⟨⟨_,C,?_⟩,D3⟩
     refine CX q2 C C (by omega) (by omega) (fun v' b' bs' news w1 w2 w3 w4 w5 w6 w0 w10=>?_);refine J7 [_] C C ⟨⟨_,C,?_⟩,D3⟩;refine L4 (yXv C (yQ (C5 ?_)))
     refine J7 [_] C C ⟨⟨_,C,?_⟩,D3⟩;refine L4 (yFv C (yQ (C5 ?_)));refine J7 [_] C C ⟨⟨_,C,?_⟩,D3⟩
     refine CY (ds:=[.val v']) C (hbr b' bs' w3 w4) C C hxl (fun vs w7 w9 w8=>?_);refine Bv C ?_;refine F5 (N0 (L4 (H3 C (yQ (C5 (M1 ?_))))))
     exact L7 _ (.tmp C .nil) (done v' b' bs' news vs w1 w2 w3 w4 w5 w6 w7 w8)
   . refine L4 (yG (ys:=[_,_,_]) C C (yQ (C5 ?_)))
     refine J7 [4,9] C C ⟨⟨_,C,?_⟩,⟨_,C,?_⟩,D3⟩
     . refine W7 C x1 hu hlv1 ?_;refine J7 [_] C C ⟨⟨_,C,?_⟩,D3⟩;refine L4 ?_;refine yR (es:=[[_,_,_]]) C C C C C ?_;refine yQ (C5 ?_)
       refine J7 [_] C C ⟨⟨_,C,?_⟩,D3⟩;refine CX q2 C C (by omega) (by omega) (fun v' b' bs' news w1 w2 w3 w4 w5 w6 w0 w10=>?_);refine J7 [_] C C ⟨⟨_,C,?_⟩,D3⟩;refine L4 ?_
       refine yXv C (yQ (C5 ?_));refine J7 [_] C C ⟨⟨_,C,?_⟩,D3⟩;refine L4 (yFv C (yQ (C5 ?_)));refine J7 [_] C C ⟨⟨_,C,?_⟩,D3⟩
       refine CY (ds:=[.val v']) C (hbr b' bs' w3 w4) C C hxl (fun vs w7 w9 w8=>?_);refine Bv C ?_;refine F5 (N0 (L4 (H3 C (yQ (C5 (M1 ?_))))))
       exact L7 _ (.tmp C .nil) (done v' b' bs' news vs w1 w2 w3 w4 w5 w6 w7 w8)
     . refine L4 ?_;refine yR (es:=[[_,_,_]]) C C C C C ?_;refine yQ (C5 ?_);refine J7 [_] C C ⟨⟨_,C,?_⟩,D3⟩;refine W7 C x1 hu hlv1 ?_
       refine J7 [_] C C ⟨⟨_,C,?_⟩,D3⟩;refine CX q2 C C (by omega) (by omega) (fun v' b' bs' news w1 w2 w3 w4 w5 w6 w0 w10=>?_);refine J7 [_] C C ⟨⟨_,C,?_⟩,D3⟩;refine L4 ?_
       refine yXv C (yQ (C5 ?_));refine J7 [_] C C ⟨⟨_,C,?_⟩,D3⟩;refine L4 (yFv C (yQ (C5 ?_)));refine J7 [_] C C ⟨⟨_,C,?_⟩,D3⟩
       refine CY (ds:=[.val v']) C (hbr b' bs' w3 w4) C C hxl (fun vs w7 w9 w8=>?_);refine Bv C ?_;refine F5 (N0 (L4 (H3 C (yQ (C5 (M1 ?_))))))
       exact L7 _ (.tmp C .nil) (done v' b' bs' news vs w1 w2 w3 w4 w5 w6 w7 w8)
instance mapTyKnd:MapTy Tryz.prog 98:=⟨⟨3,97,by kernel_rfl⟩⟩
def onG (out:List Ru) (t:F6):Option (List Ru):=(Df t).map fun k=>out++[(k.1,[])]
theorem SG {k:Value} {v:DV} (h:(k,v)∈V1 Bz):∃ kk∈kndL,k=vI kk.1∧v=.agg (Pi kk.2):=by
 obtain⟨p,hp,e⟩:=H2.1 h
 obtain⟨kk,hk,rfl⟩:=H2.1 hp
 cases e
 exact⟨kk,hk,C,C⟩
theorem kndM_in {kk:Pq} (h:kk∈kndL):(vI kk.1,.agg (Pi kk.2))∈V1 Bz:=H2.2 ⟨(kk.1,.agg (Pi kk.2)),H2.2 ⟨kk,h,rfl⟩,rfl⟩
theorem PQ {t:F6} (h:∀ k∈kndL,k.2.1≠t):Df t=none:=by
 cases e:Df t with
 | none=>rfl
 | some k=>obtain⟨h1,h2⟩:=Cr e;exact G5 h2 (h k h1)
theorem knd_inj {a b:Pq} (ha:a∈kndL) (hb:b∈kndL) (h:vI a.1=vI b.1):a=b:=by
 have h1:a.1=b.1:=by injection h
 have h2:=Cb ha
 have h3:=Cb hb
 rw[h1,h3]at h2
 exact(J0 h2).symm
def TA (t:F6) (dn:List (Value×DV)):Prop:=(∃ rl,(dn++rl).Perm (V1 Bz)) ∧ ∀ kk∈kndL,(vI kk.1,DV.agg (Pi kk.2))∈dn->kk.2.1≠t
theorem hOn (out:List Ru) (t:F6) (bo:Nat) (i:EI) (hi:RA i bo IJ Ps (DT out)) (ho:out.length<=100000):
 HCE Tryz.prog 82 [dS t,.val (.pointer (some ⟨bo,0,none⟩))] i (MRd bo out (onG out t)):=by
 have k0:=Iy
 have hone:∀ q∈V1 Bz,q.1.oneCell'=true:=fun q hq=>by obtain⟨p,-,rfl⟩:=H2.1 hq;rfl
 have hmem:∀ (k:Value) (v:DV),(k,v)∈V1 Bz->∃ kk∈kndL,k=vI kk.1∧v=.agg (Pi kk.2):=fun k v h=>SG h
 have hin:∀ kk∈kndL,(vI kk.1,.agg (Pi kk.2))∈V1 Bz:=fun kk h=>kndM_in h
 obtain⟨O,hO⟩:=H8 (onG out t)
 rw[<-hO]
 unfold onG at hO
 have fail:O=none->∀ it,MRd bo out O (.d (dB false)) ⟨i.bs,i.fs,it⟩:=fun h it=>by rw[h];exact⟨rfl,hi⟩
 obtain⟨xs0,To,v,cells,h1,h2,h3,h4,h5⟩:=hi
 have hv1:=h3.one
 have hcl:=h3.1
 have hel:(DT out).length=out.length:=by simp
 rw[hel]at h3 hcl
 have hb0:0+1<=xs0.length:=by have:=(A6.1 h2).1;omega
 have hbr:∀ (b':Nat) (bs':EB),(v.ownBlock=some b'∨G1 i.bs b'=none)->(∀ b,b≠b'->v.ownBlock≠some b->G1 bs' b=G1 i.bs b)->G1 bs' bo=some (xs0,To):=fun b' bs' w3 w4=>by
  have h7:bo≠b':=fun e=>by
   rcases w3 with w3|w3
   . exact h4 (e ▸ w3)
   . rw[<-e,h1]at w3;cases w3
  rw[w4 bo h7 h4]
  exact h1
 have done:∀ (n:Int) (it:Option (Nat×List (Value×DV)×List (Value×DV))) (v':Value) (b':Nat) (bs':EB) (news vs:List Value),O=some (out++[(n,[])])->v'.ownBlock=some b'->RowAt bs' IJ 2 v' (out.length+1) (cells++news)->(v.ownBlock=some b'∨G1 i.bs b'=none)->(∀ b,b≠b'->v.ownBlock≠some b->G1 bs' b=G1 i.bs b)->news.length=2->Lf news [.val (vI n),.val (.slice none 0 0)]->vs.length=1->Lf vs [.val v'] →
  MRd bo out O (.d (dB true)) ⟨(bo,(BO xs0 0 vs,To))::bs',vs.zip [.val v']++(news.zip [.val (vI n),.val (.slice none 0 0)]++i.fs),it⟩:=fun n it v' b' bs' news vs hOs w1 w2 w3 w4 w5 w6 w7 w8=>by
  have hra:=RA.push (i:=i) (bo:=bo) (Er:=IJ) (El:=Ps) (To:=To) (b':=b') (rs:=DT out) (xs0:=xs0) (vs:=vs) (news:=news) (cells:=cells) (v:=v) (v':=v') (bs':=bs') (fs':=vs.zip [.val v']++(news.zip [.val (vI n),.val (.slice none 0 0)]++i.fs)) (it':=it) (n:=n)
   h1 h2 h4 h5 (by rw[hel];exact hcl) w1 (by rw[hel];exact w2) w3 w4 w5 w6 w7 w8 (fun q hq=>by simp[hq])
  rw[hOs]
  refine⟨rfl,?_⟩
  have e3:DT ((some (out++[(n,[])])).getD out)=DT out++[(n,[])]:=by simp[DT]
  rw[e3]
  exact hra
 clear h5 hcl
 obtain⟨M,hM⟩:=H8 (V1 Bz)
 have hsw:TA t=fun dn=>(∃ rl,(dn++rl).Perm M) ∧ ∀ kk∈kndL,(vI kk.1,DV.agg (Pi kk.2))∈dn->kk.2.1≠t:=by rw[hM];rfl
 rw[<-hM]at k0 hone hmem hin
 refine Z5 Tryz.func82 C Tryz.ntmps82 Tryz.results82 (by simp) fun p d0=>?_
 refine F5 (N0 (L4 (H3 C (yQ (C5 (F5 (F5 (N0 (L4 ?_)))))))));refine yC (k0) C C (yQ ?_);refine RQ C fun r=>?_;refine L1 ?_;refine IR (fun dn:List (Value×DV)=>⟨22,[(0,.d (dS t)),(1,.d (.val (.pointer (some ⟨bo,0,none⟩)))),(7,.d (.val (.pointer (some ⟨r,0,none⟩))))],[],[]⟩) (fun dn=>⟨i.bs,i.fs,some (r,M,dn)⟩) (fun dn=>TA t dn) (fun dn=>M.length-dn.length) [] ⟨⟨_,List.Perm.refl _⟩,fun q _ hq=>by simp at hq⟩ rfl
  ⟨rfl,⟨E6,E6,E6,D3⟩,D3,D3,rfl⟩ ?_
 intro dn hdn
 rw[hsw]at hdn
 obtain⟨⟨rl0,hp0⟩,hz⟩:=hdn
 refine F5 (N0 ?_);refine P4 (RR C C (fun hp=>?_) (fun kk v' rl hq hp hk1=>?_) hone);refine L4 (yX C C (yQ (C5 (F5 (O4 C (Q4 (F5 (N0 (L4 ?_)))))))));refine H3 C (yQ (C5 (M1 ?_)))
 . have hOn:O=none:=by
    rw[hO,PQ fun k hk=>hz k hk (hp.mem_iff.2 (hin k hk))];rfl
   have f1:=fail hOn (some (r,M,dn))
   skip
   exact L7 _ (.tmp C .nil) f1
 . obtain⟨⟨n,w,ns,sg⟩,hk,rfl,rfl⟩:=hmem kk v' hq
   have hlen:=hp.length_eq
   rw[C9,List.length_cons]at hlen
   by_cases hw:w=t
   . have t1:(w==t)=true:=by simp[hw]
     have hOs:O=some (out++[(n,[])]):=by
      rw[hO,<-hw,SF hk];rfl
     clear hO fail hz hp0 hsw hmem hin hone
     refine L4 (yX C C (yQ (C5 (F5 (O5 C (I3 (L1 (F5 (N0 ?_)))))))));refine P4 (JU C (List.getLast?_concat ..) C C ?_);refine L4 (yX C C (yQ (L4 (yX C C (yQ (L4 (yZ (cs:=[_,_,_]) C C (yQ (L4 ?_)))))))));refine H3 C (yQ (L4 (yS (cs':=[_,_,_]) C C C C C (yQ (C5 (F5 (N0 (L4 (X9 C ?_)))))))));refine yQ (L4 (AL C C C (yQ (L4 (B6 C (yQ (L4 (N6 C C (yQ ?_)))))))));refine C5 (I6 ?_);rw[t1]
     refine O5 C (F5 (N0 ?_));refine P4 ?_;refine W7 C h1 h2 hv1 ?_;refine L4 (B6 C (yQ (L4 (yG (ys:=[_,_]) C C (yQ (L4 ?_))))));refine yR (es:=[[_,_]]) C C C C C ?_;refine yQ ?_;refine P4 ?_;refine CX h3 C C (by omega) (by omega) (fun v' b' bs' news w1 w2 w3 w4 w5 w6 w0 w10=>?_);refine CY (ds:=[.val v']) C (hbr b' bs' w3 w4) C C hb0 (fun vs w7 w9 w8=>?_);refine F5 (N0 (L4 (H3 C (yQ (C5 (M1 (K1 (G0 (K1 ?_)))))))));refine G0 ?_
     exact L7 _ (.tmp C .nil) (done n _ v' b' bs' news vs hOs w1 w2 w3 w4 w5 w0 w7 w8)
   . have t1:(w==t)=false:=by simp[hw]
     have hz2:TA t (dn++[(vI n,.agg (Pi (w,ns,sg)))]):=by
      rw[hsw]
      refine⟨⟨rl,by rw[G8];exact hp⟩,fun k hk2 hm=>?_⟩
      rcases List.mem_append.1 hm with hm|hm
      . exact hz k hk2 hm
      . have e1:=G4 Prod.fst (List.mem_singleton.1 hm)
        have:=knd_inj hk2 hk e1
        rw[this];exact hw
     clear hO fail hp0 hsw hmem hin done
     refine L4 (yX C C (yQ (C5 (F5 (O5 C (I3 (L1 (F5 (N0 ?_)))))))));refine P4 (JU C (List.getLast?_concat ..) C C ?_);refine L4 (yX C C (yQ (L4 (yX C C (yQ (L4 (yZ (cs:=[_,_,_]) C C (yQ (L4 ?_)))))))));refine H3 C (yQ (L4 (yS (cs':=[_,_,_]) C C C C C (yQ (C5 (F5 (N0 (L4 (X9 C ?_)))))))));refine yQ (L4 (AL C C C (yQ (L4 (B6 C (yQ (L4 (N6 C C (yQ ?_)))))))));refine C5 (I6 ?_);rw[t1]
     refine O4 C (I3 (RG (I6 ?_)))
     exact⟨dn++[(vI n,.agg (Pi (w,ns,sg)))],hz2,by rw[C9];simp only[List.length_cons,List.length_nil];omega,⟨rfl,⟨E6,E6,E6,D3⟩,D3,D3,rfl⟩,rfl⟩
theorem QU (c:Bool) (bo:Nat):PCalls Tryz.prog 77 [dB c,.val (.pointer (some ⟨bo,0,none⟩))] (.d (dH 78 [.val (.pointer (some ⟨bo,0,none⟩)),.ref [dB c]])):=by
 refine L5 Tryz.func77 C Tryz.ntmps77 Tryz.results77 fun B w0=>?_
 refine D7 (yK (cs:=[_]) C C (H3 C (yQ ?_)));refine U6 (Ez 2 2 C C C) ?_;refine D7 (yMh C (H3 C (yQ (C4 ?_))))
 exact M5 C C
def AG (r:Ru):Bool:=decide (64<r.2.length)
theorem Nu:∀ xs r,phR AG xs r->PCalls Tryz.prog 84 (xs++([]:List (List DV)).map DV.ref) r:=by
 rintro _ _ ⟨⟨n,ls⟩,rfl,rfl⟩
 show PCalls Tryz.prog 84 [.agg (X6 (n,ls))] (.d (dB (decide (64<ls.length))))
 have t1:decide (((ls.map W9).length:Int) > 64)=decide (64<ls.length):=by rw[A8];exact decide_eq_decide.2 (by omega)
 obtain⟨b,hb⟩:=H8 (decide (64<ls.length))
 rw[<-hb]at t1 ⊢
 refine L5 Tryz.func84 C Tryz.ntmps84 Tryz.results84 fun B w0=>?_
 refine D7 (yK (cs:=[_,_]) C C (H3 C (yQ (D7 (X9 C (AL C C C (yN C (yB C C C C (H3 C ?_)))))))));refine yQ (C4 ?_);rw[t1]
 exact M5 C C
instance hMf:MapOf Tryz.prog 122 (.val .nilFunc):=⟨⟨9,86,by kernel_rfl,by kernel_rfl,fun w=>⟨.nilFunc,by kernel_rfl,fun F w'=>DRep.val _ rfl⟩⟩⟩
abbrev pvO (b:Nat):Value:=.pointer (some ⟨b,0,none⟩)
abbrev rdOn (b:Nat):DV:=dH 82 [.val (pvO b)]
abbrev rdLn (b:Nat) (c:Bool):DV:=dH 78 [.val (pvO b),.ref [dB c]]
def rdM (b:Nat):List (F6×DV):=[(Hu,rdOn b),(Q7,rdLn b false),(N4,rdLn b true)]
theorem rdM_get (b:Nat) (w:F6):ED (.val .nilFunc) w (rdM b)=if w=Hu then rdOn b else if w=Q7 then rdLn b false else if w=N4 then rdLn b true else .val .nilFunc:=by
 unfold rdM
 simp only[ED]
 by_cases h1:w=Hu
 . rw[B9 h1.symm,B9 h1]
 . rw[B5 (Ne.symm h1),B5 h1]
   by_cases h2:w=Q7
   . rw[B9 h2.symm,B9 h2]
   . rw[B5 (Ne.symm h2),B5 h2]
     by_cases h3:w=N4
     . rw[B9 h3.symm,B9 h3]
     . rw[B5 (Ne.symm h3),B5 h3]
theorem RD (x y:DV):Ao Q7 y [(Hu,x)]=[(Hu,x),(Q7,y)]:=by
 rw[Ao,B5 (by decide)];rfl
theorem RC (x y z:DV):Ao N4 z [(Hu,x),(Q7,y)]=[(Hu,x),(Q7,y),(N4,z)]:=by
 rw[Ao,B5 (by decide),Ao,B5 (by decide)];rfl
theorem PM (out:List Ru) (s:F6):Y5 (M0 I4) At out s=if R0 32 s=Hu then onG out (P7 32 s)else if R0 32 s=Q7 then lnG false out (P7 32 s)else if R0 32 s=N4 then lnG true out (P7 32 s)else none:=by
 unfold Y5 onG lnG
 by_cases h1:R0 32 s=Hu
 . rw[B9 h1,B9 h1]
 . rw[B5 h1,B5 h1]
   by_cases h2:R0 32 s=Q7
   . rw[B9 (.inl h2),B9 h2]
     have:decide (R0 32 s=N4)=false:=A7 (by rw[h2];decide)
     rw[this]
   . rw[B5 h2]
     by_cases h3:R0 32 s=N4
     . rw[B9 (.inr h3),B9 h3,B0 h3]
     . rw[B5 (by rintro(h|h);exact h2 h;exact h3 h),B5 h3]
def Mv (k:Nat) (l:List Ru):Prop:=l.length<=k ∧ ∀ r∈l,r.2.length<=k
theorem onG_bd {k:Nat} {out o:List Ru} {t:F6} (h:onG out t=some o) (hb:Mv k out):Mv (k+1) o:=by
 unfold onG at h
 rw[C7]at h
 obtain⟨kk,-,rfl⟩:=h
 refine⟨by have:=hb.1;simp;omega,fun r hr=>?_⟩
 rcases List.mem_append.1 hr with hr|hr
 . exact Nat.le_succ_of_le (hb.2 r hr)
 . rw[List.mem_singleton.1 hr];simp
theorem Rx {c:Bool} {k:Nat} {out o:List Ru} {t:F6} (h:lnG c out t=some o) (hb:Mv k out):Mv (k+1) o:=by
 unfold lnG at h
 split at h
 . rename_i hc
   rw[C7]at h
   obtain⟨e,-,rfl⟩:=h
   rcases List.eq_nil_or_concat out with rfl|⟨l',r,rfl⟩
   . simp at hc
   . rw[List.concat_eq_append]at hb ⊢
     rw[Ab]
     refine⟨by have:=hb.1;simp at this ⊢;omega,fun q hq=>?_⟩
     rcases List.mem_append.1 hq with hq|hq
     . exact Nat.le_succ_of_le (hb.2 q (by simp[hq]))
     . have:=hb.2 r (by simp)
       rw[List.mem_singleton.1 hq];simp;omega
 . cases h
theorem ES (l:List Ru):((DT l).map fun r=>([.val (vI r.1),.sl 3 r.2]:List DV))=l.map X6:=by
 rw[List.map_map];rfl
abbrev pjS (L:List F6) (b k:Nat):PS:=⟨72,[(5,.d (.sl 1 (L.map fun t=>[dS t]))),(6,.d (.val (pvO b))),(8,.d (.mp (Q0 (rdM b)))),(28,.d (.sl 1 (L.map fun t=>[dS t]))),(29,.d (dI L.length)),(30,.d (dI k))],[],[]⟩
theorem Ds (s:F6):PCalls Tryz.prog 37 [dS s] (.tup [P3 (X7 (M0 I4) At s).1,dI (X7 (M0 I4) At s).2.1,dI (X7 (M0 I4) At s).2.2]):=by
 obtain⟨⟨R1,R2,R3⟩,hR⟩:=H8 (X7 (M0 I4) At s)
 rw[<-hR]
 unfold X7 at hR
 by_cases h0:65536<s.length
 . have t0:decide ((s.length:Int) > 65536)=true:=B0 (by omega)
   rw[B9 h0]at hR
   cases hR
   refine L5 Tryz.func37 C Tryz.ntmps37 Tryz.results37 fun B w0=>?_
   refine D7 (H3 C (H3 C (H3 C (yQ (B2 (D7 (B6 C (N3 C (yB C C C C ?_)))))))));refine yQ (B3 ?_);rw[t0];refine G2 C (D7 (H3 C (H3 C (H3 C (yQ (C4 (A5 ?_)))))))
   exact J5 _ (.tnil 2 C (.tmp C (.tmp C .nil))) C
 have t0:decide ((s.length:Int) > 65536)=false:=A7 (by omega)
 rw[B5 h0]at hR
 have k1:=QB s 10 (by omega)
 have hll:=Co 10 s
 have hln:=Ah 10 s
 have hne:=JD 10 s
 obtain⟨L,hL⟩:=H8 (R7 10 s)
 rw[<-hL]at k1 hR hll hln hne
 have hL1:1<=L.length:=by cases L with|nil=>exact G5 rfl hne|cons _ _=>simp
 obtain⟨⟨RO,RN⟩,hG⟩:=H8 (CO (Y5 (M0 I4) At) 0 [] L)
 rw[<-hG]at hR
 clear hL hne
 refine P0 Tryz.func37 C Tryz.ntmps37 Tryz.results37 (by simp) fun p d0 hex=>?_
 refine F5 (N0 (L4 (H3 C (yQ (L4 (H3 C (yQ (L4 (H3 C ?_)))))))));refine yQ (C5 (F5 (F5 (N0 (L4 (B6 C (yQ (L4 (N3 C ?_)))))))));refine yQ (L4 (yB C C C C (yQ (C5 (I6 ?_)))));rw[t0]
 refine O4 C (I3 (F5 (N0 (L4 (B6 C (yQ (L4 (yC (k1) C C (yQ ?_)))))))));refine L4 (H3 C (yQ (C5 (F5 (N0 (L4 (yZ (cs:=[_]) C C (yQ (C5 ?_)))))))));refine NR 6 6 (vs:=[.slice none 0 0]) C C fun b xs T h1 h2=>?_;refine F5 (N0 (L4 (yMh C (yQ (L4 (H3 C (yQ (C5 (F5 ?_)))))))));refine N0 (L4 (yKm C (yQ (L4 (yMh C (yQ (L4 (yKi (l:=[]) C C C C C (yQ ?_)))))))));refine L4 (B6 C (yQ (L4 (yCh (QU false b) C C C (yQ (L4 (yKi C C C C (RD _ _) (yQ (L4 ?_)))))))));refine B6 C (yQ (L4 (yCh (QU true b) C C C (yQ (L4 (yKi C C C C (RC _ _ _) (yQ (L4 (yMm C ?_)))))))));refine yQ (L4 (yAm C (yQ (C5 ?_))));refine S4 (Et 8 500021 (ms:=Q0 (rdM b)) C C) ?_;refine F5 (F5 (N0 (L4 (B6 C (yQ (L4 (yN C (yQ (L4 ?_)))))))));refine B6 C (yQ (C5 (L1 ?_)))
 have hx0:xs[0]? = some (.slice none 0 0):=by
  cases xs with
  | nil=>cases h1
  | cons x l=>cases h1;rfl
 have hra0:RA ⟨[(b,(xs,T))],[],none⟩ b IJ Ps (DT []):=RA.start (To:=T) (xs0:=xs) (by show G1 [(b,(xs,T))] b=_;rw[G3,B9 rfl]) hx0
 clear hx0 h1 h2
 refine IR (fun q:Nat×List Ru×EI=>pjS L b q.1) (fun q=>q.2.2) (fun q=>q.1<=L.length∧Mv q.1 q.2.1∧RA q.2.2 b IJ Ps (DT q.2.1)∧CO (Y5 (M0 I4) At) q.1 q.2.1 (L.drop q.1)=(RO,RN)) (fun q=>L.length-q.1) (0,[],⟨[(b,(xs,T))],[],none⟩) ⟨E7 _,⟨E7 _,fun r hr=>by cases hr⟩,hra0,hG.symm⟩ rfl
  ⟨rfl,⟨E6,E6,E6,E6,FN (by simp),E6,D3⟩,D3,D3,rfl⟩ ?_
 clear hG hra0
 rintro⟨k,out,i⟩ ⟨hk,⟨hout,hol⟩,hra,hI⟩
 simp only at hk hout hol hra hI ⊢
 unfold pjS
 rcases D5 k L.length with h|h
 rotate_left
 . have u1:decide ((k:Int)<(L.length:Int))=false:=A7 (by omega)
   rw[J6 h]at hI
   rw[CO]at hI
   obtain⟨e1,e2⟩:=Eb hI
   subst e2
   rw[<-e1]at hR
   simp only at hR
   have hfree:∀ (F:Nat->Nat->Prop) (w:World),(∀ (b:Nat) (xs:List Value) (T:Nat),G1 i.bs b=some (xs,T)->w.heap[b]? = some (.cells xs.toArray T (0,0)) ∧ ∀ o,F b o)->(∀ q∈i.fs,DRep F w q.1 q.2)->DRep F w (pvO b) (.ref [P3 out]):=fun F w hbs hfs=>by
    have:=hra.data (F:=F) (w:=w) hbs hfs
    rwa [ES]at this
   have c1:=wHasR AG out (by omega)
   clear hra hout hol
   by_cases h64:64<out.length
   . have t1:decide (((out.map X6).length:Int) > 64)=true:=B0 (by rw[A8];omega)
     rw[B9 (.inl h64)]at hR
     cases hR
     refine V7 6 hex C hfree ?_;refine S4 (Aj 6 C) ?_;refine F5 (N0 (L4 (yB C C C C (yQ (C5 (F5 ?_))))));rw[u1];refine O4 C (Q4 (F5 (F5 (N0 (L4 (K5 C C (yQ (L4 (yN C ?_)))))))));refine yQ (L4 (yB C C C C (yQ (L4 (B6 C (yQ (L4 ?_)))))));rw[t1];refine yO C (yQ (L4 (yO C (yQ (L4 (L0 C C (yQ (C5 (O5 C ?_)))))))));refine F5 (N0 (L4 (H3 C (yQ (L4 (H3 C (yQ (L4 (H3 C ?_)))))))));refine yQ (C5 (M1 (G0 ?_)))
     exact L7 _ (.tnil 2 C (.tmp C (.tmp C .nil))) C
   have t1:decide (((out.map X6).length:Int) > 64)=false:=A7 (by rw[A8];omega)
   cases hlg:out.any AG with
   | true=>
    rw[hlg]at c1
    rw[B9 (.inr hlg)]at hR
    cases hR
    refine V7 6 hex C hfree ?_;refine S4 (Aj 6 C) ?_;refine F5 (N0 (L4 (yB C C C C (yQ (C5 (F5 ?_))))));rw[u1];refine O4 C (Q4 (F5 (F5 (N0 (L4 (K5 C C (yQ (L4 (yN C ?_)))))))));refine yQ (L4 (yB C C C C (yQ (L4 (B6 C (yQ (L4 ?_)))))));rw[t1];refine K5 C C (yQ (L4 ?_));refine Jv c1 (.d C (.fn D6 C C Nu .nil)) C ?_;refine yQ (L4 (K9 C C (yQ (C5 (O5 C (F5 (N0 (L4 (H3 C ?_)))))))));refine yQ (L4 (H3 C (yQ (L4 (H3 C (yQ (C5 (M1 (G0 ?_)))))))))
    exact L7 _ (.tnil 2 C (.tmp C (.tmp C .nil))) C
   | false=>
    rw[hlg]at c1
    rw[B5 (by rintro(h|h);exact h64 h;exact G5 (hlg.symm.trans h) (by simp))]at hR
    cases hR
    refine V7 6 hex C hfree ?_;refine S4 (Aj 6 C) ?_;refine F5 (N0 (L4 (yB C C C C (yQ (C5 (F5 ?_))))));rw[u1];refine O4 C (Q4 (F5 (F5 (N0 (L4 (K5 C C (yQ (L4 (yN C ?_)))))))));refine yQ (L4 (yB C C C C (yQ (L4 (B6 C (yQ (L4 ?_)))))));rw[t1];refine K5 C C (yQ (L4 ?_));refine Jv c1 (.d C (.fn D6 C C Nu .nil)) C ?_;refine yQ (L4 (K9 C C (yQ (C5 (O4 C (I3 (F5 (N0 (L4 ?_)))))))));refine K5 C C (yQ (L4 (H3 C (yQ (L4 (H3 C (yQ (L4 (H3 C ?_)))))))));refine yQ (C5 (M1 ?_))
    exact L7 _ (.tmp C (.tmp C (.tmp C .nil))) C
 have u1:decide ((k:Int)<(L.length:Int))=true:=B0 (by omega)
 obtain⟨line,hx⟩:=DJ h
 have ex:=ix (fun t=>[dS t]) L k k line rfl hx
 have hw:IntKind.i64.wrap ((k:Int)+1)=((k+1:Nat):Int):=I8 ((k:Int)+1) (by omega)
 have hwn:IntKind.i64.wrap (((L.map fun t=>([dS t]:List DV)).length:Int)-1)=((L.length-1:Nat):Int):=by rw[A8,I8 _ (by omega)];omega
 have hlb:=hll line (B8 hx)
 have arith:L.length-(k+1)<L.length-k:=by omega
 obtain⟨q1,q2⟩:=A6.1 hx
 rw[I5 q1,q2]at hI
 clear hx q2
 by_cases hlast:k=L.length-1
 . have u2:((k:Int)==((L.length-1:Nat):Int))=true:=by simp[<-hlast]
   rw[J6 (by omega),CO]at hI
   by_cases hle:line=[]
   . have u3:(!line==[])=false:=by simp[hle]
     rw[B9 hle]at hI
     obtain⟨e1,e2⟩:=Eb hI
     subst e2
     rw[<-e1]at hR
     simp only at hR
     have hfree:∀ (F:Nat->Nat->Prop) (w:World),(∀ (b:Nat) (xs:List Value) (T:Nat),G1 i.bs b=some (xs,T)->w.heap[b]? = some (.cells xs.toArray T (0,0)) ∧ ∀ o,F b o)->(∀ q∈i.fs,DRep F w q.1 q.2)->DRep F w (pvO b) (.ref [P3 out]):=fun F w hbs hfs=>by
      have:=hra.data (F:=F) (w:=w) hbs hfs
      rwa [ES]at this
     have c1:=wHasR AG out (by omega)
     clear hra hout hol
     by_cases h64:64<out.length
     . have t1:decide (((out.map X6).length:Int) > 64)=true:=B0 (by rw[A8];omega)
       rw[B9 (.inl h64)]at hR
       cases hR
       refine V7 6 hex C hfree ?_;refine S4 (Aj 6 C) ?_;refine F5 (N0 (L4 (yB C C C C (yQ (C5 (F5 ?_))))));rw[u1];refine O5 C (I3 (F5 (L1 (F5 (N0 (L4 (B6 C (yQ (L4 ?_)))))))));refine yW ex (by omega) C C (yQ (L4 (K5 C C (yQ (L4 (H3 C (yQ (L4 (H3 C ?_)))))))));refine yQ (C5 (F5 (F5 (N0 (L4 (B6 C (yQ (L4 (B6 C ?_)))))))));refine yQ (L4 (yN C (yQ (L4 (yB C C C C (yQ (L4 (yB C C C C (yQ ?_)))))))));refine C5 (I6 ?_);rw[hwn];rw[u2];refine O5 C (F5 (F5 (N0 (L4 (B6 C (yQ (L4 (L8 C C (yQ ?_)))))))));refine C5 (I6 ?_);rw[u3];refine O4 C (I3 (Q4 (F5 (F5 (N0 (L4 (K5 C C (yQ (L4 ?_)))))))));refine yN C (yQ (L4 (yB C C C C (yQ (L4 (B6 C (yQ (L4 ?_))))))));rw[t1];refine yO C (yQ (L4 (yO C (yQ (L4 (L0 C C (yQ (C5 (O5 C ?_)))))))));refine F5 (N0 (L4 (H3 C (yQ (L4 (H3 C (yQ (L4 (H3 C ?_)))))))));refine yQ (C5 (M1 (G0 ?_)))
       exact L7 _ (.tnil 2 C (.tmp C (.tmp C .nil))) C
     have t1:decide (((out.map X6).length:Int) > 64)=false:=A7 (by rw[A8];omega)
     cases hlg:out.any AG with
     | true=>
      rw[hlg]at c1
      rw[B9 (.inr hlg)]at hR
      cases hR
      refine V7 6 hex C hfree ?_;refine S4 (Aj 6 C) ?_;refine F5 (N0 (L4 (yB C C C C (yQ (C5 (F5 ?_))))));rw[u1];refine O5 C (I3 (F5 (L1 (F5 (N0 (L4 (B6 C (yQ (L4 ?_)))))))));refine yW ex (by omega) C C (yQ (L4 (K5 C C (yQ (L4 (H3 C (yQ (L4 (H3 C ?_)))))))));refine yQ (C5 (F5 (F5 (N0 (L4 (B6 C (yQ (L4 (B6 C ?_)))))))));refine yQ (L4 (yN C (yQ (L4 (yB C C C C (yQ (L4 (yB C C C C (yQ ?_)))))))));refine C5 (I6 ?_);rw[hwn];rw[u2];refine O5 C (F5 (F5 (N0 (L4 (B6 C (yQ (L4 (L8 C C (yQ ?_)))))))));refine C5 (I6 ?_);rw[u3];refine O4 C (I3 (Q4 (F5 (F5 (N0 (L4 (K5 C C (yQ (L4 ?_)))))))));refine yN C (yQ (L4 (yB C C C C (yQ (L4 (B6 C (yQ (L4 ?_))))))));rw[t1];refine K5 C C (yQ (L4 ?_));refine Jv c1 (.d C (.fn D6 C C Nu .nil)) C ?_;refine yQ (L4 (K9 C C (yQ (C5 (O5 C (F5 (N0 (L4 (H3 C ?_)))))))));refine yQ (L4 (H3 C (yQ (L4 (H3 C (yQ (C5 (M1 (G0 ?_)))))))))
      exact L7 _ (.tnil 2 C (.tmp C (.tmp C .nil))) C
     | false=>
      rw[hlg]at c1
      rw[B5 (by rintro(h|h);exact h64 h;exact G5 (hlg.symm.trans h) (by simp))]at hR
      cases hR
      refine V7 6 hex C hfree ?_;refine S4 (Aj 6 C) ?_;refine F5 (N0 (L4 (yB C C C C (yQ (C5 (F5 ?_))))));rw[u1];refine O5 C (I3 (F5 (L1 (F5 (N0 (L4 (B6 C (yQ (L4 ?_)))))))));refine yW ex (by omega) C C (yQ (L4 (K5 C C (yQ (L4 (H3 C (yQ (L4 (H3 C ?_)))))))));refine yQ (C5 (F5 (F5 (N0 (L4 (B6 C (yQ (L4 (B6 C ?_)))))))));refine yQ (L4 (yN C (yQ (L4 (yB C C C C (yQ (L4 (yB C C C C (yQ ?_)))))))));refine C5 (I6 ?_);rw[hwn];rw[u2];refine O5 C (F5 (F5 (N0 (L4 (B6 C (yQ (L4 (L8 C C (yQ ?_)))))))));refine C5 (I6 ?_);rw[u3];refine O4 C (I3 (Q4 (F5 (F5 (N0 (L4 (K5 C C (yQ (L4 ?_)))))))));refine yN C (yQ (L4 (yB C C C C (yQ (L4 (B6 C (yQ (L4 ?_))))))));rw[t1];refine K5 C C (yQ (L4 ?_));refine Jv c1 (.d C (.fn D6 C C Nu .nil)) C ?_;refine yQ (L4 (K9 C C (yQ (C5 (O4 C (I3 (F5 (N0 (L4 ?_)))))))));refine K5 C C (yQ (L4 (H3 C (yQ (L4 (H3 C (yQ (L4 (H3 C ?_)))))))));refine yQ (C5 (M1 ?_))
      exact L7 _ (.tmp C (.tmp C (.tmp C .nil))) C
   . have u3:(!line==[])=true:=by simp[hle]
     rw[B5 hle]at hI
     cases hI
     cases hR
     refine F5 (N0 (L4 (yB C C C C (yQ (C5 (F5 ?_))))));rw[u1];refine O5 C (I3 (F5 (L1 (F5 (N0 (L4 (B6 C (yQ (L4 ?_)))))))));refine yW ex (by omega) C C (yQ (L4 (K5 C C (yQ (L4 (H3 C (yQ (L4 (H3 C ?_)))))))));refine yQ (C5 (F5 (F5 (N0 (L4 (B6 C (yQ (L4 (B6 C ?_)))))))));refine yQ (L4 (yN C (yQ (L4 (yB C C C C (yQ (L4 (yB C C C C (yQ ?_)))))))));refine C5 (I6 ?_);rw[hwn];rw[u2]
     refine O5 C (F5 (F5 (N0 (L4 (B6 C (yQ (L4 (L8 C C (yQ ?_)))))))));refine C5 (I6 ?_);rw[u3]
     refine O5 C (F5 (N0 (L4 (B6 C (yQ (L4 (yB C C C C (yQ (L4 ?_)))))))));refine H3 C (yQ (L4 (H3 C (yQ (L4 (H3 C (yQ (C5 (M1 ?_)))))))));refine G0 (G0 (K1 (G0 (G0 (K1 (G0 ?_))))));rw[hw]
     exact L7 _ (.tnil 2 C (.tmp C (.tmp C .nil))) C
 have u2:((k:Int)==((L.length-1:Nat):Int))=false:=G9 (by omega)
 obtain⟨line2,rest2,hd2⟩:∃ a l,L.drop (k+1)=a::l:=by
  cases e:L.drop (k+1) with
  | nil=>rw[List.drop_eq_nil_iff]at e;omega
  | cons a l=>exact⟨a,l,C⟩
 rw[hd2,BQ]at hI
 rw[<-hd2]at hI
 clear hd2
 have hrb:=(V2 32 line).2.1
 have k2:=KH line 32 (by omega)
 obtain⟨O,hO⟩:=H8 (Y5 (M0 I4) At out line)
 rw[<-hO]at hI
 rw[PM]at hO
 have hget:=rdM_get b (R0 32 line)
 obtain⟨W,hW⟩:=H8 (R0 32 line)
 obtain⟨X,hX⟩:=H8 (P7 32 line)
 obtain⟨Y,hY⟩:=H8 (BL 32 line)
 rw[<-hX]at hrb
 rw[<-hW,<-hX,<-hY]at k2
 rw[<-hW]at hget
 rw[<-hW,<-hX]at hO
 clear hW hX hY
 have hXl:X.length<=65536:=by omega
 by_cases w1:W=Hu
 . rw[B9 w1]at hO hget
   have hc:=hOn out X b i hra (by omega)
   have hbd:=fun o (e:onG out X=some o)=>onG_bd e (⟨hout,hol⟩:Mv k out)
   rw[<-hO]at hc hbd
   clear hO w1
   refine F5 (N0 (L4 (yB C C C C (yQ (C5 (F5 ?_))))));rw[u1];refine O5 C (I3 (F5 (L1 (F5 (N0 (L4 (B6 C (yQ (L4 ?_)))))))));refine yW ex (by omega) C C (yQ (L4 (K5 C C (yQ (L4 (H3 C (yQ (L4 (H3 C ?_)))))))));refine yQ (C5 (F5 (F5 (N0 (L4 (B6 C (yQ (L4 (B6 C ?_)))))))));refine yQ (L4 (yN C (yQ (L4 (yB C C C C (yQ (L4 (yB C C C C (yQ ?_)))))))));refine C5 (I6 ?_);rw[hwn];rw[u2]
   refine O4 C (I3 (F5 (N0 (L4 (B6 C (yQ (L4 (yC (k2) C C (yQ ?_)))))))));refine L4 (N9 C (yQ (L4 (yX C C (yQ (L4 (yX C C (yQ (L4 ?_)))))))));refine yX C C (yQ (L4 (H3 C (yQ (L4 (H3 C (yQ (L4 (H3 C ?_)))))))));refine yQ (C5 (F5 (N0 (L4 (B6 C (yQ (L4 (B6 C (yQ ?_)))))))));refine L4 (yKe C C hget (yQ (L4 (H3 C (yQ (C5 (F5 (N0 (L4 ?_)))))))));refine B6 C (yQ (L4 (yEf Tryz.underlying86 C (yQ (L4 (B6 C (yQ (L4 (B6 C ?_)))))))));refine yQ (L4 (B6 C (yQ ?_)));refine P4 ?_;refine Lz hc MRd.ok C C C ?_
   rintro r j ⟨rfl,hra2⟩
   cases O with
   | none=>
    simp only at hI
    cases hI
    cases hR
    refine L4 (yU C C C (yQ (L4 (K9 C C (yQ (C5 (O5 C (F5 (N0 ?_)))))))));refine L4 (B6 C (yQ (L4 (yB C C C C (yQ (L4 (H3 C (yQ (L4 ?_)))))))));refine H3 C (yQ (L4 (H3 C (yQ (C5 (M1 (K1 (G0 (G0 ?_)))))))));refine K1 (G0 ?_);rw[hw]
    exact L7 _ (.tnil 2 C (.tmp C (.tmp C .nil))) C
   | some o=>
    simp only at hI
    have hb2:=hbd o rfl
    refine L4 (yU C C C (yQ (L4 (K9 C C (yQ (C5 (O4 C (I3 (N0 ?_)))))))));refine L4 (yB C C C C (yQ (L4 (B6 C (yQ (C5 (I6 ?_)))))))
    exact⟨(k+1,o,⟨j.bs,j.fs,i.it⟩),⟨h,hb2,hra2,hI⟩,arith,⟨rfl,⟨E6,E6,E6,E6,E6,P2 hw,D3⟩,D3,D3,C⟩,C⟩
 rw[B5 w1]at hO hget
 by_cases w2:W=Q7
 . rw[B9 w2]at hO hget
   have hc:=hLine false out X b i hra hXl (by omega) (fun r hr=>by have:=hol r hr;omega)
   have hbd:=fun o (e:lnG false out X=some o)=>Rx e (⟨hout,hol⟩:Mv k out)
   rw[<-hO]at hc hbd
   clear hO w1
   refine F5 (N0 (L4 (yB C C C C (yQ (C5 (F5 ?_))))));rw[u1];refine O5 C (I3 (F5 (L1 (F5 (N0 (L4 (B6 C (yQ (L4 ?_)))))))));refine yW ex (by omega) C C (yQ (L4 (K5 C C (yQ (L4 (H3 C (yQ (L4 (H3 C ?_)))))))));refine yQ (C5 (F5 (F5 (N0 (L4 (B6 C (yQ (L4 (B6 C ?_)))))))));refine yQ (L4 (yN C (yQ (L4 (yB C C C C (yQ (L4 (yB C C C C (yQ ?_)))))))));refine C5 (I6 ?_);rw[hwn];rw[u2]
   refine O4 C (I3 (F5 (N0 (L4 (B6 C (yQ (L4 (yC (k2) C C (yQ ?_)))))))));refine L4 (N9 C (yQ (L4 (yX C C (yQ (L4 (yX C C (yQ (L4 ?_)))))))));refine yX C C (yQ (L4 (H3 C (yQ (L4 (H3 C (yQ (L4 (H3 C ?_)))))))));refine yQ (C5 (F5 (N0 (L4 (B6 C (yQ (L4 (B6 C (yQ ?_)))))))));refine L4 (yKe C C hget (yQ (L4 (H3 C (yQ (C5 (F5 (N0 (L4 ?_)))))))));refine B6 C (yQ (L4 (yEf Tryz.underlying86 C (yQ (L4 (B6 C (yQ (L4 (B6 C ?_)))))))));refine yQ (L4 (B6 C (yQ ?_)));refine P4 ?_;refine Lz hc MRd.ok C C C ?_
   rintro r j ⟨rfl,hra2⟩
   cases O with
   | none=>
    simp only at hI
    cases hI
    cases hR
    refine L4 (yU C C C (yQ (L4 (K9 C C (yQ (C5 (O5 C (F5 (N0 ?_)))))))));refine L4 (B6 C (yQ (L4 (yB C C C C (yQ (L4 (H3 C (yQ (L4 ?_)))))))));refine H3 C (yQ (L4 (H3 C (yQ (C5 (M1 (K1 (G0 (G0 ?_)))))))));refine K1 (G0 ?_);rw[hw]
    exact L7 _ (.tnil 2 C (.tmp C (.tmp C .nil))) C
   | some o=>
    simp only at hI
    have hb2:=hbd o rfl
    refine L4 (yU C C C (yQ (L4 (K9 C C (yQ (C5 (O4 C (I3 (N0 ?_)))))))));refine L4 (yB C C C C (yQ (L4 (B6 C (yQ (C5 (I6 ?_)))))))
    exact⟨(k+1,o,⟨j.bs,j.fs,i.it⟩),⟨h,hb2,hra2,hI⟩,arith,⟨rfl,⟨E6,E6,E6,E6,E6,P2 hw,D3⟩,D3,D3,C⟩,C⟩
 rw[B5 w2]at hO hget
 by_cases w3:W=N4
 . rw[B9 w3]at hO hget
   have hc:=hLine true out X b i hra hXl (by omega) (fun r hr=>by have:=hol r hr;omega)
   have hbd:=fun o (e:lnG true out X=some o)=>Rx e (⟨hout,hol⟩:Mv k out)
   rw[<-hO]at hc hbd
   clear hO w1
   refine F5 (N0 (L4 (yB C C C C (yQ (C5 (F5 ?_))))));rw[u1];refine O5 C (I3 (F5 (L1 (F5 (N0 (L4 (B6 C (yQ (L4 ?_)))))))));refine yW ex (by omega) C C (yQ (L4 (K5 C C (yQ (L4 (H3 C (yQ (L4 (H3 C ?_)))))))));refine yQ (C5 (F5 (F5 (N0 (L4 (B6 C (yQ (L4 (B6 C ?_)))))))));refine yQ (L4 (yN C (yQ (L4 (yB C C C C (yQ (L4 (yB C C C C (yQ ?_)))))))));refine C5 (I6 ?_);rw[hwn];rw[u2]
   refine O4 C (I3 (F5 (N0 (L4 (B6 C (yQ (L4 (yC (k2) C C (yQ ?_)))))))));refine L4 (N9 C (yQ (L4 (yX C C (yQ (L4 (yX C C (yQ (L4 ?_)))))))));refine yX C C (yQ (L4 (H3 C (yQ (L4 (H3 C (yQ (L4 (H3 C ?_)))))))));refine yQ (C5 (F5 (N0 (L4 (B6 C (yQ (L4 (B6 C (yQ ?_)))))))));refine L4 (yKe C C hget (yQ (L4 (H3 C (yQ (C5 (F5 (N0 (L4 ?_)))))))));refine B6 C (yQ (L4 (yEf Tryz.underlying86 C (yQ (L4 (B6 C (yQ (L4 (B6 C ?_)))))))));refine yQ (L4 (B6 C (yQ ?_)));refine P4 ?_;refine Lz hc MRd.ok C C C ?_
   rintro r j ⟨rfl,hra2⟩
   cases O with
   | none=>
    simp only at hI
    cases hI
    cases hR
    refine L4 (yU C C C (yQ (L4 (K9 C C (yQ (C5 (O5 C (F5 (N0 ?_)))))))));refine L4 (B6 C (yQ (L4 (yB C C C C (yQ (L4 (H3 C (yQ (L4 ?_)))))))));refine H3 C (yQ (L4 (H3 C (yQ (C5 (M1 (K1 (G0 (G0 ?_)))))))));refine K1 (G0 ?_);rw[hw]
    exact L7 _ (.tnil 2 C (.tmp C (.tmp C .nil))) C
   | some o=>
    simp only at hI
    have hb2:=hbd o rfl
    refine L4 (yU C C C (yQ (L4 (K9 C C (yQ (C5 (O4 C (I3 (N0 ?_)))))))));refine L4 (yB C C C C (yQ (L4 (B6 C (yQ (C5 (I6 ?_)))))))
    exact⟨(k+1,o,⟨j.bs,j.fs,i.it⟩),⟨h,hb2,hra2,hI⟩,arith,⟨rfl,⟨E6,E6,E6,E6,E6,P2 hw,D3⟩,D3,D3,C⟩,C⟩
 rw[B5 w3]at hO hget
 subst hO
 simp only at hI
 cases hI
 cases hR
 refine F5 (N0 (L4 (yB C C C C (yQ (C5 (F5 ?_))))));rw[u1];refine O5 C (I3 (F5 (L1 (F5 (N0 (L4 (B6 C (yQ (L4 ?_)))))))));refine yW ex (by omega) C C (yQ (L4 (K5 C C (yQ (L4 (H3 C (yQ (L4 (H3 C ?_)))))))));refine yQ (C5 (F5 (F5 (N0 (L4 (B6 C (yQ (L4 (B6 C ?_)))))))));refine yQ (L4 (yN C (yQ (L4 (yB C C C C (yQ (L4 (yB C C C C (yQ ?_)))))))));refine C5 (I6 ?_);rw[hwn];rw[u2]
 refine O4 C (I3 (F5 (N0 (L4 (B6 C (yQ (L4 (yC (k2) C C (yQ ?_)))))))));refine L4 (N9 C (yQ (L4 (yX C C (yQ (L4 (yX C C (yQ (L4 ?_)))))))));refine yX C C (yQ (L4 (H3 C (yQ (L4 (H3 C (yQ (L4 (H3 C ?_)))))))));refine yQ (C5 (F5 (N0 (L4 (B6 C (yQ (L4 (B6 C (yQ ?_)))))))));refine L4 (yKe C C hget (yQ (L4 (H3 C (yQ (C5 (F5 (N0 (L4 ?_)))))))));refine B6 C (yQ (L4 (yEzf Tryz.underlying86 C (yQ (L4 (B6 C (yQ (L4 (yO C ?_)))))))));refine yQ (L4 (yO C (yQ (L4 (yO C (yQ (L4 (yO C (yQ ?_)))))))));refine L4 (L0 C C (yQ (C5 (O5 C (F5 (N0 (L4 (B6 C (yQ ?_)))))))));refine L4 (yB C C C C (yQ (L4 (H3 C (yQ (L4 (H3 C (yQ (L4 ?_)))))))));refine H3 C (yQ (C5 (M1 (K1 (G0 (G0 (K1 (G0 ?_))))))));rw[hw]
 exact L7 _ (.tnil 2 C (.tmp C (.tmp C .nil))) C
abbrev cAT:Nat:=48*100000+1
abbrev DN (l:List Ac) (n:Int) (cs:List F6):List Ac:=l++cs.map fun c=>(c,n)
theorem NF (n:Int) (cs:List F6) (l:List Ac) (hl:l.length<=1000) (hc:cs.length<=1000):Jz Tryz.prog 68 [.d (dI n),.d (BF cs),.bx 1 0] [(1,[.ts cAT 2 (l.map DM)])] [(cAT,(l.map DM).length)] (.tup []) [(1,[.ts cAT 2 ((DN l n cs).map DM)])] [(cAT,((DN l n cs).map DM).length)]:=by
 refine P5 Tryz.func68 C Tryz.ntmps68 Tryz.results68 (by simp) fun B w0=>?_
 refine D7 (B6 C (yN C (B6 C (yQ (B7 ?_)))));refine H9 (fun k:Nat=>⟨20,[(0,.d (dI n)),(2,.bx 10001 0),(7,.d (BF cs)),(8,.d (dI cs.length)),(9,.d (dI k))],[(10001,[.ts (cAT+10000) 2 ((DN l n (cs.take k)).map DM)])],[(cAT+10000,((DN l n (cs.take k)).map DM).length)]⟩) (fun k=>k<=cs.length) (fun k=>cs.length-k) 0 (E7 _)
  ⟨rfl,⟨E6,E6,E6,FN (by simp),E6,D3⟩,⟨⟨_,rfl,K8 (by simp[DN,SV.sh])⟩,D3⟩,⟨(by simp[DN,Ge];rfl),D3⟩,rfl⟩ ?_
 intro k hk
 rcases D5 k cs.length with h|h
 . have u1:decide ((k:Int)<(cs.length:Int))=true:=B0 (by omega)
   obtain⟨c,hx⟩:=DJ h
   have ex:=ix (fun s=>[dS s]) cs k k c rfl hx
   have hw:=I8 ((k:Int)+1) (by omega)
   have hnx:DN l n (cs.take (k+1))=DN l n (cs.take k)++[(c,n)]:=by
    unfold DN
    rw[H4,hx];simp
   have hzl:(DN l n (cs.take k)).length<=2000:=by simp[DN];omega
   have arith:cs.length-(k+1)<cs.length-k:=by omega
   obtain⟨zs,hz⟩:=H8 (DN l n (cs.take k))
   rw[<-hz]at hnx hzl ⊢
   clear hz
   refine D7 (yB C C C C (yQ (B2 ?_)));rw[u1];refine G2 C (B1 (B2 (B7 (D7 (yW ex (by omega) C C (K5 C C (H3 C (yQ (B4 ?_)))))))));refine Ju C C C (B6 C (B6 C (yG (ys:=[_,_]) C C ?_)));refine yR (es:=[[_,_]]) C C C C C ?_;refine yT (es':=(zs++[(c,n)]).map DM) (m:=((zs++[(c,n)]).map DM).length) (by simp;omega) (by simp;omega) C C C C C (by simp) (by simp) ?_;refine Pr (cs':=[_]) C C C C (yQ (B4 (yB C C C C (B6 C (yQ (B3 ?_))))))
   exact⟨k+1,h,arith,C,⟨E6,E6,E6,E6,P2 hw,D3⟩,⟨⟨_,C,K8 (by rw[hnx])⟩,D3⟩,⟨(by rw[hnx];rfl),D3⟩,rfl⟩
 . have u1:decide ((k:Int)<(cs.length:Int))=false:=A7 (by omega)
   rw[E3 h]
   refine D7 (yB C C C C (yQ (B2 ?_)));rw[u1];refine D8 C (F9 (FG (FG (Ls ?_))))
   exact q_x [] .nil C ⟨rfl,D3⟩ ⟨rfl,D3⟩
def cg0:List F6:=[[49,46,97,99,99,114,117,101,100],[49,46,97,109,111,114,116,105,122,101,100],[49,46,99,97,115,104],[49,46,114,101,118,97,108,117,101,100],[49,46,115,101,99,117,114,105,116,105,101,115]]
def cg1:List F6:=[[51,46,99,97,112,105,116,97,108],[51,46,101,120,99,104,97,110,103,101],[51,46,105,110,118,101,115,116,111,114,115]]
def cg2:List F6:=[[52,46,97,99,116,105,111,110,115],[52,46,100,101,102,101,114,114,101,100],[52,46,105,110,99,111,109,101],[52,46,105,110,116,101,114,101,115,116],[52,46,108,111,110,103],[52,46,115,104,111,114,116],[52,46,117,110,114,101,97,108,105,122,101,100]]
def cg3:List F6:=[[53,46,101,120,112,101,110,115,101,115]]
def ch1:List Ac:=DN [] 1 cg0
def ch2:List Ac:=DN ch1 3 cg1
def ch3:List Ac:=DN ch2 4 cg2
def chtA:List Ac:=DN ch3 5 cg3
theorem wChart:PCalls Tryz.prog 29 [] (.d (.sl 2 (chtA.map DM))):=by
 have l1:ch1.length<=1000:=by decide
 have l2:ch2.length<=1000:=by decide
 have l3:ch3.length<=1000:=by decide
 refine L5 Tryz.func29 C Tryz.ntmps29 Tryz.results29 fun B w0=>?_
 refine D7 (H3 C (yQ (D7 (yZ (cs:=[_]) C C (yQ ?_)))));refine Bp 1 0 cAT 2 C C C C ?_;refine D7 (OQ C (yAf C (yQ (D7 (yMf C ?_)))));refine yR (es:=[[_],[_],[_],[_],[_]]) C C C C C ?_;refine yCxv (NF 1 cg0 [] (by decide) (by decide)) C C ⟨rfl,D3⟩ ⟨rfl,D3⟩ ?_ (hfit:=by kernel_rfl);refine yQ (D7 (yMf C ?_));refine yR (es:=[[_],[_],[_]]) C C C C C ?_;refine yCxv (NF 3 cg1 ch1 l1 (by decide)) C C ⟨rfl,D3⟩ ⟨rfl,D3⟩ ?_ (hfit:=by kernel_rfl);refine yQ (D7 (yMf C ?_));refine yR (es:=[[_],[_],[_],[_],[_],[_],[_]]) C C C C C ?_;refine yCxv (NF 4 cg2 ch2 l2 (by decide)) C C ⟨rfl,D3⟩ ⟨rfl,D3⟩ ?_ (hfit:=by kernel_rfl);refine yQ (D7 (yMf C ?_));refine yR (es:=[[_]]) C C C C C ?_;refine yCxv (NF 5 cg3 ch3 l3 (by decide)) C C ⟨rfl,D3⟩ ⟨rfl,D3⟩ ?_ (hfit:=by kernel_rfl);refine yQ (D7 (Ju C C C (DX C (yQ (C4 ?_)))))
 exact M5 C C
def stdT:F6:=[111,110,32,100,101,112,111,115,105,116,10,100,101,98,105,116,32,49,46,99,97,115,104,32,97,109,111,117,110,116,10,99,114,101,100,105,116,32,51,46,99,97,112,105,116,97,108,32,97,109,111,117,110,116,10,111,110,32,119,105,116,104,100,114,97,119,10,100,101,98,105,116,32,51,46,99,97,112,105,116,97,108,32,97,109,111,117,110,116,10,99,114,101,100,105,116,32,49,46,99,97,115,104,32,97,109,111,117,110,116,10,111,110,32,98,117,121,10,100,101,98,105,116,32,49,46,115,101,99,117,114,105,116,105,101,115,46,42,32,97,109,111,117,110,116,32,43,32,102,101,101,10,99,114,101,100,105,116,32,49,46,99,97,115,104,32,97,109,111,117,110,116,32,43,32,102,101,101,10,111,110,32,115,101,108,108,10,100,101,98,105,116,32,49,46,99,97,115,104,32,112,114,111,99,101,101,100,115,10,99,114,101,100,105,116,32,49,46,115,101,99,117,114,105,116,105,101,115,46,42,32,99,111,115,116,10,99,114,101,100,105,116,32,52,46,108,111,110,103,46,42,32,45,108,111,110,103,99,111,115,116,32,43,32,108,111,110,103,112,114,111,99,101,101,100,115,10,99,114,101,100,105,116,32,52,46,115,104,111,114,116,46,42,32,45,99,111,115,116,32,43,32,108,111,110,103,99,111,115,116,32,45,32,108,111,110,103,112,114,111,99,101,101,100,115,32,43,32,112,114,111,99,101,101,100,115,10,111,110,32,100,101,102,101,114,10,100,101,98,105,116,32,49,46,115,101,99,117,114,105,116,105,101,115,46,42,32,97,109,111,117,110,116,10,99,114,101,100,105,116,32,52,46,100,101,102,101,114,114,101,100,46,42,32,97,109,111,117,110,116,10,111,110,32,105,110,99,111,109,101,10,100,101,98,105,116,32,49,46,99,97,115,104,32,97,109,111,117,110,116,10,99,114,101,100,105,116,32,52,46,105,110,99,111,109,101,46,42,32,97,109,111,117,110,116,10,111,110,32,101,120,112,101,110,115,101,10,100,101,98,105,116,32,53,46,101,120,112,101,110,115,101,115,32,97,109,111,117,110,116,10,99,114,101,100,105,116,32,49,46,99,97,115,104,32,97,109,111,117,110,116,10,111,110,32,112,97,105,100,10,100,101,98,105,116,32,51,46,101,120,99,104,97,110,103,101,32,97,109,111,117,110,116,10,99,114,101,100,105,116,32,49,46,99,97,115,104,32,97,109,111,117,110,116,10,111,110,32,103,111,116,10,100,101,98,105,116,32,49,46,99,97,115,104,32,97,109,111,117,110,116,10,99,114,101,100,105,116,32,51,46,101,120,99,104,97,110,103,101,32,97,109,111,117,110,116,10,111,110,32,115,112,108,105,116,10,100,101,98,105,116,32,49,46,99,97,115,104,32,99,97,115,104,10,99,114,101,100,105,116,32,49,46,115,101,99,117,114,105,116,105,101,115,46,42,32,99,111,115,116,10,99,114,101,100,105,116,32,52,46,97,99,116,105,111,110,115,46,42,32,99,97,115,104,32,45,32,99,111,115,116,10,111,110,32,115,112,105,110,111,102,102,10,100,101,98,105,116,32,49,46,99,97,115,104,32,99,97,115,104,10,100,101,98,105,116,32,49,46,115,101,99,117,114,105,116,105,101,115,46,43,32,109,111,118,101,100,10,99,114,101,100,105,116,32,49,46,115,101,99,117,114,105,116,105,101,115,46,42,32,99,111,115,116,32,43,32,109,111,118,101,100,10,99,114,101,100,105,116,32,52,46,97,99,116,105,111,110,115,46,42,32,99,97,115,104,32,45,32,99,111,115,116,10,111,110,32,101,120,99,104,97,110,103,101,10,100,101,98,105,116,32,49,46,99,97,115,104,32,99,97,115,104,10,100,101,98,105,116,32,49,46,115,101,99,117,114,105,116,105,101,115,46,43,32,98,97,115,105,115,10,99,114,101,100,105,116,32,49,46,115,101,99,117,114,105,116,105,101,115,46,42,32,99,111,115,116,10,99,114,101,100,105,116,32,52,46,97,99,116,105,111,110,115,46,42,32,98,97,115,105,115,32,43,32,99,97,115,104,32,45,32,99,111,115,116,10,111,110,32,101,120,101,114,99,105,115,101,10,100,101,98,105,116,32,49,46,115,101,99,117,114,105,116,105,101,115,46,43,32,109,111,118,101,100,32,43,32,112,97,105,100,10,99,114,101,100,105,116,32,49,46,99,97,115,104,32,112,97,105,100,10,99,114,101,100,105,116,32,49,46,115,101,99,117,114,105,116,105,101,115,46,42,32,109,111,118,101,100,10,111,110,32,99,97,112,105,116,97,108,10,100,101,98,105,116,32,49,46,99,97,115,104,32,99,97,115,104,10,99,114,101,100,105,116,32,49,46,115,101,99,117,114,105,116,105,101,115,46,42,32,99,111,115,116,10,99,114,101,100,105,116,32,52,46,97,99,116,105,111,110,115,46,42,32,99,97,115,104,32,45,32,99,111,115,116,10,111,110,32,105,115,115,117,101,10,100,101,98,105,116,32,49,46,99,97,115,104,32,97,109,111,117,110,116,10,99,114,101,100,105,116,32,51,46,105,110,118,101,115,116,111,114,115,32,97,109,111,117,110,116,10,111,110,32,99,97,110,99,101,108,10,100,101,98,105,116,32,51,46,105,110,118,101,115,116,111,114,115,32,97,109,111,117,110,116,10,99,114,101,100,105,116,32,49,46,99,97,115,104,32,97,109,111,117,110,116,10,111,110,32,97,99,99,114,117,101,10,100,101,98,105,116,32,49,46,97,99,99,114,117,101,100,46,42,32,97,109,111,117,110,116,10,99,114,101,100,105,116,32,52,46,105,110,116,101,114,101,115,116,46,42,32,97,109,111,117,110,116,10,111,110,32,97,109,111,114,116,105,122,101,10,100,101,98,105,116,32,49,46,97,109,111,114,116,105,122,101,100,46,42,32,97,109,111,117,110,116,10,99,114,101,100,105,116,32,52,46,105,110,116,101,114,101,115,116,46,42,32,97,109,111,117,110,116,10,111,110,32,114,101,118,97,108,117,101,10,100,101,98,105,116,32,49,46,114,101,118,97,108,117,101,100,46,42,32,97,109,111,117,110,116,10,99,114,101,100,105,116,32,52,46,117,110,114,101,97,108,105,122,101,100,46,42,32,97,109,111,117,110,116,10]
def paRi (s:F6):List Cf:=if s=[48]then []else if Lc s then (if 16<(GE s).length then []else nfi (GE s))else []
def paOi (t:F6):Option (List Cf):=if Ki t=0 then some (paRi t)else none
theorem paO_i:At=paOi:=funext fun t=>by
 have h:Hq t=paRi t:=by rw[Hq,paRi,nf_i]
 rw[At,paOi,h]
def stdR:List Ru:=(X7 (M0 I4) paOi stdT).1
theorem std_prs:X7 (M0 I4) At stdT=(stdR,0,0):=by
 rw[paO_i]
 kernel_rfl
theorem OR:PCalls Tryz.prog 26 [] (.d (P3 stdR)):=by
 have p:=Ds stdT
 rw[std_prs]at p
 obtain⟨S,hS⟩:=H8 (stdR)
 rw[<-hS]at p ⊢
 clear hS
 refine L5 Tryz.func26 C Tryz.ntmps26 Tryz.results26 fun B w0=>?_
 refine D7 (H3 C (yQ (D7 (yC (p) C C (N9 C (yX C C (yX C C (yX C C (H3 C ?_)))))))));refine H3 C (H3 C (yQ (D7 (B6 C (H3 C (yQ (C4 ?_)))))))
 exact M5 C C
def awT0:F6:=[111,110,32,105,110,99,111,109,101,10,100,101,98,105,116,32,49,46,99,97,115,104,32,97,109,111,117,110,116,10,99,114,101,100,105,116,32,52,46,105,110,99,111,109,101,46,42,32,97,109,111,117,110,116,10]
def Mr:Ru:=((X7 (M0 I4) At awT0).1)[0]!
def awT1:F6:=[111,110,32,105,110,99,111,109,101,10,100,101,98,105,116,32,49,46,99,97,115,104,32,97,109,111,117,110,116,10,99,114,101,100,105,116,32,52,46,105,110,99,111,109,101,46,42,32,50,42,97,109,111,117,110,116,10]
def Mq:Ru:=((X7 (M0 I4) At awT1).1)[0]!
def awT2:F6:=[111,110,32,100,101,112,111,115,105,116,10,100,101,98,105,116,32,49,46,115,101,99,117,114,105,116,105,101,115,46,42,32,97,109,111,117,110,116,10]
def Pn:Ru:=((X7 (M0 I4) At awT2).1)[0]!
theorem awE0:X7 (M0 I4) At awT0=([Mr],0,0):=by kernel_rfl
theorem awE1:X7 (M0 I4) At awT1=([Mq],0,0):=by kernel_rfl
theorem awE2:X7 (M0 I4) At awT2=([Pn],0,0):=by kernel_rfl
def qR (r:Ru):Bool:=decide (r.2.length<=1000000)&&r.2.all fun l=>decide (l.1.length<=1000000)&&(decide (l.2.2.length<=1000000)&&l.2.2.all fun c=>decide (c.1.length<=1000000)&&decide (c.2.length<=70000))
theorem Mp {r:Ru} (h:qR r=true):OK r:=by
 simp only[qR,D1,E5,decide_eq_true_eq]at h
 exact⟨h.1,fun l hl=>⟨(h.2 l hl).1,(h.2 l hl).2.1,fun c hc=>(h.2 l hl).2.2 c hc⟩⟩
theorem awQ0:qR Mr=true:=by kernel_rfl
theorem awQ1:qR Mq=true:=by kernel_rfl
theorem awQ2:qR Pn=true:=by kernel_rfl
theorem awB0:OK Mr:=Mp awQ0
theorem awB1:OK Mq:=Mp awQ1
theorem awB2:OK Pn:=Mp awQ2
def qC (l:List Ac):Bool:=decide (l.length<=1000000)&&l.all fun a=>decide (a.1.length<=1000000)
theorem chtQ:qC chtA=true:=by kernel_rfl
theorem chtB:chtA.length<=1000000 ∧ ∀ a∈chtA,a.1.length<=1000000:=by
 have h:=chtQ
 simp only[qC,D1,E5,decide_eq_true_eq]at h
 exact h
theorem stdL:stdR.length=19:=by kernel_rfl
theorem wAwake:PCalls Tryz.prog 13 [] (.d (dB true)):=by
 have p0:=Ds awT0
 have p1:=Ds awT1
 have p2:=Ds awT2
 rw[awE0]at p0
 rw[awE1]at p1
 rw[awE2]at p2
 have b0:=II Mr awB0
 have b1:=II Mq awB1
 rw[show Y8 Mr=0 by kernel_rfl,show Fs Mr.2=true by kernel_rfl]at b0
 rw[show Y8 Mq=0 by kernel_rfl,show Fs Mq.2=false by kernel_rfl]at b1
 have c0:=QW [Pn] chtA (by decide) (fun r hr=>by rw[List.mem_singleton.1 hr];exact awB2) chtB.1 chtB.2
 rw[show ruI [Pn] chtA=(0,9)by kernel_rfl]at c0
 have s0:=OR
 have h0:=wChart
 have t0:(((stdR.map X6).length:Int)==19)=true:=by rw[A8,stdL];rfl
 obtain⟨⟨n0,l0⟩,hr0⟩:=H8 (Mr)
 obtain⟨⟨n1,l1⟩,hr1⟩:=H8 (Mq)
 obtain⟨r2,hr2⟩:=H8 (Pn)
 obtain⟨S,hS⟩:=H8 (stdR)
 obtain⟨TB,hC⟩:=H8 (chtA)
 rw[<-hr0]at p0 b0
 rw[<-hr1]at p1 b1
 rw[<-hr2]at p2 c0
 rw[<-hS]at s0 t0
 rw[<-hC]at h0 c0
 clear hr0 hr1 hr2 hS hC
 have e0:=ix X6 [(n0,l0)] 0 0 (n0,l0) rfl rfl
 have e1:=ix X6 [(n1,l1)] 0 0 (n1,l1) rfl rfl
 refine L5 Tryz.func13 C Tryz.ntmps13 Tryz.results13 fun B w0=>?_
 refine D7 (H3 C (yQ (D7 (yC (p0) C C (N9 C (yX C C (yX C C (yX C C (H3 C ?_)))))))));refine H3 C (H3 C (yQ (D7 (yC (p1) C C (N9 C (yX C C (yX C C (yX C C (H3 C ?_)))))))));refine H3 C (H3 C (yQ (D7 (yC (p2) C C (N9 C (yX C C (yX C C (yX C C (H3 C ?_)))))))));refine H3 C (H3 C (yQ (B2 (D7 (B6 C (B6 C (B6 C (yI C C C (yB C C C C ?_)))))))));refine B6 C (B6 C (B6 C (yB C C C C (B6 C (yB C C C C (yB C C C C (K9 C C (B6 C (B6 C ?_)))))))));refine yN C (yB C C C C (K9 C C (B6 C (B6 C (yN C (yB C C C C (K9 C C (B6 C (B6 C ?_)))))))));refine yN C (yB C C C C (K9 C C (yQ (D8 C (B1 (D7 (B6 C (yW e0 (by omega) C C (T3 (ys:=[_,_]) C C C ?_)))))))));refine yC (b0) C C (N9 C (yX C C (yX C C (H3 C (H3 C (yQ (D7 (B6 C (yW e1 (by omega) C C ?_)))))))));refine T3 (ys:=[_,_]) C C C (yC (b1) C C (N9 C (yX C C (yX C C (H3 C (H3 C (yQ (D7 (B6 C ?_)))))))));refine yC (h0) C C (yC (c0) C C (N9 C (yX C C (yX C C (H3 C (H3 C (yQ (D7 (B6 C ?_)))))))));refine B6 C (yI C C C (yB C C C C (B6 C (B6 C (L0 C C (B6 C (B6 C (yU C C C (L0 C C ?_)))))))));refine B6 C (B6 C (yB C C C C (L0 C C (B6 C (B6 C (yB C C C C (L0 C C (B6 C (yC (s0) C C ?_)))))))));refine yN C (yB C C C C (L0 C C (H3 C (yQ (C4 ?_)))));rw[t0]
 exact M5 C C
abbrev vT:Nat:=5*100000+6
abbrev vT2:Nat:=5*100000+10006
theorem wCcFs (l:List UInt8):Jz Tryz.prog 132 [.tx 10006 bT 2] [(10006,[.d (.val (.pointer none)),.ts vT2 1 (l.map dY)])] [(vT2,(l.map dY).length)] (.tup []) [(10006,[.tx 10006 bT 2,.ts vT2 1 (l.map dY)])] [(vT2,(l.map dY).length)]:=by
 obtain⟨j,hj,hj0⟩:=Ns
 refine P5 Tryz.func132 C Tryz.ntmps132 Tryz.results132 (by simp) fun B w0=>?_
 refine D7 (DI C (Hp C (X9 C (AL C C C (yQz Tryz.underlying128 C (yQ (G2 C (B4 (DI C ?_)))))))));refine DI C ?_;refine yQu Tryz.underlying128 Tryz.underlying216 hj hj0 (by decide) C ?_;refine yQn SQ C (yQc Tryz.underlying216 Tryz.underlying128 hj hLies C (Hp C (X9 C (yQs (cs':=[_,_]) C C C C (yQ ?_)))))
 exact q_xe [] .nil C ⟨rfl,D3⟩ ⟨rfl,D3⟩
theorem wCcUs (l:List UInt8):Jz Tryz.prog 132 [.tx 10006 bT 2] [(10006,[.tx 10006 bT 2,.ts vT2 1 (l.map dY)])] [(vT2,(l.map dY).length)] (.tup []) [(10006,[.tx 10006 bT 2,.ts vT2 1 (l.map dY)])] [(vT2,(l.map dY).length)]:=by
 obtain⟨j,hj,hj0⟩:=Ns
 refine P5 Tryz.func132 C Tryz.ntmps132 Tryz.results132 (by simp) fun B w0=>?_
 refine D7 (DI C (Hp C (X9 C (yQl C C C (yQe Tryz.underlying128 C (yQ (D8 C (D7 (DI C ?_)))))))));refine Hp C (X9 C (yQl C C C (DI C (yQq Tryz.underlying128 hj C C (yQ (D8 C (B1 ?_)))))))
 exact q_xe [] .nil C ⟨rfl,D3⟩ ⟨rfl,D3⟩
theorem My (l s:List UInt8) (hl:l.length<=100000000) (hs:s.length<=100000000) (h0:0<s.length):Jz Tryz.prog 88 [.tx 6 bT 2,.d (dS s)] [(6,[.d (.val (.pointer none)),.ts vT 1 (l.map dY)])] [(vT,(l.map dY).length)] (.tup [dI s.length,.val .nilIface]) [(6,[.tx 6 bT 2,.ts vT 1 ((l++s).map dY)])] [(vT,((l++s).map dY).length)]:=by
 refine P5 Tryz.func88 C Tryz.ntmps88 Tryz.results88 (by simp) fun B w0=>?_
 refine D7 (H3 C (H3 C (yQ (D7 (DI C ?_)))));refine CN (wCcFs l) C ⟨rfl,D3⟩ ⟨rfl,D3⟩ ?_ (hfit:=by kernel_rfl)
 refine yQ (D7 (DI C (DI C (Hp C (X9 C (Ju C C C (B6 C ?_)))))));refine yTs (es2:=s.map dY) (es':=(l++s).map dY) (m:=((l++s).map dY).length) (by kernel_rfl) Tryz.underlying9 h0 C (by simp;omega) C C C C C (by simp) (by simp) ?_;refine Hp C (X9 C (Pr (cs':=[_,_]) C C C C (yQ (D7 (B6 C (N3 C (H3 C (H3 C (yQ ?_)))))))));refine C4 ?_
 exact q_x _ (.tmp C (.tmp C .nil)) C ⟨rfl,D3⟩ ⟨rfl,D3⟩
theorem Aw (l s:List UInt8) (hl:l.length<=100000000) (hs:s.length<=100000000) (h0:0<s.length):Jz Tryz.prog 88 [.tx 6 bT 2,.d (dS s)] [(6,[.tx 6 bT 2,.ts vT 1 (l.map dY)])] [(vT,(l.map dY).length)] (.tup [dI s.length,.val .nilIface]) [(6,[.tx 6 bT 2,.ts vT 1 ((l++s).map dY)])] [(vT,((l++s).map dY).length)]:=by
 refine P5 Tryz.func88 C Tryz.ntmps88 Tryz.results88 (by simp) fun B w0=>?_
 refine D7 (H3 C (H3 C (yQ (D7 (DI C ?_)))));refine CN (wCcUs l) C ⟨rfl,D3⟩ ⟨rfl,D3⟩ ?_ (hfit:=by kernel_rfl)
 refine yQ (D7 (DI C (DI C (Hp C (X9 C (Ju C C C (B6 C ?_)))))));refine yTs (es2:=s.map dY) (es':=(l++s).map dY) (m:=((l++s).map dY).length) (by kernel_rfl) Tryz.underlying9 h0 C (by simp;omega) C C C C C (by simp) (by simp) ?_;refine Hp C (X9 C (Pr (cs':=[_,_]) C C C C (yQ (D7 (B6 C (N3 C (H3 C (H3 C (yQ ?_)))))))));refine C4 ?_
 exact q_x _ (.tmp C (.tmp C .nil)) C ⟨rfl,D3⟩ ⟨rfl,D3⟩
def FP (a:F6):Int:=if val a<0 then -1 else if 0<val a then 1 else 0
theorem Il:L9 []=([],false):=by decide
theorem MH {t:F6} (h:t.all U7=true) (h0:t.head? ≠ some 48) (hz:natOf t=0):t=[]:=by
 refine Decidable.byContradiction fun hn=>?_
 exact IY h h0 hn hz
theorem wCmp0 (a:F6) (ha:a.length<=100000):PCalls Tryz.prog 133 [dS a,dS []] (.d (dI (FP a))):=by
 have c1:=NA a (by omega)
 have c2:=NA [] (by simp)
 rw[Il,Dv]at c2
 have h1:=D9 (AE (L9 a).1) (AA a)
 have c3:=KI (DL (L9 a).1) [] (by omega) (by simp)
 have hneg:=JZ a
 have hv:=Ed a
 have hr:Fr (DL (L9 a).1) []=((DL (L9 a).1).length:Int):=by
  unfold Fr
  by_cases h:(DL (L9 a).1).length=0
  . rw[List.eq_nil_of_length_eq_zero h];rfl
  . rw[B9 (by simpa using h)];simp
 rw[hr]at c3
 have hz:(DL (L9 a).1).length=0↔natOf (L9 a).1=0:=by
  rw[GA]
  constructor
  . intro h;exact Nw.1 (List.eq_nil_of_length_eq_zero h)
  . intro h;rw[h,U3];rfl
 have hz2:natOf (L9 a).1=(val a).natAbs:=BW a
 obtain⟨l,hl⟩:=H8 (DL (L9 a).1)
 obtain⟨b,hb⟩:=H8 ((L9 a).2)
 rw[<-hl,<-hb]at c1
 rw[<-hl]at c3 hz h1
 rw[<-hb]at hneg
 clear hr hv hl hb
 obtain⟨r,hr⟩:=H8 (FP a)
 rw[<-hr]
 unfold FP at hr
 cases b with
 | true=>
  have h0:val a<0:=by simpa using hneg.symm
  rw[B9 h0]at hr
  subst hr
  refine L5 Tryz.func133 C Tryz.ntmps133 Tryz.results133 fun B w0=>?_
  refine D7 (H3 C (yQ (D7 (B6 C (yC (c1) C C (B6 C (yC (c2) C C (yZ (cs:=[_,_]) C C (yZ (cs:=[_,_]) C C ?_)))))))));refine yS (cs':=[_,_]) C C C C C (yS (cs':=[_,_]) C C C C C (yQ (D7 (X9 C (AL C C C (X9 C (AL C C C (yC (c3) C C (H3 C ?_)))))))));refine yQ (B2 (B7 (D7 (X9 C (AL C C C (X9 C (AL C C C (KA Tryz.underlying4 C C C (H3 C ?_)))))))));refine yQ (G2 C (D7 (H3 C (yQ (D7 (X9 C (AL C C C (yQ (G2 C ?_)))))))));refine B4 (H3 C (yQ (D7 (B6 C (yI C C C (yI C C C (H3 C (yQ (C4 ?_)))))))))
  exact M5 C C
 | false=>
  have h0:¬ val a<0:=by simpa using hneg.symm
  rw[B5 h0]at hr
  obtain⟨n,hn⟩:=H8 (l.length)
  rw[<-hn]at c3 hz
  have hr:r=if 0<n then 1 else 0:=by
   rw[hr]
   by_cases h2:0<n
   . rw[B9 h2,B9 (by omega)]
   . rw[B5 h2,B5 (by omega)]
  clear hn
  refine L5 Tryz.func133 C Tryz.ntmps133 Tryz.results133 fun B w0=>?_
  refine D7 (H3 C (yQ (D7 (B6 C (yC (c1) C C (B6 C (yC (c2) C C (yZ (cs:=[_,_]) C C (yZ (cs:=[_,_]) C C ?_)))))))));refine yS (cs':=[_,_]) C C C C C (yS (cs':=[_,_]) C C C C C (yQ (D7 (X9 C (AL C C C (X9 C (AL C C C (yC (c3) C C (H3 C ?_)))))))));refine yQ (B2 (B7 (D7 (X9 C (AL C C C (X9 C (AL C C C (KA Tryz.underlying4 C C C (H3 C ?_)))))))));refine yQ (D8 C (D7 (X9 C (AL C C C (H3 C (yQ (D8 C (B1 (D7 ?_)))))))));refine B6 C (yI C C C (yI C C C (H3 C (yQ (C4 ?_)))));refine J5 _ (.tmp C .nil) (G4 (fun n=>SV.d (dI n)) ?_)
  rw[hr]
  by_cases h2:0<n
  . simp[h2];repeat' (first|omega|split)
  . have:n=0:=by omega
    subst this
    rfl
def CT (j:Nat) (b:Bool):F6:=if j=0 then (if b then [45]else [])else (if b then [32,45,32]else [32,43,32])
def Au (f:F6):F6:=if val f<0 then J3 (- val f)else f
def LD (f:F6):F6:=if f=[49]then []else Gu f++[42]
def prS (j:Nat) (c:Cf):F6:=CT j (decide (val c.2<0))++(LD (Au c.2)++c.1)
def Bt (n:List Cf):Nat->F6
 | 0=>[]
 | i+1=>match n[i]? with
  | none=>Bt n i
  | some c=>Bt n i++prS i c
theorem Hn {f:F6} {B:Nat} (h:f.length<=B):(Au f).length<=B+1:=by
 unfold Au
 split
 . exact EU (by rw[Int.natAbs_neg];exact GV h)
 . omega
theorem JS (f:F6):(Gu f).length<=f.length+1:=by
 unfold Gu
 split
 . simp
 . have:=DF f;omega
theorem NX (f:F6):0<(Gu f).length:=by
 unfold Gu
 split
 . simp
 . rename_i h;exact List.length_pos_iff.2 h
theorem prS_len (j:Nat) {c:Cf} (h:c.2.length<=72000) (h1:c.1.length<=16):(prS j c).length<=73000:=by
 have h2:=Hn h
 have h3:=JS (Au c.2)
 have h4:(CT j (decide (val c.2<0))).length<=3:=by
  unfold CT
  split<;>split<;>simp
 have h5:(LD (Au c.2)).length<=72010:=by
  unfold LD
  split
  . simp
  . rw[C9];simp;omega
 unfold prS
 rw[C9,C9]
 omega
theorem JT {n:List Cf} (h:∀ c∈n,c.2.length<=72000∧c.1.length<=16) (i:Nat):(Bt n i).length<=73000*i:=by
 induction i with
 | zero=>simp[Bt]
 | succ i ih=>
  rw[Bt]
  split
  . omega
  . rename_i c hc
    have:=prS_len i (h c (B8 hc)).1 (h c (B8 hc)).2
    rw[C9]
    omega
def T9 (e:List Cf):F6:=if X0 e=0 then (if nf e=[]then [48]else Bt (nf e) (nf e).length)else []
abbrev bA:Nat->SV
 | 0=>.d (.val (.pointer none))
 | _+1=>.tx 6 bT 2
theorem wPrintE (e:List Cf) (hl:e.length<=1000000) (hf:∀ c∈e,c.2.length<=70000):PCalls Tryz.prog 89 [.sl 2 (e.map dCf)] (.tup [dS (T9 e),dI (X0 e)]):=by
 have k1:=GU e hl fun c hc=>by have:=hf c hc;omega
 by_cases h1:X0 e=0
 rotate_left
 . have t1:(X0 e != 0)=true:=by simpa using h1
   rw[T9,B5 h1]
   obtain⟨x,hx⟩:=H8 (X0 e)
   rw[<-hx]at k1 t1 ⊢
   obtain⟨l,hl⟩:=H8 ((Pu e).map dCf)
   rw[<-hl]at k1
   refine L5 Tryz.func89 C Tryz.ntmps89 Tryz.results89 fun B w0=>?_
   refine D7 (H3 C (H3 C (yQ (D7 (B6 C (yC (k1) C C (N9 C (yX C C (yX C C ?_)))))))));refine H3 C (H3 C (yQ (B2 (D7 (B6 C (yB C C C C (yQ (B3 ?_))))))));rw[t1]
   refine G2 C (D7 (B6 C (H3 C (H3 C (yQ (C4 (A5 ?_)))))))
   exact Y7 C C C
 obtain⟨a1,a2⟩:=T7.1 h1
 rw[Pu,B9 h1,h1]at k1
 rw[T9,B9 h1,h1]
 have hnl:=Ek e
 have hnf:∀ c∈nf e,c.2.length<=71000∧c.1.length<=16∧0<c.1.length:=fun p hp=>by
  have q1:=GD hf (p:=p) hp
  obtain⟨c,hc,q2⟩:=GC hp
  have q3:=Cq (a2 c hc).1
  have q4:0<c.1.length:=by
   have:=(a2 c hc).1
   unfold Bx at this
   cases h:c.1 with
   | nil=>rw[h]at this;simp at this
   | cons x l=>simp
  rw[<-q2]
  exact⟨by omega,q3,q4⟩
 obtain⟨n,hn⟩:=H8 (nf e)
 rw[<-hn]at k1 hnl hnf ⊢
 clear hn h1
 have hpl:=JT (n:=n) fun c hc=>⟨by have:=(hnf c hc).1;omega,(hnf c hc).2.1⟩
 by_cases h2:n=[]
 . subst h2
   rw[B9 rfl]
   refine L5 Tryz.func89 C Tryz.ntmps89 Tryz.results89 fun B w0=>?_
   refine D7 (H3 C (H3 C (yQ (D7 (B6 C (yC (k1) C C (N9 C (yX C C (yX C C ?_)))))))));refine H3 C (H3 C (yQ (B2 (D7 (B6 C (yB C C C C (yQ (D8 C (B1 ?_)))))))));refine B2 (D7 (B6 C (yN C (yB C C C C (yQ (G2 C (D7 (H3 C (H3 C ?_)))))))));refine yQ (C4 (A5 ?_))
   exact Y7 C C C
 rw[B5 h2]
 have hn0:0<n.length:=List.length_pos_iff.2 h2
 have t0:(((n.map dCf).length:Int)==0)=false:=by rw[A8];simp;omega
 obtain⟨r,hr⟩:=H8 (Bt n n.length)
 rw[<-hr]
 refine L5 Tryz.func89 C Tryz.ntmps89 Tryz.results89 fun B w0=>?_
 refine D7 (H3 C (H3 C (yQ (D7 (B6 C (yC (k1) C C (N9 C (yX C C (yX C C ?_)))))))));refine H3 C (H3 C (yQ (B2 (D7 (B6 C (yB C C C C (yQ (D8 C (B1 ?_)))))))));refine B2 (D7 (B6 C (yN C (yB C C C C (yQ (B3 ?_))))));rw[t0];refine D8 C (B1 (D7 (yQa C (yQ ?_))));refine Bp 6 1 vT 1 C C C C ?_;refine B2 (D7 (B6 C (yN C (B6 C (yQ (B7 ?_))))));refine H9 (fun i:Nat=>⟨68,[(6,.tx 6 bT 2),(21,.d (.sl 2 (n.map dCf))),(22,.d (dI n.length)),(23,.d (dI i))],[(6,[bA i,.ts vT 1 ((Bt n i).map dY)])],[(vT,((Bt n i).map dY).length)]⟩) (fun i=>i<=n.length) (fun i=>n.length-i) 0 (E7 _)
  ⟨rfl,⟨E6,E6,FN (by simp),E6,D3⟩,⟨⟨_,rfl,E6,E6,D3⟩,D3⟩,⟨rfl,D3⟩,rfl⟩ ?_
 intro i hi
 rcases D5 i n.length with h|h
 rotate_left
 . have t1:decide ((i:Int)<(n.length:Int))=false:=A7 (by omega)
   obtain rfl:i=n.length:=by omega
   rw[<-hr]
   have hr0:r≠[]:=by
    obtain⟨j,hj⟩:∃ j,n.length=j+1:=⟨n.length-1,by omega⟩
    obtain⟨c,hc⟩:∃ c,n[j]? = some c:=⟨_,A4 (by omega)⟩
    rw[hr,hj,Bt,hc]
    intro e
    have h3:=G4 List.length e
    have h4:=(hnf c (B8 hc)).2.2
    simp only[prS,C9,List.length_nil]at h3
    omega
   obtain⟨j,hj⟩:∃ j,n.length=j+1:=⟨n.length-1,by omega⟩
   rw[show bA n.length=.tx 6 bT 2 by rw[hj]]
   refine IQ 6 C ?_;refine D7 (yB C C C C (yQ (B2 ?_)));rw[t1];refine D8 C (F9 (D7 (yStr (l:=r) Tryz.bst EX C C hr0 C C C C (H3 C (H3 C (yQ (C4 ?_)))))))
   exact Y7 C C C
 have t1:decide ((i:Int)<(n.length:Int))=true:=B0 (by omega)
 obtain⟨⟨c0,c1⟩,hc⟩:∃ a,n[i]? = some a:=⟨_,A4 h⟩
 have em:=ix dCf n i i (c0,c1) rfl hc
 have hw:=I8 ((i:Int)+1) (by omega)
 obtain⟨q1,q2,q3⟩:=hnf _ (B8 hc)
 simp only at q1 q2 q3
 have hpi:=hpl i
 have k2:=wCmp0 c1 (by omega)
 have k3:=QP c1 (by omega)
 have hal:=Hn q1
 have hnx:Bt n (i+1)=Bt n i++(CT i (decide (val c1<0))++(LD (Au c1)++c0)):=by rw[Bt,hc];rfl
 clear hc hr hpl hnf k1 t0
 have hsg:FP c1<0↔val c1<0:=by unfold FP;split<;>(try split)<;>simp<;>omega
 obtain⟨z,hz⟩:=H8 (FP c1)
 rw[<-hz]at k2 hsg
 clear hz
 have i1000:i<=1000:=by omega
 by_cases hneg:val c1<0
 . have t2:decide (z<0)=true:=B0 (hsg.2 hneg)
   rw[B0 hneg]at hnx
   have ha:Au c1=J3 (- val c1):=by rw[Au,B9 hneg]
   rw[ha]at hnx hal
   obtain⟨f,hf⟩:=H8 (J3 (- val c1))
   rw[<-hf]at hnx hal k3
   clear hf ha hsg
   have k4:=Ix f (by omega)
   have hp1:=JS f
   have hp2:=NX f
   rw[LD]at hnx
   obtain⟨p,hp⟩:=H8 (Gu f)
   rw[<-hp]at hnx k4 hp1 hp2
   clear hp
   cases i with
   | zero=>
    have e0:Bt n 0=[]:=rfl
    rw[e0]at hnx ⊢
    rw[show CT 0 true=[45]from rfl]at hnx
    by_cases h49:f=[49]
    . rw[B9 h49]at hnx
      have t3:(f==[49])=true:=by simp[h49]
      have hfin:Bt n (0+1)=[]++[45]++c0:=by rw[hnx];simp
      refine D7 (yB C C C C (yQ (B2 ?_)));rw[t1];refine G2 C (B1 (B2 (B7 (D7 (B6 C (yW em (by omega) C C (T3 (ys:=[_,_]) C C C (yZ (cs:=[_,_]) C C (H3 C ?_)))))))));refine yS (cs':=[_,_]) C C C C C (yQ (D7 (X9 C (AL C C C (yC (k2) C C (yB C C C C (H3 C (yQ (B2 ?_)))))))));refine B7 (D7 (B6 C (yB C C C C (B6 C (B6 C (L0 C C (H3 C (yQ (B3 ?_)))))))));rw[t2];refine G2 C (B4 ?_);refine CN (My [] [45] (by simp) (by simp) (by simp)) C ⟨rfl,D3⟩ ⟨rfl,D3⟩ ?_ (hfit:=by kernel_rfl);refine yQ (B2 (D7 (B6 C (yQ (G2 C (B4 (X9 C (AL C C C (yC (k3) C C ?_)))))))));refine X9 C (X8 (cs':=[_,_]) C C C C (yQ (B2 (D7 (X9 C (AL C C C (L8 C C (yQ (B3 ?_)))))))));rw[t3];refine D8 C (B1 (B4 (X9 C (AL C C C ?_))));refine CN (Aw ([]++[45]) c0 (by simp) (by omega) q3) C ⟨rfl,D3⟩ ⟨rfl,D3⟩ ?_ (hfit:=by kernel_rfl);refine yQ (B4 (yB C C C C (B6 C (yQ (B3 ?_)))))
      exact⟨0+1,by omega,by omega,rfl,⟨E6,E6,E6,P2 hw,D3⟩,⟨⟨_,rfl,E6,.of_eq (by rw[hfin]<;>rfl),D3⟩,D3⟩,⟨(by rw[hfin]<;>rfl),D3⟩,rfl⟩
    . rw[B5 h49]at hnx
      have t3:(f==[49])=false:=by simp[h49]
      have hfin:Bt n (0+1)=[]++[45]++(p++[42])++c0:=by rw[hnx];simp
      refine D7 (yB C C C C (yQ (B2 ?_)));rw[t1];refine G2 C (B1 (B2 (B7 (D7 (B6 C (yW em (by omega) C C (T3 (ys:=[_,_]) C C C (yZ (cs:=[_,_]) C C (H3 C ?_)))))))));refine yS (cs':=[_,_]) C C C C C (yQ (D7 (X9 C (AL C C C (yC (k2) C C (yB C C C C (H3 C (yQ (B2 ?_)))))))));refine B7 (D7 (B6 C (yB C C C C (B6 C (B6 C (L0 C C (H3 C (yQ (B3 ?_)))))))));rw[t2];refine G2 C (B4 ?_);refine CN (My [] [45] (by simp) (by simp) (by simp)) C ⟨rfl,D3⟩ ⟨rfl,D3⟩ ?_ (hfit:=by kernel_rfl);refine yQ (B2 (D7 (B6 C (yQ (G2 C (B4 (X9 C (AL C C C (yC (k3) C C ?_)))))))));refine X9 C (X8 (cs':=[_,_]) C C C C (yQ (B2 (D7 (X9 C (AL C C C (L8 C C (yQ (B3 ?_)))))))));rw[t3];refine G2 C (B4 (X9 C (AL C C C (yC (k4) C C ?_))));refine O2 (l1:=p) (l2:=[42]) (by simp;omega) C C ?_;refine CN (Aw ([]++[45]) (p++[42]) (by simp) (by simp;omega) (by simp)) C ⟨rfl,D3⟩ ⟨rfl,D3⟩ ?_ (hfit:=by kernel_rfl)
      refine yQ (B4 (X9 C (AL C C C ?_)));refine CN (Aw ([]++[45]++(p++[42])) c0 (by simp;omega) (by omega) q3) C ⟨rfl,D3⟩ ⟨rfl,D3⟩ ?_ (hfit:=by kernel_rfl)
      refine yQ (B4 (yB C C C C (B6 C (yQ (B3 ?_)))))
      exact⟨0+1,by omega,by omega,rfl,⟨E6,E6,E6,P2 hw,D3⟩,⟨⟨_,rfl,E6,.of_eq (by rw[hfin]<;>rfl),D3⟩,D3⟩,⟨(by rw[hfin]<;>rfl),D3⟩,rfl⟩
   | succ i=>
    have t4:(((i+1:Nat):Int)==0)=false:=by simp;omega
    have t5:decide (((i+1:Nat):Int) > 0)=true:=B0 (by omega)
    rw[show CT (i+1) true=[32,45,32]from rfl]at hnx
    obtain⟨P,hP⟩:=H8 (Bt n (i+1))
    rw[<-hP]at hnx hpi ⊢
    by_cases h49:f=[49]
    . rw[B9 h49]at hnx
      have t3:(f==[49])=true:=by simp[h49]
      have hfin:Bt n (i+1+1)=P++[32,45,32]++c0:=by rw[hnx];simp
      refine D7 (yB C C C C (yQ (B2 ?_)));rw[t1];refine G2 C (B1 (B2 (B7 (D7 (B6 C (yW em (by omega) C C (T3 (ys:=[_,_]) C C C (yZ (cs:=[_,_]) C C (H3 C ?_)))))))));refine yS (cs':=[_,_]) C C C C C (yQ (D7 (X9 C (AL C C C (yC (k2) C C (yB C C C C (H3 C (yQ (B2 ?_)))))))));refine B7 (D7 (B6 C (yB C C C C (B6 C (yO C (K9 C C (H3 C (yQ (D8 C ?_)))))))));refine D7 (B6 C (yB C C C C (B6 C ?_)));rw[t2];rw[t4];rw[t5];refine B6 C (L0 C C (H3 C (yQ (G2 C (B4 ?_)))));refine CN (Aw P [32,45,32] (by omega) (by simp) (by simp)) C ⟨rfl,D3⟩ ⟨rfl,D3⟩ ?_ (hfit:=by kernel_rfl);refine yQ (B2 (D7 (B6 C (yQ (G2 C (B4 (X9 C (AL C C C (yC (k3) C C ?_)))))))));refine X9 C (X8 (cs':=[_,_]) C C C C (yQ (B2 (D7 (X9 C (AL C C C (L8 C C (yQ (B3 ?_)))))))));rw[t3];refine D8 C (B1 (B4 (X9 C (AL C C C ?_))));refine CN (Aw (P++[32,45,32]) c0 (by simp;omega) (by omega) q3) C ⟨rfl,D3⟩ ⟨rfl,D3⟩ ?_ (hfit:=by kernel_rfl);refine yQ (B4 (yB C C C C (B6 C (yQ (B3 ?_)))))
      exact⟨i+1+1,by omega,by omega,rfl,⟨E6,E6,E6,P2 hw,D3⟩,⟨⟨_,rfl,E6,.of_eq (by rw[hfin]<;>rfl),D3⟩,D3⟩,⟨(by rw[hfin]<;>rfl),D3⟩,rfl⟩
    . rw[B5 h49]at hnx
      have t3:(f==[49])=false:=by simp[h49]
      have hfin:Bt n (i+1+1)=P++[32,45,32]++(p++[42])++c0:=by rw[hnx];simp
      refine D7 (yB C C C C (yQ (B2 ?_)));rw[t1];refine G2 C (B1 (B2 (B7 (D7 (B6 C (yW em (by omega) C C (T3 (ys:=[_,_]) C C C (yZ (cs:=[_,_]) C C (H3 C ?_)))))))));refine yS (cs':=[_,_]) C C C C C (yQ (D7 (X9 C (AL C C C (yC (k2) C C (yB C C C C (H3 C (yQ (B2 ?_)))))))));refine B7 (D7 (B6 C (yB C C C C (B6 C (yO C (K9 C C (H3 C (yQ (D8 C ?_)))))))));refine D7 (B6 C (yB C C C C (B6 C ?_)));rw[t2];rw[t4];rw[t5];refine B6 C (L0 C C (H3 C (yQ (G2 C (B4 ?_)))));refine CN (Aw P [32,45,32] (by omega) (by simp) (by simp)) C ⟨rfl,D3⟩ ⟨rfl,D3⟩ ?_ (hfit:=by kernel_rfl);refine yQ (B2 (D7 (B6 C (yQ (G2 C (B4 (X9 C (AL C C C (yC (k3) C C ?_)))))))));refine X9 C (X8 (cs':=[_,_]) C C C C (yQ (B2 (D7 (X9 C (AL C C C (L8 C C (yQ (B3 ?_)))))))));rw[t3];refine G2 C (B4 (X9 C (AL C C C (yC (k4) C C ?_))));refine O2 (l1:=p) (l2:=[42]) (by simp;omega) C C ?_;refine CN (Aw (P++[32,45,32]) (p++[42]) (by simp;omega) (by simp;omega) (by simp)) C ⟨rfl,D3⟩ ⟨rfl,D3⟩ ?_ (hfit:=by kernel_rfl);refine yQ (B4 (X9 C (AL C C C ?_)));refine CN (Aw (P++[32,45,32]++(p++[42])) c0 (by simp;omega) (by omega) q3) C ⟨rfl,D3⟩ ⟨rfl,D3⟩ ?_ (hfit:=by kernel_rfl);refine yQ (B4 (yB C C C C (B6 C (yQ (B3 ?_)))))
      exact⟨i+1+1,by omega,by omega,rfl,⟨E6,E6,E6,P2 hw,D3⟩,⟨⟨_,rfl,E6,.of_eq (by rw[hfin]<;>rfl),D3⟩,D3⟩,⟨(by rw[hfin]<;>rfl),D3⟩,rfl⟩
 . have t2:decide (z<0)=false:=A7 fun h=>hneg (hsg.1 h)
   rw[A7 hneg]at hnx
   have ha:Au c1=c1:=by rw[Au,B5 hneg]
   rw[ha]at hnx
   clear ha hsg k3
   have k4:=Ix c1 (by omega)
   have hp1:=JS c1
   have hp2:=NX c1
   rw[LD]at hnx
   obtain⟨p,hp⟩:=H8 (Gu c1)
   rw[<-hp]at hnx k4 hp1 hp2
   clear hp
   cases i with
   | zero=>
    have e0:Bt n 0=[]:=rfl
    rw[e0]at hnx ⊢
    rw[show CT 0 false=[]from rfl]at hnx
    by_cases h49:c1=[49]
    . rw[B9 h49]at hnx
      have t3:(c1==[49])=true:=by simp[h49]
      have hfin:Bt n (0+1)=[]++c0:=by rw[hnx];simp
      refine D7 (yB C C C C (yQ (B2 ?_)));rw[t1];refine G2 C (B1 (B2 (B7 (D7 (B6 C (yW em (by omega) C C (T3 (ys:=[_,_]) C C C (yZ (cs:=[_,_]) C C (H3 C ?_)))))))));refine yS (cs':=[_,_]) C C C C C (yQ (D7 (X9 C (AL C C C (yC (k2) C C (yB C C C C (H3 C (yQ (B2 ?_)))))))));refine B7 (D7 (B6 C (yB C C C C (B6 C (B6 C (L0 C C (H3 C (yQ (B3 ?_)))))))));rw[t2];refine D8 C (D7 (B6 C (yB C C C C (B6 C (yO C (K9 C C (H3 C (yQ (D8 C ?_)))))))));refine D7 (B6 C (yB C C C C (H3 C (yQ (D8 C (B1 (B2 (D7 (B6 C ?_)))))))));refine yQ (D8 C (B1 (B2 (D7 (X9 C (AL C C C (L8 C C (yQ (B3 ?_)))))))));rw[t3];refine D8 C (B1 (B4 (X9 C (AL C C C ?_))));refine CN (My [] c0 (by simp) (by omega) q3) C ⟨rfl,D3⟩ ⟨rfl,D3⟩ ?_ (hfit:=by kernel_rfl);refine yQ (B4 (yB C C C C (B6 C (yQ (B3 ?_)))))
      exact⟨0+1,by omega,by omega,rfl,⟨E6,E6,E6,P2 hw,D3⟩,⟨⟨_,rfl,E6,.of_eq (by rw[hfin]<;>rfl),D3⟩,D3⟩,⟨(by rw[hfin]<;>rfl),D3⟩,rfl⟩
    . rw[B5 h49]at hnx
      have t3:(c1==[49])=false:=by simp[h49]
      have hfin:Bt n (0+1)=[]++(p++[42])++c0:=by rw[hnx];simp
      refine D7 (yB C C C C (yQ (B2 ?_)));rw[t1];refine G2 C (B1 (B2 (B7 (D7 (B6 C (yW em (by omega) C C (T3 (ys:=[_,_]) C C C (yZ (cs:=[_,_]) C C (H3 C ?_)))))))));refine yS (cs':=[_,_]) C C C C C (yQ (D7 (X9 C (AL C C C (yC (k2) C C (yB C C C C (H3 C (yQ (B2 ?_)))))))));refine B7 (D7 (B6 C (yB C C C C (B6 C (B6 C (L0 C C (H3 C (yQ (B3 ?_)))))))));rw[t2];refine D8 C (D7 (B6 C (yB C C C C (B6 C (yO C (K9 C C (H3 C (yQ (D8 C ?_)))))))));refine D7 (B6 C (yB C C C C (H3 C (yQ (D8 C (B1 (B2 (D7 (B6 C ?_)))))))));refine yQ (D8 C (B1 (B2 (D7 (X9 C (AL C C C (L8 C C (yQ (B3 ?_)))))))));rw[t3];refine G2 C (B4 (X9 C (AL C C C (yC (k4) C C ?_))));refine O2 (l1:=p) (l2:=[42]) (by simp;omega) C C ?_;refine CN (My [] (p++[42]) (by simp) (by simp;omega) (by simp)) C ⟨rfl,D3⟩ ⟨rfl,D3⟩ ?_ (hfit:=by kernel_rfl);refine yQ (B4 (X9 C (AL C C C ?_)));refine CN (Aw ([]++(p++[42])) c0 (by simp;omega) (by omega) q3) C ⟨rfl,D3⟩ ⟨rfl,D3⟩ ?_ (hfit:=by kernel_rfl);refine yQ (B4 (yB C C C C (B6 C (yQ (B3 ?_)))))
      exact⟨0+1,by omega,by omega,rfl,⟨E6,E6,E6,P2 hw,D3⟩,⟨⟨_,rfl,E6,.of_eq (by rw[hfin]<;>rfl),D3⟩,D3⟩,⟨(by rw[hfin]<;>rfl),D3⟩,rfl⟩
   | succ i=>
    have t4:(((i+1:Nat):Int)==0)=false:=by simp;omega
    have t5:decide (((i+1:Nat):Int) > 0)=true:=B0 (by omega)
    rw[show CT (i+1) false=[32,43,32]from rfl]at hnx
    obtain⟨P,hP⟩:=H8 (Bt n (i+1))
    rw[<-hP]at hnx hpi ⊢
    by_cases h49:c1=[49]
    . rw[B9 h49]at hnx
      have t3:(c1==[49])=true:=by simp[h49]
      have hfin:Bt n (i+1+1)=P++[32,43,32]++c0:=by rw[hnx];simp
      refine D7 (yB C C C C (yQ (B2 ?_)));rw[t1];refine G2 C (B1 (B2 (B7 (D7 (B6 C (yW em (by omega) C C (T3 (ys:=[_,_]) C C C (yZ (cs:=[_,_]) C C (H3 C ?_)))))))));refine yS (cs':=[_,_]) C C C C C (yQ (D7 (X9 C (AL C C C (yC (k2) C C (yB C C C C (H3 C (yQ (B2 ?_)))))))));refine B7 (D7 (B6 C (yB C C C C (B6 C (yO C (K9 C C (H3 C (yQ (D8 C ?_)))))))));refine D7 (B6 C (yB C C C C (B6 C ?_)));rw[t2];rw[t4];rw[t5];refine B6 C (L0 C C (H3 C (yQ (D8 C (D7 (B6 C (yB C C C C (H3 C (yQ ?_)))))))));refine B3 ?_;rw[t5];refine G2 C (B4 ?_);refine CN (Aw P [32,43,32] (by omega) (by simp) (by simp)) C ⟨rfl,D3⟩ ⟨rfl,D3⟩ ?_ (hfit:=by kernel_rfl);refine yQ (B2 (D7 (B6 C (yQ (D8 C (B1 (B2 (D7 (X9 C ?_)))))))));refine AL C C C (L8 C C (yQ (B3 ?_)));rw[t3];refine D8 C (B1 (B4 (X9 C (AL C C C ?_))));refine CN (Aw (P++[32,43,32]) c0 (by simp;omega) (by omega) q3) C ⟨rfl,D3⟩ ⟨rfl,D3⟩ ?_ (hfit:=by kernel_rfl)
      refine yQ (B4 (yB C C C C (B6 C (yQ (B3 ?_)))))
      exact⟨i+1+1,by omega,by omega,rfl,⟨E6,E6,E6,P2 hw,D3⟩,⟨⟨_,rfl,E6,.of_eq (by rw[hfin]<;>rfl),D3⟩,D3⟩,⟨(by rw[hfin]<;>rfl),D3⟩,rfl⟩
    . rw[B5 h49]at hnx
      have t3:(c1==[49])=false:=by simp[h49]
      have hfin:Bt n (i+1+1)=P++[32,43,32]++(p++[42])++c0:=by rw[hnx];simp
      refine D7 (yB C C C C (yQ (B2 ?_)));rw[t1];refine G2 C (B1 (B2 (B7 (D7 (B6 C (yW em (by omega) C C (T3 (ys:=[_,_]) C C C (yZ (cs:=[_,_]) C C (H3 C ?_)))))))));refine yS (cs':=[_,_]) C C C C C (yQ (D7 (X9 C (AL C C C (yC (k2) C C (yB C C C C (H3 C (yQ (B2 ?_)))))))));refine B7 (D7 (B6 C (yB C C C C (B6 C (yO C (K9 C C (H3 C (yQ (D8 C ?_)))))))));refine D7 (B6 C (yB C C C C (B6 C ?_)));rw[t2];rw[t4];rw[t5];refine B6 C (L0 C C (H3 C (yQ (D8 C (D7 (B6 C (yB C C C C (H3 C (yQ ?_)))))))));refine B3 ?_;rw[t5];refine G2 C (B4 ?_);refine CN (Aw P [32,43,32] (by omega) (by simp) (by simp)) C ⟨rfl,D3⟩ ⟨rfl,D3⟩ ?_ (hfit:=by kernel_rfl);refine yQ (B2 (D7 (B6 C (yQ (D8 C (B1 (B2 (D7 (X9 C ?_)))))))));refine AL C C C (L8 C C (yQ (B3 ?_)));rw[t3];refine G2 C (B4 (X9 C (AL C C C (yC (k4) C C ?_))));refine O2 (l1:=p) (l2:=[42]) (by simp;omega) C C ?_;refine CN (Aw (P++[32,43,32]) (p++[42]) (by simp;omega) (by simp;omega) (by simp)) C ⟨rfl,D3⟩ ⟨rfl,D3⟩ ?_ (hfit:=by kernel_rfl);refine yQ (B4 (X9 C (AL C C C ?_)));refine CN (Aw (P++[32,43,32]++(p++[42])) c0 (by simp;omega) (by omega) q3) C ⟨rfl,D3⟩ ⟨rfl,D3⟩ ?_ (hfit:=by kernel_rfl);refine yQ (B4 (yB C C C C (B6 C (yQ (B3 ?_)))))
      exact⟨i+1+1,by omega,by omega,rfl,⟨E6,E6,E6,P2 hw,D3⟩,⟨⟨_,rfl,E6,.of_eq (by rw[hfin]<;>rfl),D3⟩,D3⟩,⟨(by rw[hfin]<;>rfl),D3⟩,rfl⟩
end Go.Proofs.YtddfimjiihggmaaGreatDoor
namespace Go.Proofs.YtddfimjiihggmaaGreatDoor.Px
open Go.RowKit Go.Shelf
set_option maxRecDepth 100000 in
theorem Qm {P:Program} {ρ:Ren} (L:Lays.n169 P ρ) (X:Builder.Extra P ρ) (b:Nat) (w:World) (c0:w.cell? ⟨b,1,none⟩=some (.slice none 0 0)):
 Calls P (ρ.f 169) #[.pointer (some ⟨b,0,none⟩)] w fun e w'=>e=.returned (.string ⟨#[]⟩)∧w'=w.drew:=by
 have hUS:=Any.unsafeString_none L X
 have c1:w.drew.cell? ⟨b,1,none⟩=some (.slice none 0 0):=c0
 have hSD:(Builtin.unsafeSliceData_ #[(ρ.t 37)] (ρ.t 127) #[.slice none 0 0]).run P w.drew=.ok (.pointer none) w.drew:=rfl
 have mixed:=L.mixed
 have t72:=L.t72;have a72:=L.a72;have z72:=L.z72;have v72:=L.v72;have u72:=run_underlying L.t72
 have t70:=L.t70;have a70:=L.a70;have z70:=L.z70;have v70:=L.v70;have u70:=run_underlying L.t70
 have t37:=L.t37;have a37:=L.a37;have z37:=L.z37;have v37:=L.v37;have u37:=run_underlying L.t37
 have t127:=L.t127;have a127:=L.a127;have z127:=L.z127;have v127:=L.v127;have u127:=run_underlying L.t127
 have t3:=L.t3;have a3:=L.a3;have z3:=L.z3;have v3:=L.v3;have u3:=run_underlying L.t3
 have t9:=L.t9;have a9:=L.a9;have z9:=L.z9;have v9:=L.v9;have u9:=run_underlying L.t9
 have t5:=X.t5;have a5:=X.a5;have z5:=X.z5;have v5:=X.v5;have u5:=run_underlying X.t5
 go_enter L.f169,Body.n169_ntmps ρ
 go_wp2
 go_region_o
 all_goals (go_wp2;go_ret;exact⟨rfl,C⟩)
section
variable {P:Program} {ops:Array Oper} {K:PS->Prop} {rest:List Oper} {st:PS} {d:Option Nat} {ty:TypeId} {pos:String} {af:Array Edge} {gd:Option (Nat×Bool)}
theorem yStr0 {f e:Nat} {x:Operand} {x0:SV} {ts:Array TypeId} {ρ:Ren} [hB:HasBody P f] (L:Lays.n169 P ρ) (X:Builder.Extra P ρ) (hf:ρ.f 169=f) (hx:st.ev x=.bx e 0) (hi:st.bget e=some [x0,.d (.val (.slice none 0 0))])
 (h:YR P true ops K rest (st.put d (.d (dS [])))) (hlt:Nat.blt e 500000=true:=by rfl) (hd:I1 ⟨d,.call { callee:=.value (.func f),args:=#[x],argTypes:=ts },ty,pos,af,gd⟩ st=true:=by kernel_rfl) (hw:st.want ops ⟨d,.call { callee:=.value (.func f),args:=#[x],argTypes:=ts },ty,pos,af,gd⟩=some true:=by rfl):
 YR P true ops K (⟨d,.call { callee:=.value (.func f),args:=#[x],argTypes:=ts },ty,pos,af,gd⟩::rest) st:=by
 subst hf
 refine .any C fun B w0 Q hQ g a w hr=>?_
 have h1:=hr.eval x
 rw[hx]at h1
 obtain⟨b,hb,hax⟩:=h1
 obtain⟨b',xs,T0,q1,q2,q3,q4,q5⟩:=hr.boxes e _ hi (C0 hlt)
 rw[hb]at q1
 cases q1
 obtain⟨x1,q6,q7⟩:=q4 1 (.d (.val (.slice none 0 0))) rfl
 have q7:x1=.slice none 0 0:=DRep.val_eq q7
 have hc1:w.cell? ⟨b,1,none⟩=some (.slice none 0 0):=by
  rw[<-q7]
  simp only[World.cell?,q2,Option.isSome_none,Bool.false_eq_true,if_false]
  exact q6
 have V0:=Qm L X b w hc1
 have hrun:(execOp a.eval ⟨d,.call { callee:=.value (.func (ρ.f 169)),args:=#[x],argTypes:=ts },ty,pos,af,gd⟩).run P w=.ok (.enter (ρ.f 169) #[.pointer (some ⟨b,0,none⟩)]) w:=by
  simp only[execOp,resolve,Act.eval,Deferred.ofValue,Sem.run_bind,Sem.run_pure,D4,invoke]
  rw[hB.run]
  simp[hax]
 unfold wpList
 rw[B9 (M4 hr hw)]
 refine .inl ?_
 unfold Oper.wp
 rw[hrun]
 show Calls P (ρ.f 169) _ w _
 refine V0.mono ?_
 rintro en w' ⟨rfl,rfl⟩
 have r3:Rep B w0 g st a w.drew:=hr.grow (Below.drew (Below.refl _ _))
 exact h.sound hQ (r3.put (x:=.d (dS [])) (DRep.val _ C) _ (H6 (st:=st) hd))
end
end Go.Proofs.YtddfimjiihggmaaGreatDoor.Px