/- Walks: the checks of movements, and of statements. -/
import Derived.Test.YtdkpmnefoobipaaGreatDoorB5
set_option maxHeartbeats 16000000
set_option maxRecDepth 20000
namespace Go.Proofs.YtdkpmnefoobipaaGreatDoor
open Go.RowKit Px
variable {α:Type} {i:Nat}
theorem Ci (ms:List Mv) (d:Int) (hl:ms.length<=1000) (ho:∀ m∈ms,okM m):PCalls Tryz.prog 100 [.sl 5 (ms.map dM),dI d] (.d (dI (M8 (mE d ms) ms.length))):=by
 obtain⟨r,hr⟩:=H1 (M8 (mE d ms) ms.length)
 rw[<-hr]
 refine L7 Tryz.func100 O Tryz.ntmps100 Tryz.results100 fun B w0=>?_
 have t0:decide (((ms.map dM).length:Int) > 1000)=false:=C3 (by simp;omega)
 refine B4 (C9 O (yQ (A5 (B4 (B1 O (yN O (yB O O O O ?_)))))));rw[t0];refine yQ (B9 O (A7 (A5 (B4 (B1 O (yN O (B1 O (yQ (A9 ?_)))))))));refine G6 (fun i:Nat=>⟨67,[(0,.d (.sl 5 (ms.map dM))),(1,.d (dI d)),(11,.d (.sl 5 (ms.map dM))),(12,.d (dI ms.length)),(13,.d (dI i))],[],[]⟩) (fun i=>i<=ms.length∧M8 (mE d ms) i=0) (fun i=>ms.length-i) 0 ⟨D4 _,O⟩ ⟨rfl,⟨D2,D2,D2,Cs (by simp),D2,C8⟩,C8,C8,O⟩ ?_
 rintro i ⟨hi,h0⟩
 refine B4 (yB O O O O (yQ (A5 ?_)));refine H7 O (fun h=>?_) (fun h=>?_)
 . simp at h
   obtain⟨⟨x,q,y,z,u⟩,hx⟩:∃ a,ms[i]? = some a:=⟨_,A4 h⟩
   have ei:=ix dM ms i i (x,q,y,z,u) rfl hx
   obtain⟨k1,k2,k3,k4⟩:=ho (x,q,y,z,u) (B2 hx)
   simp only at k1 k2 k3 k4
   have hw:=H2 ((i:Int)+1) (by omega)
   have c1:=Ko x
   have c2:=Ko y
   have c3:=Ih [z,u] (by simp) (fun a ha=>by
    rcases List.mem_cons.1 ha with e|e
    . rw[e];exact k3
    . rw[List.mem_singleton.1 e];exact k4)
   have c4:=Kg q
   have he:mE d ms i=IB d (if i=0 then none else (ms[i-1]?).map (·.2.1)) (x,q,y,z,u):=by unfold mE;rw[hx]
   have hat:mE d ms i≠0->r=mE d ms i:=fun e=>by rw[hr];exact DC h0 e _ h
   obtain⟨na,hna⟩:=H1 (O1 x)
   obtain⟨nb,hnb⟩:=H1 (O1 y)
   obtain⟨ne,hne⟩:=H1 (BZ [z,u])
   obtain⟨vq,hvq⟩:=H1 (vD q)
   unfold IB at he
   simp only[<-hna,<-hnb,<-hne,<-hvq]at he
   rw[<-hna]at c1
   rw[<-hnb]at c2
   rw[<-hne]at c3
   rw[<-hvq]at c4
   cases na with
   | false=>
    have e:r=23:=by
     have e1:mE d ms i=23:=by rw[he];rfl
     rw[hat (by rw[e1];decide),e1]
    rw[e]
    refine A7 (A5 (A9 (B4 (B1 O (yW ei (by omega) O O (J9 (ys:=[_,_,_,_,_]) O O O (yZ (cs:=[_,_,_,_,_]) O O (C9 O (yS (cs':=[_,_,_,_,_]) O O O O O ?_)))))))));refine yQ (A5 (A9 (B4 (D8 O (D7 O O O (yC (c1) O O (yU O O O (C9 O (yQ ?_)))))))));refine E0 O (B4 (C9 O (yQ (C4 (C0 (A8 (C0 (A8 (A8 ?_)))))))));refine C0 (A8 ?_)
    exact J2 O O
   | true=>
    cases vq with
    | false=>
     have e:r=13:=by
      have e1:mE d ms i=13:=by rw[he];rfl
      rw[hat (by rw[e1];decide),e1]
     rw[e]
     refine A7 (A5 (A9 (B4 (B1 O (yW ei (by omega) O O (J9 (ys:=[_,_,_,_,_]) O O O (yZ (cs:=[_,_,_,_,_]) O O (C9 O (yS (cs':=[_,_,_,_,_]) O O O O O ?_)))))))));refine yQ (A5 (A9 (B4 (D8 O (D7 O O O (yC (c1) O O (yU O O O (C9 O (yQ ?_)))))))));refine B9 O (B4 (D8 O (D7 O O O (yC (c4) O O (yU O O O (B1 O (yO O (yO O (yO O ?_)))))))));refine yO O (J7 O O (C9 O (yQ (E0 O (B4 (C9 O (yQ (C4 (C0 ?_)))))))));refine A8 (C0 (A8 (A8 (C0 (A8 ?_)))))
     exact J2 O O
    | true=>
    by_cases hq:d<q
    . have t1:decide (q > d)=true:=C5 hq
      have e:r=13:=by
       have e1:mE d ms i=13:=by rw[he,C5 hq];rfl
       rw[hat (by rw[e1];decide),e1]
      rw[e]
      refine A7 (A5 (A9 (B4 (B1 O (yW ei (by omega) O O (J9 (ys:=[_,_,_,_,_]) O O O (yZ (cs:=[_,_,_,_,_]) O O (C9 O (yS (cs':=[_,_,_,_,_]) O O O O O ?_)))))))));refine yQ (A5 (A9 (B4 (D8 O (D7 O O O (yC (c1) O O (yU O O O (C9 O (yQ ?_)))))))));refine B9 O (B4 (D8 O (D7 O O O (yC (c4) O O (yU O O O (B1 O (D8 O (D7 O O O (B1 O ?_)))))))));refine yB O O O O ?_;rw[t1];refine I6 O O (C9 O (yQ (E0 O (B4 (C9 O (yQ (C4 (C0 (A8 ?_)))))))));refine C0 (A8 (A8 (C0 (A8 ?_))))
      exact J2 O O
    have t1:decide (q > d)=false:=C3 hq
    rw[C3 hq]at he
    cases nb with
    | false=>
     have e:r=23:=by
      have e1:mE d ms i=23:=by rw[he];rfl
      rw[hat (by rw[e1];decide),e1]
     rw[e]
     refine A7 (A5 (A9 (B4 (B1 O (yW ei (by omega) O O (J9 (ys:=[_,_,_,_,_]) O O O (yZ (cs:=[_,_,_,_,_]) O O (C9 O (yS (cs':=[_,_,_,_,_]) O O O O O ?_)))))))));refine yQ (A5 (A9 (B4 (D8 O (D7 O O O (yC (c1) O O (yU O O O (C9 O (yQ ?_)))))))));refine B9 O (B4 (D8 O (D7 O O O (yC (c4) O O (yU O O O (B1 O (D8 O (D7 O O O (B1 O ?_)))))))));refine yB O O O O ?_;rw[t1];refine I6 O O (C9 O (yQ (B9 O (B4 (D8 O (D7 O O O (yC c2 O O (yU O O O (C9 O ?_)))))))));refine yQ (E0 O (B4 (C9 O (yQ (C4 (C0 (A8 (C0 (A8 ?_)))))))));refine A8 (C0 (A8 ?_))
     exact J2 O O
    | true=>
    by_cases hz:ne=0
    rotate_left
    . have t2:(ne != 0)=true:=by simpa using hz
      have t3:(ne==0)=false:=by simpa using hz
      have e:r=ne:=by
       have e1:mE d ms i=ne:=by rw[he,t3];rfl
       rw[hat (by rw[e1];exact hz),e1]
      rw[e]
      refine A7 (A5 (A9 (B4 (B1 O (yW ei (by omega) O O (J9 (ys:=[_,_,_,_,_]) O O O (yZ (cs:=[_,_,_,_,_]) O O (C9 O (yS (cs':=[_,_,_,_,_]) O O O O O ?_)))))))));refine yQ (A5 (A9 (B4 (D8 O (D7 O O O (yC (c1) O O (yU O O O (C9 O (yQ ?_)))))))));refine B9 O (B4 (D8 O (D7 O O O (yC (c4) O O (yU O O O (B1 O (D8 O (D7 O O O (B1 O ?_)))))))));refine yB O O O O ?_;rw[t1];refine I6 O O (C9 O (yQ (B9 O (B4 (D8 O (D7 O O O (yC (c2) O O (yU O O O (C9 O ?_)))))))));refine yQ (B9 O (A7 (A5 (B4 (D8 O (D7 O O O (D8 O (D7 O O O ?_))))))));refine yR (es:=[[_],[_]]) O O O O O ?_;refine yC (c3) O O (C9 O (yQ (B4 (B1 O (yB O O O O ?_)))));rw[t2];refine yQ (E0 O (B4 (B1 O (C9 O (yQ (C4 (A8 (C0 (A8 ?_)))))))));refine A8 (C0 (A8 ?_))
      exact J2 O O
    subst hz
    have hyn:(z==([]:F4))=true∨(z==([]:F4))=false:=by cases (z==([]:F4))<;>simp
    rcases hyn with t2|t2
    . have e:r=2:=by
       have e1:mE d ms i=2:=by rw[he,t2];rfl
       rw[hat (by rw[e1];decide),e1]
      rw[e]
      refine A7 (A5 (A9 (B4 (B1 O (yW ei (by omega) O O (J9 (ys:=[_,_,_,_,_]) O O O (yZ (cs:=[_,_,_,_,_]) O O (C9 O (yS (cs':=[_,_,_,_,_]) O O O O O ?_)))))))));refine yQ (A5 (A9 (B4 (D8 O (D7 O O O (yC (c1) O O (yU O O O (C9 O (yQ ?_)))))))));refine B9 O (B4 (D8 O (D7 O O O (yC (c4) O O (yU O O O (B1 O (D8 O (D7 O O O (B1 O ?_)))))))));refine yB O O O O ?_;rw[t1];refine I6 O O (C9 O (yQ (B9 O (B4 (D8 O (D7 O O O (yC (c2) O O (yU O O O (C9 O ?_)))))))));refine yQ (B9 O (A7 (A5 (B4 (D8 O (D7 O O O (D8 O (D7 O O O ?_))))))));refine yR (es:=[[_],[_]]) O O O O O ?_;refine yC (c3) O O (C9 O (yQ (B4 (B1 O (yB O O O O (yQ (B9 O (A7 (A9 ?_)))))))));refine B4 (D8 O (D7 O O O (L8 O O ?_)));rw[t2];refine C9 O (yQ (E0 O (B4 (C9 O (yQ (C4 (C0 (C0 (A8 ?_)))))))));refine A8 (C0 (A8 ?_))
      exact J2 O O
    rw[t2]at he
    by_cases hi0:i=0
    . subst hi0
      have e1:mE d ms 0=0:=by rw[he];rfl
      refine A7 (A5 (A9 (B4 (B1 O (yW ei (by omega) O O (J9 (ys:=[_,_,_,_,_]) O O O (yZ (cs:=[_,_,_,_,_]) O O (C9 O (yS (cs':=[_,_,_,_,_]) O O O O O ?_)))))))));refine yQ (A5 (A9 (B4 (D8 O (D7 O O O (yC (c1) O O (yU O O O (C9 O (yQ ?_)))))))));refine B9 O (B4 (D8 O (D7 O O O (yC (c4) O O (yU O O O (B1 O (D8 O (D7 O O O (B1 O ?_)))))))));refine yB O O O O ?_;rw[t1];refine I6 O O (C9 O (yQ (B9 O (B4 (D8 O (D7 O O O (yC (c2) O O (yU O O O (C9 O ?_)))))))));refine yQ (B9 O (A7 (A5 (B4 (D8 O (D7 O O O (D8 O (D7 O O O ?_))))))));refine yR (es:=[[_],[_]]) O O O O O ?_;refine yC (c3) O O (C9 O (yQ (B4 (B1 O (yB O O O O (yQ (B9 O (A7 (A9 ?_)))))))));refine B4 (D8 O (D7 O O O (L8 O O ?_)));rw[t2];refine C9 O (yQ (B9 O (A5 ?_)));refine G1 Tryz.mixed (by kernel_rfl) ?_;refine B1 O (yB O O O O (B1 O (yO O (yO O (yO O (yO O (yO O (yO O (yO O ?_)))))))));refine yO O (yO O (I6 O O (C9 O (yQ (B9 O (A7 (B3 (yB O O O O (B1 O ?_)))))))));refine yQ (B6 ?_)
      refine⟨1,⟨by omega,P0 h0 e1⟩,by omega,rfl,⟨D2,D2,D2,D2,L6 hw,C8⟩,C8,C8,rfl⟩
    have t3:decide ((i:Int) > 0)=true:=C5 (by omega)
    obtain⟨⟨px,pq,py,pz,pu⟩,hp⟩:∃ a,ms[i-1]? = some a:=⟨_,A4 (by omega)⟩
    have ep:=ix dM ms _ (i-1) (px,pq,py,pz,pu) (CY (by omega) (by omega)) hp
    rw[B8 hi0,hp]at he
    simp only[Option.map_some]at he
    have h0p:(0:Int)<=IntKind.i64.wrap ((i:Int)-1):=by rw[CY (by omega) (by omega)];omega
    by_cases hlt:q<pq
    . have t4:decide (q<pq)=true:=C5 hlt
      have e:r=8:=by
       have e1:mE d ms i=8:=by rw[he,t4];rfl
       rw[hat (by rw[e1];decide),e1]
      rw[e]
      refine A7 (A5 (A9 (B4 (B1 O (yW ei (by omega) O O (J9 (ys:=[_,_,_,_,_]) O O O (yZ (cs:=[_,_,_,_,_]) O O (C9 O (yS (cs':=[_,_,_,_,_]) O O O O O ?_)))))))));refine yQ (A5 (A9 (B4 (D8 O (D7 O O O (yC (c1) O O (yU O O O (C9 O (yQ ?_)))))))));refine B9 O (B4 (D8 O (D7 O O O (yC (c4) O O (yU O O O (B1 O (D8 O (D7 O O O (B1 O ?_)))))))));refine yB O O O O ?_;rw[t1];refine I6 O O (C9 O (yQ (B9 O (B4 (D8 O (D7 O O O (yC (c2) O O (yU O O O (C9 O ?_)))))))));refine yQ (B9 O (A7 (A5 (B4 (D8 O (D7 O O O (D8 O (D7 O O O ?_))))))));refine yR (es:=[[_],[_]]) O O O O O ?_;refine yC (c3) O O (C9 O (yQ (B4 (B1 O (yB O O O O (yQ (B9 O (A7 (A9 ?_)))))))));refine B4 (D8 O (D7 O O O (L8 O O ?_)));rw[t2];refine C9 O (yQ (B9 O (A5 ?_)));refine G1 Tryz.mixed (by kernel_rfl) ?_;refine B1 O (yB O O O O ?_);rw[t3];refine B1 O (D8 O (D7 O O O (B1 O (B1 O (yB O O O O (yW ep h0p O O (Ie O O (K7 O O (yB O O O O ?_)))))))));rw[t4];refine J7 O O (C9 O (yQ (E0 O (B4 (C9 O (yQ (C4 (C0 (C0 ?_)))))))));refine A8 (A8 (C0 (A8 ?_)))
      exact J2 O O
    . have t4:decide (q<pq)=false:=C3 hlt
      have e1:mE d ms i=0:=by rw[he,t4];rfl
      refine A7 (A5 (A9 (B4 (B1 O (yW ei (by omega) O O (J9 (ys:=[_,_,_,_,_]) O O O (yZ (cs:=[_,_,_,_,_]) O O (C9 O (yS (cs':=[_,_,_,_,_]) O O O O O ?_)))))))));refine yQ (A5 (A9 (B4 (D8 O (D7 O O O (yC (c1) O O (yU O O O (C9 O (yQ ?_)))))))));refine B9 O (B4 (D8 O (D7 O O O (yC (c4) O O (yU O O O (B1 O (D8 O (D7 O O O (B1 O ?_)))))))));refine yB O O O O ?_;rw[t1];refine I6 O O (C9 O (yQ (B9 O (B4 (D8 O (D7 O O O (yC (c2) O O (yU O O O (C9 O ?_)))))))));refine yQ (B9 O (A7 (A5 (B4 (D8 O (D7 O O O (D8 O (D7 O O O ?_))))))));refine yR (es:=[[_],[_]]) O O O O O ?_;refine yC (c3) O O (C9 O (yQ (B4 (B1 O (yB O O O O (yQ (B9 O (A7 (A9 ?_)))))))));refine B4 (D8 O (D7 O O O (L8 O O ?_)));rw[t2];refine C9 O (yQ (B9 O (A5 ?_)));refine G1 Tryz.mixed (by kernel_rfl) ?_;refine B1 O (yB O O O O ?_);rw[t3];refine B1 O (D8 O (D7 O O O (B1 O (B1 O (yB O O O O (yW ep h0p O O (Ie O O (K7 O O (yB O O O O ?_)))))))));rw[t4];refine J7 O O (C9 O (yQ (B9 O (A7 (B3 (yB O O O O (B1 O (yQ (B6 ?_)))))))))
      refine⟨i+1,⟨by omega,P0 h0 e1⟩,by omega,rfl,⟨D2,D2,D2,D2,L6 hw,C8⟩,C8,C8,rfl⟩
 . simp at h
   have e:r=0:=by rw[hr,show ms.length=i by omega];exact h0
   rw[e]
   refine F6 (B4 (C9 O (yQ (C4 ?_))))
   exact J2 O O
theorem Fw (s:Stm) (hs:fitS s):PCalls Tryz.prog 68 [.agg (DF s)] (.d (dI (Dx s))):=by
 obtain⟨d,hs',ms⟩:=s
 have c1:=Kg d
 have c2:=DJ hs' hs.hl hs.h
 have c3:=Ci ms d hs.ml hs.m
 have he:Dx ⟨d,hs',ms⟩=bif !vD d then 13 else bif !(M8 (hE hs') hs'.length==0)then M8 (hE hs') hs'.length else M8 (mE d ms) ms.length:=rfl
 obtain⟨r,hr⟩:=H1 (Dx ⟨d,hs',ms⟩)
 obtain⟨vq,hvq⟩:=H1 (vD d)
 obtain⟨e2,he2⟩:=H1 (M8 (hE hs') hs'.length)
 obtain⟨e3,he3⟩:=H1 (M8 (mE d ms) ms.length)
 rw[<-hr,<-hvq,<-he2,<-he3]at he
 rw[<-hr]
 rw[<-hvq]at c1
 rw[<-he2]at c2
 rw[<-he3]at c3
 refine L7 Tryz.func68 O Tryz.ntmps68 Tryz.results68 fun B w0=>?_
 cases vq with
 | false=>
  rw[he]
  refine B4 (yK (cs:=[_,_,_]) O O (C9 O (yQ (A5 (B4 (D8 O (D7 O O O (yC (c1) O O (yU O O O ?_)))))))));refine yQ (E0 O (B4 (C9 O (yQ (C4 (A8 ?_))))))
  exact J2 O O
 | true=>
  by_cases hz:e2=0
  . subst hz
    rw[he]
    refine B4 (yK (cs:=[_,_,_]) O O (C9 O (yQ (A5 (B4 (D8 O (D7 O O O (yC (c1) O O (yU O O O ?_)))))))));refine yQ (B9 O (A7 (A5 (B4 (D8 O (D7 O O O (yC (c2) O O (C9 O (yQ ?_)))))))));refine B4 (B1 O (yB O O O O (yQ (B9 O (A7 (B4 (D8 O (D7 O O O (D8 O ?_)))))))));refine D7 O O O (yC (c3) O O (C9 O (yQ (C4 ?_))))
    exact J2 O O
  . have t2:(e2 != 0)=true:=by simpa using hz
    have t3:(e2==0)=false:=by simpa using hz
    rw[he,t3]
    refine B4 (yK (cs:=[_,_,_]) O O (C9 O (yQ (A5 (B4 (D8 O (D7 O O O (yC (c1) O O (yU O O O ?_)))))))));refine yQ (B9 O (A7 (A5 (B4 (D8 O (D7 O O O (yC (c2) O O (C9 O (yQ ?_)))))))));refine B4 (B1 O (yB O O O O ?_));rw[t2];refine yQ (E0 O (B4 (B1 O (C9 O (yQ (C4 (A8 ?_)))))))
    exact J2 O O
theorem numE1 (y:F4):BZ [y]=bif HV y then (bif decide (40<ndig y)then 4 else 0)else 1:=by
 simp[BZ]
theorem numE2 (y z:F4):BZ [y,z]=bif HV y&&HV z then (bif decide (40<ndig y)||decide (40<ndig z)then 4 else 0)else 1:=by
 simp[BZ]
theorem EL (s:Stm) (hs:fitS s):PCalls Tryz.prog 27 [.agg (DF s)] (.d (dI (Dx s))):=by
 obtain⟨d,hs',ms⟩:=s
 obtain⟨hl,ml,hoH,hoM⟩:=hs
 simp only at hl ml hoH hoM
 have cd:=wRDay d
 have he0:Dx ⟨d,hs',ms⟩=bif !vD d then 13 else bif !(M8 (hE hs') hs'.length==0)then M8 (hE hs') hs'.length else M8 (mE d ms) ms.length:=rfl
 obtain⟨r,hr⟩:=H1 (Dx ⟨d,hs',ms⟩)
 obtain⟨vd,hvd⟩:=H1 (vD d)
 rw[<-hr,<-hvd]at he0
 rw[<-hr]
 rw[<-hvd]at cd
 refine L7 Tryz.func27 O Tryz.ntmps27 Tryz.results27 fun B w0=>?_
 cases vd with
 | false=>
  rw[he0]
  refine B4 (yK (cs:=[_,_,_]) O O (C9 O (yQ (A5 (B4 (D8 O (D7 O O O (yC (cd) O O (yB O O O O ?_)))))))));refine yQ (E0 O (B4 (C9 O (yQ (C4 (A8 ?_))))))
  exact J2 O O
 | true=>
 have t0:decide (((hs'.map dH).length:Int) > 64)=false:=C3 (by simp;omega)
 refine B4 (yK (cs:=[_,_,_]) O O (C9 O (yQ (A5 (B4 (D8 O (D7 O O O (yC (cd) O O (yB O O O O ?_)))))))));refine yQ (B9 O (A7 (A5 (B4 (D8 O (D7 O O O (yN O (yB O O O O ?_))))))));rw[t0];refine yQ (B9 O (A7 (A5 (B4 (C9 O (yQ (A9 ?_)))))));refine G6 (fun i:Nat=>⟨128,[(1,.bx 1 0),(3,.d (dI i))],[(1,[.d (dI d),.d (.sl 2 (hs'.map dH)),.d (.sl 5 (ms.map dM))])],[]⟩) (fun i=>i<=hs'.length∧M8 (hE hs') i=0) (fun i=>hs'.length-i) 0 ⟨D4 _,O⟩ ⟨rfl,⟨D2,D2,C8⟩,⟨⟨_,O,D2,D2,D2,C8⟩,C8⟩,C8,O⟩ ?_
 rintro i ⟨hi,h0⟩
 refine A5 (B4 (B1 O (D8 O (D7 O O O (yN O (yB O O O O (yQ (B6 ?_))))))));refine H7 O (fun h=>?_) (fun h=>?_)
 . simp at h
   obtain⟨⟨x,y⟩,hx⟩:∃ a,hs'[i]? = some a:=⟨_,A4 h⟩
   have ei:=ix dH hs' i i (x,y) rfl hx
   obtain⟨k1,k2⟩:=hoH (x,y) (B2 hx)
   simp only at k1 k2
   have hw:=H2 ((i:Int)+1) (by omega)
   have c1:=Hb x (by omega)
   have c2:=Es y (by omega)
   have c3:=Kn y (by omega)
   have hne:=numE1 y
   have he:hE hs' i=MO (if i=0 then none else (hs'[i-1]?).map (·.1)) (x,y):=by unfold hE;rw[hx]
   have hat:hE hs' i≠0->r=hE hs' i:=fun e=>by
    have:=DC h0 e _ h
    rw[he0,this]
    have:(hE hs' i==0)=false:=by simpa using e
    rw[this]
    rfl
   obtain⟨nb,hnb⟩:=H1 (O1 x)
   obtain⟨cb,hcb⟩:=H1 (HV y)
   unfold MO at he
   rw[<-hcb]at hne c2
   simp only[<-hnb,hne]at he
   rw[<-hnb]at c1
   cases nb with
   | false=>
    have e:r=23:=by
     have e1:hE hs' i=23:=by rw[he];rfl
     rw[hat (by rw[e1];decide),e1]
    rw[e]
    refine A7 (A5 (A9 (B4 (D8 O (D7 O O O (B1 O (yW ei (by omega) O O (J9 (ys:=[_,_]) O O O (yZ (cs:=[_,_]) O O ?_)))))))));refine yS (cs':=[_,_]) O O O O O (yQ (A5 (B4 (D8 O (D7 O O O (yC (c1) O O (yU O O O (yQ (E0 O ?_)))))))));refine B4 (C9 O (yQ (C4 (A8 (C0 (A8 (A8 (C0 (A8 ?_)))))))))
    exact J2 O O
   | true=>
    cases cb with
    | false=>
     have e:r=1:=by
      have e1:hE hs' i=1:=by rw[he];rfl
      rw[hat (by rw[e1];decide),e1]
     rw[e]
     refine A7 (A5 (A9 (B4 (D8 O (D7 O O O (B1 O (yW ei (by omega) O O (J9 (ys:=[_,_]) O O O (yZ (cs:=[_,_]) O O ?_)))))))));refine yS (cs':=[_,_]) O O O O O (yQ (A5 (B4 (D8 O (D7 O O O (yC (c1) O O (yU O O O (yQ (B9 O ?_)))))))));refine A7 (A5 (B4 (D8 O (D7 O O O (yC (c2) O O (yB O O O O (yQ (E0 O (B4 ?_)))))))));refine C9 O (yQ (C4 (A8 (C0 (A8 (A8 (C0 (A8 ?_))))))))
     exact J2 O O
    | true=>
    by_cases hg:40<ndig y
    . have t1:decide ((ndig y:Int) > 40)=true:=C5 (by omega)
      have e:r=4:=by
       have e1:hE hs' i=4:=by rw[he,C5 hg];rfl
       rw[hat (by rw[e1];decide),e1]
      rw[e]
      refine A7 (A5 (A9 (B4 (D8 O (D7 O O O (B1 O (yW ei (by omega) O O (J9 (ys:=[_,_]) O O O (yZ (cs:=[_,_]) O O ?_)))))))));refine yS (cs':=[_,_]) O O O O O (yQ (A5 (B4 (D8 O (D7 O O O (yC (c1) O O (yU O O O (yQ (B9 O ?_)))))))));refine A7 (A5 (B4 (D8 O (D7 O O O (yC (c2) O O (yB O O O O (yQ (B9 O (A7 ?_)))))))));refine A5 (B4 (D8 O (D7 O O O (yC (c3) O O (yB O O O O ?_)))));rw[t1];refine yQ (E0 O (B4 (C9 O (yQ (C4 (A8 (C0 (A8 (A8 ?_)))))))));refine C0 (A8 ?_)
      exact J2 O O
    have t1:decide ((ndig y:Int) > 40)=false:=C3 (by omega)
    rw[C3 hg]at he
    have hyn:(y==([]:F4))=true∨(y==([]:F4))=false:=by cases (y==([]:F4))<;>simp
    rcases hyn with t2|t2
    . have e:r=2:=by
       have e1:hE hs' i=2:=by rw[he,t2];rfl
       rw[hat (by rw[e1];decide),e1]
      rw[e]
      refine A7 (A5 (A9 (B4 (D8 O (D7 O O O (B1 O (yW ei (by omega) O O (J9 (ys:=[_,_]) O O O (yZ (cs:=[_,_]) O O ?_)))))))));refine yS (cs':=[_,_]) O O O O O (yQ (A5 (B4 (D8 O (D7 O O O (yC (c1) O O (yU O O O (yQ (B9 O ?_)))))))));refine A7 (A5 (B4 (D8 O (D7 O O O (yC (c2) O O (yB O O O O (yQ (B9 O (A7 ?_)))))))));refine A5 (B4 (D8 O (D7 O O O (yC (c3) O O (yB O O O O ?_)))));rw[t1];refine yQ (B9 O (A7 (A5 (B4 (D8 O (D7 O O O (L8 O O ?_)))))));rw[t2];refine yQ (E0 O (B4 (C9 O (yQ (C4 (A8 (C0 (A8 (A8 ?_)))))))));refine C0 (A8 ?_)
      exact J2 O O
    rw[t2]at he
    by_cases hi0:i=0
    . subst hi0
      have e1:hE hs' 0=0:=by rw[he];rfl
      refine A7 (A5 (A9 (B4 (D8 O (D7 O O O (B1 O (yW ei (by omega) O O (J9 (ys:=[_,_]) O O O (yZ (cs:=[_,_]) O O ?_)))))))));refine yS (cs':=[_,_]) O O O O O (yQ (A5 (B4 (D8 O (D7 O O O (yC (c1) O O (yU O O O (yQ (B9 O ?_)))))))));refine A7 (A5 (B4 (D8 O (D7 O O O (yC (c2) O O (yB O O O O (yQ (B9 O (A7 ?_)))))))));refine A5 (B4 (D8 O (D7 O O O (yC (c3) O O (yB O O O O ?_)))));rw[t1];refine yQ (B9 O (A7 (A5 (B4 (D8 O (D7 O O O (L8 O O ?_)))))));rw[t2];refine yQ (B9 O (A7 (A5 ?_)));refine G1 Tryz.mixed (by kernel_rfl) ?_;refine B1 O (yB O O O O (B1 O (yO O (yO O (yO O (yO O (yO O (yO O (yO O ?_)))))))));refine yO O (yO O (yO O (I6 O O (yQ (B9 O (A7 (B3 (B1 O (yB O O O O ?_)))))))));refine C9 O (yQ (B6 ?_))
      refine⟨1,⟨by omega,P0 h0 e1⟩,by omega,rfl,⟨D2,L6 hw,C8⟩,⟨⟨_,rfl,D2,D2,D2,C8⟩,C8⟩,C8,rfl⟩
    have t3:decide ((i:Int) > 0)=true:=C5 (by omega)
    obtain⟨⟨px,py⟩,hp⟩:∃ a,hs'[i-1]? = some a:=⟨_,A4 (by omega)⟩
    have ep:=ix dH hs' _ (i-1) (px,py) (CY (by omega) (by omega)) hp
    rw[B8 hi0,hp]at he
    have hlb:(!lt8 px x)=(!ltS px x):=rfl
    obtain⟨lb,hlb2⟩:=H1 (ltS px x)
    simp only[Option.map_some,<-hlb2]at he
    rw[<-hlb2]at hlb
    have h0p:(0:Int)<=IntKind.i64.wrap ((i:Int)-1):=by rw[CY (by omega) (by omega)];omega
    cases lb with
    | true=>
     have e1:hE hs' i=0:=by rw[he];rfl
     refine A7 (A5 (A9 (B4 (D8 O (D7 O O O (B1 O (yW ei (by omega) O O (J9 (ys:=[_,_]) O O O (yZ (cs:=[_,_]) O O ?_)))))))));refine yS (cs':=[_,_]) O O O O O (yQ (A5 (B4 (D8 O (D7 O O O (yC (c1) O O (yU O O O (yQ (B9 O ?_)))))))));refine A7 (A5 (B4 (D8 O (D7 O O O (yC (c2) O O (yB O O O O (yQ (B9 O (A7 ?_)))))))));refine A5 (B4 (D8 O (D7 O O O (yC (c3) O O (yB O O O O ?_)))));rw[t1];refine yQ (B9 O (A7 (A5 (B4 (D8 O (D7 O O O (L8 O O ?_)))))));rw[t2];refine yQ (B9 O (A7 (A5 ?_)));refine G1 Tryz.mixed (by kernel_rfl) ?_;refine B1 O (yB O O O O ?_)
     rw[t3];refine B1 O ?_;refine D8 O ?_;refine D7 O O O ?_;refine B1 O ?_;refine yB O O O O ?_;refine yW ep h0p O O ?_;refine Ie O O ?_;refine K7 O O ?_;refine D8 O ?_
     refine D7 O O O (yBsh O O ?_);rw[hlb];refine J7 O O (yQ (B9 O (A7 (B3 (B1 O (yB O O O O (C9 O (yQ (B6 ?_)))))))))
     refine⟨i+1,⟨by omega,P0 h0 e1⟩,by omega,rfl,⟨D2,L6 hw,C8⟩,⟨⟨_,rfl,D2,D2,D2,C8⟩,C8⟩,C8,rfl⟩
    | false=>
     have e:r=8:=by
      have e1:hE hs' i=8:=by rw[he];rfl
      rw[hat (by rw[e1];decide),e1]
     rw[e]
     refine A7 (A5 (A9 (B4 (D8 O (D7 O O O (B1 O (yW ei (by omega) O O (J9 (ys:=[_,_]) O O O (yZ (cs:=[_,_]) O O ?_)))))))));refine yS (cs':=[_,_]) O O O O O (yQ (A5 (B4 (D8 O (D7 O O O (yC (c1) O O (yU O O O (yQ (B9 O ?_)))))))));refine A7 (A5 (B4 (D8 O (D7 O O O (yC (c2) O O (yB O O O O (yQ (B9 O (A7 ?_)))))))));refine A5 (B4 (D8 O (D7 O O O (yC (c3) O O (yB O O O O ?_)))));rw[t1];refine yQ (B9 O (A7 (A5 (B4 (D8 O (D7 O O O (L8 O O ?_)))))));rw[t2];refine yQ (B9 O (A7 (A5 ?_)));refine G1 Tryz.mixed (by kernel_rfl) ?_;refine B1 O (yB O O O O ?_)
     rw[t3];refine B1 O ?_;refine D8 O ?_;refine D7 O O O ?_;refine B1 O ?_;refine yB O O O O ?_;refine yW ep h0p O O ?_;refine Ie O O ?_;refine K7 O O ?_;refine D8 O ?_
     refine D7 O O O (yBsh O O ?_);rw[hlb];refine J7 O O (yQ (E0 O (B4 (C9 O (yQ (C4 (C0 (A8 (A8 ?_)))))))));refine C0 (A8 ?_)
     exact J2 O O
 simp at h
 have hE0:M8 (hE hs') hs'.length=0:=by rw[show hs'.length=i by omega];exact h0
 have he1:r=M8 (mE d ms) ms.length:=by rw[he0,hE0];rfl
 clear he0 h0 hi h
 have t0:decide (((ms.map dM).length:Int) > 1000)=false:=C3 (by simp;omega)
 refine F6 (A5 (B4 (D8 O (D7 O O O (yN O (yB O O O O ?_))))));rw[t0];refine yQ (B9 O (A7 (A5 (B4 (C9 O (yQ (A9 ?_)))))));refine G6 (fun i:Nat=>⟨128,[(1,.bx 1 0),(5,.d (dI i))],[(1,[.d (dI d),.d (.sl 2 (hs'.map dH)),.d (.sl 5 (ms.map dM))])],[]⟩) (fun i=>i<=ms.length∧M8 (mE d ms) i=0) (fun i=>ms.length-i) 0 ⟨D4 _,O⟩ ⟨rfl,⟨D2,D2,C8⟩,⟨⟨_,O,D2,D2,D2,C8⟩,C8⟩,C8,O⟩ ?_
 rintro i ⟨hi,h0⟩
 refine A5 (B4 (B1 O (D8 O (D7 O O O (yN O (yB O O O O (yQ (B6 ?_))))))));refine H7 O (fun h=>?_) (fun h=>?_)
 . simp at h
   obtain⟨⟨x,q,y,z,u⟩,hx⟩:∃ a,ms[i]? = some a:=⟨_,A4 h⟩
   have ei:=ix dM ms i i (x,q,y,z,u) rfl hx
   obtain⟨k1,k2,k3,k4⟩:=hoM (x,q,y,z,u) (B2 hx)
   simp only at k1 k2 k3 k4
   have hw:=H2 ((i:Int)+1) (by omega)
   have c1:=Hb x (by omega)
   have c2:=Hb y (by omega)
   have c3:=Es z (by omega)
   have c4:=Es u (by omega)
   have c5:=Kn z (by omega)
   have c6:=Kn u (by omega)
   have c7:=wRDay q
   have hne:=numE2 z u
   have he:mE d ms i=IB d (if i=0 then none else (ms[i-1]?).map (·.2.1)) (x,q,y,z,u):=by unfold mE;rw[hx]
   have hat:mE d ms i≠0->r=mE d ms i:=fun e=>by rw[he1];exact DC h0 e _ h
   obtain⟨na,hna⟩:=H1 (O1 x)
   obtain⟨nb,hnb⟩:=H1 (O1 y)
   obtain⟨ca,hca⟩:=H1 (HV z)
   obtain⟨cb,hcb⟩:=H1 (HV u)
   obtain⟨vq,hvq⟩:=H1 (vD q)
   unfold IB at he
   rw[<-hca,<-hcb]at hne
   simp only[<-hna,<-hnb,hne,<-hvq]at he
   rw[<-hna]at c1
   rw[<-hnb]at c2
   rw[<-hca]at c3
   rw[<-hcb]at c4
   rw[<-hvq]at c7
   cases na with
   | false=>
    have e:r=23:=by
     have e1:mE d ms i=23:=by rw[he];rfl
     rw[hat (by rw[e1];decide),e1]
    rw[e]
    refine A7 (A5 (A9 (B4 (D8 O (D7 O O O (B1 O (yW ei (by omega) O O (J9 (ys:=[_,_,_,_,_]) O O O (yZ (cs:=[_,_,_,_,_]) O O ?_)))))))));refine yS (cs':=[_,_,_,_,_]) O O O O O (yQ (A5 (B4 (D8 O (D7 O O O (yC (c1) O O (yU O O O (yQ (E0 O ?_)))))))));refine B4 (C9 O (yQ (C4 (A8 (C0 (A8 (A8 (C0 (A8 ?_)))))))))
    exact J2 O O
   | true=>
    cases vq with
    | false=>
     have e:r=13:=by
      have e1:mE d ms i=13:=by rw[he];rfl
      rw[hat (by rw[e1];decide),e1]
     rw[e]
     refine A7 (A5 (A9 (B4 (D8 O (D7 O O O (B1 O (yW ei (by omega) O O (J9 (ys:=[_,_,_,_,_]) O O O (yZ (cs:=[_,_,_,_,_]) O O ?_)))))))));refine yS (cs':=[_,_,_,_,_]) O O O O O (yQ (A5 (B4 (D8 O (D7 O O O (yC (c1) O O (yU O O O (yQ (B9 O ?_)))))))));refine A7 (A5 (B4 (D8 O (D7 O O O (yC (c7) O O (yB O O O O (B1 O (yO O (yO O ?_)))))))));refine yO O (yO O (yO O (J7 O O (yQ (E0 O (B4 (C9 O (yQ (C4 ?_)))))))));refine A8 (C0 (A8 (A8 (C0 (A8 ?_)))))
     exact J2 O O
    | true=>
    by_cases hq:d<q
    . have t1:decide (q > d)=true:=C5 hq
      have e:r=13:=by
       have e1:mE d ms i=13:=by rw[he,C5 hq];rfl
       rw[hat (by rw[e1];decide),e1]
      rw[e]
      refine A7 (A5 (A9 (B4 (D8 O (D7 O O O (B1 O (yW ei (by omega) O O (J9 (ys:=[_,_,_,_,_]) O O O (yZ (cs:=[_,_,_,_,_]) O O ?_)))))))));refine yS (cs':=[_,_,_,_,_]) O O O O O (yQ (A5 (B4 (D8 O (D7 O O O (yC (c1) O O (yU O O O (yQ (B9 O ?_)))))))));refine A7 (A5 (B4 (D8 O (D7 O O O (yC (c7) O O (yB O O O O (B1 O (D8 O (D7 O O O ?_)))))))));refine D8 O (D7 O O O (yB O O O O ?_));rw[t1]
      refine I6 O O (yQ (E0 O (B4 (C9 O (yQ (C4 (A8 (C0 (A8 ?_)))))))));refine A8 (C0 (A8 ?_))
      exact J2 O O
    have t1:decide (q > d)=false:=C3 hq
    rw[C3 hq]at he
    cases nb with
    | false=>
     have e:r=23:=by
      have e1:mE d ms i=23:=by rw[he];rfl
      rw[hat (by rw[e1];decide),e1]
     rw[e]
     refine A7 (A5 (A9 (B4 (D8 O (D7 O O O (B1 O (yW ei (by omega) O O (J9 (ys:=[_,_,_,_,_]) O O O (yZ (cs:=[_,_,_,_,_]) O O ?_)))))))));refine yS (cs':=[_,_,_,_,_]) O O O O O (yQ (A5 (B4 (D8 O (D7 O O O (yC (c1) O O (yU O O O (yQ (B9 O ?_)))))))));refine A7 (A5 (B4 (D8 O (D7 O O O (yC (c7) O O (yB O O O O (B1 O (D8 O (D7 O O O ?_)))))))));refine D8 O (D7 O O O (yB O O O O ?_));rw[t1]
     refine I6 O O (yQ (B9 O (A7 (A5 (B4 (D8 O (D7 O O O (yC (c2) O O (yU O O O ?_)))))))));refine yQ (E0 O (B4 (C9 O (yQ (C4 (A8 (C0 (A8 (A8 ?_)))))))));refine C0 (A8 ?_)
     exact J2 O O
    | true=>
    cases ca with
    | false=>
     have e:r=1:=by
      have e1:mE d ms i=1:=by rw[he];rfl
      rw[hat (by rw[e1];decide),e1]
     rw[e]
     refine A7 (A5 (A9 (B4 (D8 O (D7 O O O (B1 O (yW ei (by omega) O O (J9 (ys:=[_,_,_,_,_]) O O O (yZ (cs:=[_,_,_,_,_]) O O ?_)))))))));refine yS (cs':=[_,_,_,_,_]) O O O O O (yQ (A5 (B4 (D8 O (D7 O O O (yC (c1) O O (yU O O O (yQ (B9 O ?_)))))))));refine A7 (A5 (B4 (D8 O (D7 O O O (yC (c7) O O (yB O O O O (B1 O (D8 O (D7 O O O ?_)))))))));refine D8 O (D7 O O O (yB O O O O ?_));rw[t1]
     refine I6 O O (yQ (B9 O (A7 (A5 (B4 (D8 O (D7 O O O (yC (c2) O O (yU O O O ?_)))))))));refine yQ (B9 O (A7 (A5 (B4 (D8 O (D7 O O O (yC (c3) O O (yB O O O O (B1 O ?_)))))))));refine yO O (yO O (yO O (yO O (J7 O O (yQ (E0 O (B4 (C9 O (yQ ?_)))))))));refine C4 (A8 (C0 (A8 (A8 (C0 (A8 ?_))))))
     exact J2 O O
    | true=>
    cases cb with
    | false=>
     have e:r=1:=by
      have e1:mE d ms i=1:=by rw[he];rfl
      rw[hat (by rw[e1];decide),e1]
     rw[e]
     refine A7 (A5 (A9 (B4 (D8 O (D7 O O O (B1 O (yW ei (by omega) O O (J9 (ys:=[_,_,_,_,_]) O O O (yZ (cs:=[_,_,_,_,_]) O O ?_)))))))));refine yS (cs':=[_,_,_,_,_]) O O O O O (yQ (A5 (B4 (D8 O (D7 O O O (yC (c1) O O (yU O O O (yQ (B9 O ?_)))))))));refine A7 (A5 (B4 (D8 O (D7 O O O (yC (c7) O O (yB O O O O (B1 O (D8 O (D7 O O O ?_)))))))));refine D8 O (D7 O O O (yB O O O O ?_));rw[t1]
     refine I6 O O (yQ (B9 O (A7 (A5 (B4 (D8 O (D7 O O O (yC (c2) O O (yU O O O ?_)))))))));refine yQ (B9 O (A7 (A5 (B4 (D8 O (D7 O O O (yC (c3) O O (yB O O O O (B1 O ?_)))))))));refine D8 O (D7 O O O (yC (c4) O O (yB O O O O (I6 O O (yQ (E0 O (B4 (C9 O (yQ ?_)))))))));refine C4 (A8 (C0 (A8 (A8 (C0 (A8 ?_))))))
     exact J2 O O
    | true=>
    by_cases hg:40<ndig z
    . have t2:decide ((ndig z:Int) > 40)=true:=C5 (by omega)
      have e:r=4:=by
       have e1:mE d ms i=4:=by rw[he,C5 hg];rfl
       rw[hat (by rw[e1];decide),e1]
      rw[e]
      refine A7 (A5 (A9 (B4 (D8 O (D7 O O O (B1 O (yW ei (by omega) O O (J9 (ys:=[_,_,_,_,_]) O O O (yZ (cs:=[_,_,_,_,_]) O O ?_)))))))));refine yS (cs':=[_,_,_,_,_]) O O O O O (yQ (A5 (B4 (D8 O (D7 O O O (yC (c1) O O (yU O O O (yQ (B9 O ?_)))))))));refine A7 (A5 (B4 (D8 O (D7 O O O (yC (c7) O O (yB O O O O (B1 O (D8 O (D7 O O O ?_)))))))));refine D8 O (D7 O O O (yB O O O O ?_));rw[t1]
      refine I6 O O (yQ (B9 O (A7 (A5 (B4 (D8 O (D7 O O O (yC (c2) O O (yU O O O ?_)))))))));refine yQ (B9 O (A7 (A5 (B4 (D8 O (D7 O O O (yC (c3) O O (yB O O O O (B1 O ?_)))))))));refine D8 O (D7 O O O (yC (c4) O O (yB O O O O (I6 O O (yQ (B9 O (A7 (A5 (B4 ?_)))))))));refine D8 O (D7 O O O (yC (c5) O O (yB O O O O ?_)));rw[t2];refine B1 O (yO O (yO O (yO O (yO O (J7 O O (yQ (E0 O (B4 (C9 O ?_)))))))));refine yQ (C4 (A8 (C0 (A8 (A8 (C0 (A8 ?_)))))))
      exact J2 O O
    have t2:decide ((ndig z:Int) > 40)=false:=C3 (by omega)
    rw[C3 hg]at he
    by_cases hg2:40<ndig u
    . have t3:decide ((ndig u:Int) > 40)=true:=C5 (by omega)
      have e:r=4:=by
       have e1:mE d ms i=4:=by rw[he,C5 hg2];rfl
       rw[hat (by rw[e1];decide),e1]
      rw[e]
      refine A7 (A5 (A9 (B4 (D8 O (D7 O O O (B1 O (yW ei (by omega) O O (J9 (ys:=[_,_,_,_,_]) O O O (yZ (cs:=[_,_,_,_,_]) O O ?_)))))))));refine yS (cs':=[_,_,_,_,_]) O O O O O (yQ (A5 (B4 (D8 O (D7 O O O (yC (c1) O O (yU O O O (yQ (B9 O ?_)))))))));refine A7 (A5 (B4 (D8 O (D7 O O O (yC (c7) O O (yB O O O O (B1 O (D8 O (D7 O O O ?_)))))))));refine D8 O (D7 O O O (yB O O O O ?_));rw[t1]
      refine I6 O O (yQ (B9 O (A7 (A5 (B4 (D8 O (D7 O O O (yC (c2) O O (yU O O O ?_)))))))));refine yQ (B9 O (A7 (A5 (B4 (D8 O (D7 O O O (yC (c3) O O (yB O O O O (B1 O ?_)))))))));refine D8 O (D7 O O O (yC (c4) O O (yB O O O O (I6 O O (yQ (B9 O (A7 (A5 (B4 ?_)))))))));refine D8 O (D7 O O O (yC (c5) O O (yB O O O O ?_)));rw[t2];refine B1 O (D8 O (D7 O O O (yC (c6) O O (yB O O O O ?_))));rw[t3];refine I6 O O (yQ (E0 O (B4 (C9 O (yQ (C4 (A8 (C0 (A8 ?_)))))))));refine A8 (C0 (A8 ?_))
      exact J2 O O
    have t3:decide ((ndig u:Int) > 40)=false:=C3 (by omega)
    rw[C3 hg2]at he
    have hyn:(z==([]:F4))=true∨(z==([]:F4))=false:=by cases (z==([]:F4))<;>simp
    rcases hyn with t4|t4
    . have e:r=2:=by
       have e1:mE d ms i=2:=by rw[he,t4];rfl
       rw[hat (by rw[e1];decide),e1]
      rw[e]
      refine A7 (A5 (A9 (B4 (D8 O (D7 O O O (B1 O (yW ei (by omega) O O (J9 (ys:=[_,_,_,_,_]) O O O (yZ (cs:=[_,_,_,_,_]) O O ?_)))))))));refine yS (cs':=[_,_,_,_,_]) O O O O O (yQ (A5 (B4 (D8 O (D7 O O O (yC (c1) O O (yU O O O (yQ (B9 O ?_)))))))));refine A7 (A5 (B4 (D8 O (D7 O O O (yC (c7) O O (yB O O O O (B1 O (D8 O (D7 O O O ?_)))))))));refine D8 O (D7 O O O (yB O O O O ?_));rw[t1]
      refine I6 O O (yQ (B9 O (A7 (A5 (B4 (D8 O (D7 O O O (yC (c2) O O (yU O O O ?_)))))))));refine yQ (B9 O (A7 (A5 (B4 (D8 O (D7 O O O (yC (c3) O O (yB O O O O (B1 O ?_)))))))));refine D8 O (D7 O O O (yC (c4) O O (yB O O O O (I6 O O (yQ (B9 O (A7 (A5 (B4 ?_)))))))));refine D8 O (D7 O O O (yC (c5) O O (yB O O O O ?_)));rw[t2];refine B1 O (D8 O (D7 O O O (yC (c6) O O (yB O O O O ?_))));rw[t3];refine I6 O O (yQ (B9 O (A7 (A5 (B4 (D8 O (D7 O O O (L8 O O ?_))))))));rw[t4];refine yQ (E0 O (B4 (C9 O (yQ (C4 (A8 (C0 (A8 (A8 ?_)))))))));refine C0 (A8 ?_)
      exact J2 O O
    rw[t4]at he
    by_cases hi0:i=0
    . subst hi0
      have e1:mE d ms 0=0:=by rw[he];rfl
      refine A7 (A5 (A9 (B4 (D8 O (D7 O O O (B1 O (yW ei (by omega) O O (J9 (ys:=[_,_,_,_,_]) O O O (yZ (cs:=[_,_,_,_,_]) O O ?_)))))))));refine yS (cs':=[_,_,_,_,_]) O O O O O (yQ (A5 (B4 (D8 O (D7 O O O (yC (c1) O O (yU O O O (yQ (B9 O ?_)))))))));refine A7 (A5 (B4 (D8 O (D7 O O O (yC (c7) O O (yB O O O O (B1 O (D8 O (D7 O O O ?_)))))))));refine D8 O (D7 O O O (yB O O O O ?_));rw[t1]
      refine I6 O O (yQ (B9 O (A7 (A5 (B4 (D8 O (D7 O O O (yC (c2) O O (yU O O O ?_)))))))));refine yQ (B9 O (A7 (A5 (B4 (D8 O (D7 O O O (yC (c3) O O (yB O O O O (B1 O ?_)))))))));refine D8 O (D7 O O O (yC (c4) O O (yB O O O O (I6 O O (yQ (B9 O (A7 (A5 (B4 ?_)))))))));refine D8 O (D7 O O O (yC (c5) O O (yB O O O O ?_)));rw[t2];refine B1 O (D8 O (D7 O O O (yC (c6) O O (yB O O O O ?_))));rw[t3];refine I6 O O (yQ (B9 O (A7 (A5 (B4 (D8 O (D7 O O O (L8 O O ?_))))))));rw[t4];refine yQ (B9 O (A7 (A5 ?_)));refine G1 Tryz.mixed (by kernel_rfl) ?_;refine B1 O (yB O O O O (B1 O (yO O (yO O (yO O (yO O (yO O (yO O (yO O ?_)))))))));refine yO O (yO O (yO O (I6 O O (yQ (B9 O (A7 (B3 (B1 O (yB O O O O ?_)))))))));refine C9 O (yQ (B6 ?_))
      refine⟨1,⟨by omega,P0 h0 e1⟩,by omega,rfl,⟨D2,L6 hw,C8⟩,⟨⟨_,rfl,D2,D2,D2,C8⟩,C8⟩,C8,rfl⟩
    have t5:decide ((i:Int) > 0)=true:=C5 (by omega)
    obtain⟨⟨px,pq,py,pz,pu⟩,hp⟩:∃ a,ms[i-1]? = some a:=⟨_,A4 (by omega)⟩
    have ep:=ix dM ms _ (i-1) (px,pq,py,pz,pu) (CY (by omega) (by omega)) hp
    rw[B8 hi0,hp]at he
    simp only[Option.map_some]at he
    have h0p:(0:Int)<=IntKind.i64.wrap ((i:Int)-1):=by rw[CY (by omega) (by omega)];omega
    by_cases hlt:q<pq
    . have t6:decide (pq > q)=true:=C5 hlt
      have e:r=8:=by
       have e1:mE d ms i=8:=by rw[he,C5 hlt];rfl
       rw[hat (by rw[e1];decide),e1]
      rw[e]
      refine A7 (A5 (A9 (B4 (D8 O (D7 O O O (B1 O (yW ei (by omega) O O (J9 (ys:=[_,_,_,_,_]) O O O (yZ (cs:=[_,_,_,_,_]) O O ?_)))))))));refine yS (cs':=[_,_,_,_,_]) O O O O O (yQ (A5 (B4 (D8 O (D7 O O O (yC (c1) O O (yU O O O (yQ (B9 O ?_)))))))));refine A7 (A5 (B4 (D8 O (D7 O O O (yC (c7) O O (yB O O O O (B1 O (D8 O (D7 O O O ?_)))))))));refine D8 O (D7 O O O (yB O O O O ?_));rw[t1]
      refine I6 O O (yQ (B9 O (A7 (A5 (B4 (D8 O (D7 O O O (yC (c2) O O (yU O O O ?_)))))))));refine yQ (B9 O (A7 (A5 (B4 (D8 O (D7 O O O (yC (c3) O O (yB O O O O (B1 O ?_)))))))));refine D8 O (D7 O O O (yC (c4) O O (yB O O O O (I6 O O (yQ (B9 O (A7 (A5 (B4 ?_)))))))));refine D8 O (D7 O O O (yC (c5) O O (yB O O O O ?_)));rw[t2];refine B1 O (D8 O (D7 O O O (yC (c6) O O (yB O O O O ?_))));rw[t3];refine I6 O O (yQ (B9 O (A7 (A5 (B4 (D8 O (D7 O O O (L8 O O ?_))))))));rw[t4];refine yQ (B9 O (A7 (A5 ?_)));refine G1 Tryz.mixed (by kernel_rfl) ?_;refine B1 O (yB O O O O ?_);rw[t5];refine B1 O (D8 O (D7 O O O (B1 O (yB O O O O (yW ep h0p O O (Ie O O (K7 O O (D8 O (D7 O O O ?_)))))))));refine yB O O O O ?_;rw[t6];refine J7 O O (yQ (E0 O (B4 (C9 O (yQ (C4 (C0 (A8 (A8 ?_)))))))));refine C0 (A8 ?_)
      exact J2 O O
    . have t6:decide (pq > q)=false:=C3 hlt
      have e1:mE d ms i=0:=by rw[he,C3 hlt];rfl
      refine A7 (A5 (A9 (B4 (D8 O (D7 O O O (B1 O (yW ei (by omega) O O (J9 (ys:=[_,_,_,_,_]) O O O (yZ (cs:=[_,_,_,_,_]) O O ?_)))))))));refine yS (cs':=[_,_,_,_,_]) O O O O O (yQ (A5 (B4 (D8 O (D7 O O O (yC (c1) O O (yU O O O (yQ (B9 O ?_)))))))));refine A7 (A5 (B4 (D8 O (D7 O O O (yC (c7) O O (yB O O O O (B1 O (D8 O (D7 O O O ?_)))))))));refine D8 O (D7 O O O (yB O O O O ?_));rw[t1]
      refine I6 O O (yQ (B9 O (A7 (A5 (B4 (D8 O (D7 O O O (yC (c2) O O (yU O O O ?_)))))))));refine yQ (B9 O (A7 (A5 (B4 (D8 O (D7 O O O (yC (c3) O O (yB O O O O (B1 O ?_)))))))));refine D8 O (D7 O O O (yC (c4) O O (yB O O O O (I6 O O (yQ (B9 O (A7 (A5 (B4 ?_)))))))));refine D8 O (D7 O O O (yC (c5) O O (yB O O O O ?_)));rw[t2];refine B1 O (D8 O (D7 O O O (yC (c6) O O (yB O O O O ?_))));rw[t3];refine I6 O O (yQ (B9 O (A7 (A5 (B4 (D8 O (D7 O O O (L8 O O ?_))))))));rw[t4];refine yQ (B9 O (A7 (A5 ?_)));refine G1 Tryz.mixed (by kernel_rfl) ?_;refine B1 O (yB O O O O ?_);rw[t5];refine B1 O (D8 O (D7 O O O (B1 O (yB O O O O (yW ep h0p O O (Ie O O (K7 O O (D8 O (D7 O O O ?_)))))))));refine yB O O O O ?_;rw[t6];refine J7 O O (yQ (B9 O (A7 (B3 (B1 O (yB O O O O (C9 O (yQ (B6 ?_)))))))))
      refine⟨i+1,⟨by omega,P0 h0 e1⟩,by omega,rfl,⟨D2,L6 hw,C8⟩,⟨⟨_,rfl,D2,D2,D2,C8⟩,C8⟩,C8,rfl⟩
 . simp at h
   have e:r=0:=by rw[he1,show ms.length=i by omega];exact h0
   rw[e]
   refine F6 (B4 (C9 O (yQ (C4 ?_))))
   exact J2 O O
def BH (s t:Stm) (days:Int):Int:=
 if Dx s != 0||Dx t != 0 then 1 else if s.d != t.d then 9 else if decide (days<0)||decide (days > 366)then 2 else 0
theorem wChk (s t:Stm) (days:Int) (hs:fitS s) (ht:fitS t):PCalls Tryz.prog 40 [.agg (DF s),.agg (DF t),dI days] (.d (dI (BH s t days))):=by
 have c1:=Fw s hs
 have c2:=Fw t ht
 obtain⟨r,hr⟩:=H1 (BH s t days)
 unfold BH at hr
 obtain⟨e1,h1⟩:=H1 (Dx s)
 obtain⟨e2,h2⟩:=H1 (Dx t)
 rw[<-h1]at c1 hr
 rw[<-h2]at c2 hr
 rw[show BH s t days=r by rw[hr,h1,h2];rfl]
 obtain⟨d1,hs1,ms⟩:=s
 obtain⟨d2,hs2,ts⟩:=t
 simp only at hr
 refine L7 Tryz.func40 O Tryz.ntmps40 Tryz.results40 fun B w0=>?_
 cases t1:(e1 != 0) with
 | true=>
  rw[t1]at hr
  subst hr
  refine B4 (yK (cs:=[_,_,_]) O O (yK (cs:=[_,_,_]) O O (C9 O (yQ (A5 (B4 (J8 (ys:=[_,_,_]) O O O O (yC (c1) O O (yB O O O O ?_)))))))));refine B1 O ?_;rw[t1];refine yO O (yO O (yO O (J7 O O (yQ (E0 O (B4 (C9 O (yQ (C4 ?_)))))))));refine A8 ?_
  exact J2 O O
 | false=>
 cases t2:(e2 != 0) with
 | true=>
  rw[t1,t2]at hr
  subst hr
  refine B4 (yK (cs:=[_,_,_]) O O (yK (cs:=[_,_,_]) O O (C9 O (yQ (A5 (B4 (J8 (ys:=[_,_,_]) O O O O (yC (c1) O O (yB O O O O ?_)))))))));refine B1 O ?_;rw[t1];refine J8 (ys:=[_,_,_]) O O O O (yC (c2) O O (yB O O O O (I6 O O (yQ (B6 ?_)))));rw[t2];refine E0 O (B4 (C9 O (yQ (C4 (A8 ?_)))))
  exact J2 O O
 | false=>
 rw[t1,t2]at hr
 cases t3:(d1 != d2) with
 | true=>
  rw[t3]at hr
  subst hr
  refine B4 (yK (cs:=[_,_,_]) O O (yK (cs:=[_,_,_]) O O (C9 O (yQ (A5 (B4 (J8 (ys:=[_,_,_]) O O O O (yC (c1) O O (yB O O O O ?_)))))))));refine B1 O ?_;rw[t1];refine J8 (ys:=[_,_,_]) O O O O (yC (c2) O O (yB O O O O (I6 O O (yQ (B6 ?_)))));rw[t2];refine B9 O (A7 (A5 (B4 (D8 O (D7 O O O (D8 O (D7 O O O (yB O O O O (yQ ?_)))))))));refine B6 ?_;rw[t3];refine E0 O (B4 (C9 O (yQ (C4 (A8 ?_)))))
  exact J2 O O
 | false=>
 rw[t3]at hr
 cases t4:decide (days<0) with
 | true=>
  rw[t4]at hr
  subst hr
  refine B4 (yK (cs:=[_,_,_]) O O (yK (cs:=[_,_,_]) O O (C9 O (yQ (A5 (B4 (J8 (ys:=[_,_,_]) O O O O (yC (c1) O O (yB O O O O ?_)))))))));refine B1 O ?_;rw[t1];refine J8 (ys:=[_,_,_]) O O O O (yC (c2) O O (yB O O O O (I6 O O (yQ (B6 ?_)))));rw[t2];refine B9 O (A7 (A5 (B4 (D8 O (D7 O O O (D8 O (D7 O O O (yB O O O O (yQ ?_)))))))));refine B6 ?_;rw[t3];refine B9 O (A7 (A5 (B4 (B1 O (yB O O O O (B1 O ?_))))));rw[t4];refine yO O (yO O (J7 O O (yQ (E0 O (B4 (C9 O (yQ (C4 (A8 ?_)))))))))
  exact J2 O O
 | false=>
 rw[t4]at hr
 cases t5:decide (days > 366) with
 | true=>
  rw[t5]at hr
  subst hr
  refine B4 (yK (cs:=[_,_,_]) O O (yK (cs:=[_,_,_]) O O (C9 O (yQ (A5 (B4 (J8 (ys:=[_,_,_]) O O O O (yC (c1) O O (yB O O O O ?_)))))))));refine B1 O ?_;rw[t1];refine J8 (ys:=[_,_,_]) O O O O (yC (c2) O O (yB O O O O (I6 O O (yQ (B6 ?_)))));rw[t2];refine B9 O (A7 (A5 (B4 (D8 O (D7 O O O (D8 O (D7 O O O (yB O O O O (yQ ?_)))))))));refine B6 ?_;rw[t3];refine B9 O (A7 (A5 (B4 (B1 O (yB O O O O (B1 O ?_))))));rw[t4];refine B1 O (yB O O O O (I6 O O (yQ (B6 ?_))));rw[t5];refine E0 O (B4 (C9 O (yQ (C4 (A8 ?_)))))
  exact J2 O O
 | false=>
  rw[t5]at hr
  subst hr
  refine B4 (yK (cs:=[_,_,_]) O O (yK (cs:=[_,_,_]) O O (C9 O (yQ (A5 (B4 (J8 (ys:=[_,_,_]) O O O O (yC (c1) O O (yB O O O O ?_)))))))));refine B1 O ?_;rw[t1];refine J8 (ys:=[_,_,_]) O O O O (yC (c2) O O (yB O O O O (I6 O O (yQ (B6 ?_)))));rw[t2];refine B9 O (A7 (A5 (B4 (D8 O (D7 O O O (D8 O (D7 O O O (yB O O O O (yQ ?_)))))))));refine B6 ?_;rw[t3];refine B9 O (A7 (A5 (B4 (B1 O (yB O O O O (B1 O ?_))))));rw[t4];refine B1 O (yB O O O O (I6 O O (yQ (B6 ?_))));rw[t5];refine B9 O (A7 (B4 (C9 O (yQ (C4 ?_)))))
  exact J2 O O
theorem JZ {s t:Stm} {days:Int} (h:BH s t days=0):Dx s=0∧Dx t=0∧s.d=t.d∧0<=days∧days<=366:=by
 unfold BH at h
 by_cases h1:(Dx s != 0||Dx t != 0)=true
 . rw[C2 h1]at h;cases h
 . rw[B8 h1]at h
   by_cases h2:(s.d != t.d)=true
   . rw[C2 h2]at h;cases h
   . rw[B8 h2]at h
     by_cases h3:(decide (days<0)||decide (days > 366))=true
     . rw[C2 h3]at h;cases h
     . simp at h1 h2 h3
       exact⟨h1.1,h1.2,h2,h3⟩
def DZ (s t:Stm) (days:Int):List (Int×Int):=if BH s t days=0 then BB (AR days s.ms t.ms).1 s.ms.length else []
theorem ixs {l:List (Option Nat)} (h:i<l.length):((l.map AU).map dZ)[(i:Int).toNat]? = some (dZ (AU (l[i]?.getD none))):=by
 rw[H6]
 simp[A4 h]
theorem Kl (s t:Stm) (days:Int) (hs:fitS s) (ht:fitS t):PCalls Tryz.prog 12 [.agg (DF s),.agg (DF t),dI days] (.tup [.sl 2 ((DZ s t days).map II),dI (BH s t days)]):=by
 have c1:=wChk s t days hs ht
 obtain⟨ck,hck⟩:=H1 (BH s t days)
 have hp:DZ s t days=if ck=0 then BB (AR days s.ms t.ms).1 s.ms.length else []:=by rw[DZ,hck]
 rw[<-hck]at c1 ⊢
 rw[hp]
 by_cases h0:ck=0
 rotate_left
 . have t1:(ck != 0)=true:=by simpa using h0
   rw[B8 h0]
   obtain⟨d1,hs1,ms⟩:=s
   obtain⟨d2,hs2,ts⟩:=t
   refine L7 Tryz.func12 O Tryz.ntmps12 Tryz.results12 fun B w0=>?_
   refine B4 (yK (cs:=[_,_,_]) O O (yK (cs:=[_,_,_]) O O (C9 O (C9 O (yQ (A5 (B4 (J8 (ys:=[_,_,_]) O O O O (J8 (ys:=[_,_,_]) O O O O ?_)))))))));refine B1 O (yC (c1) O O (C9 O (yQ (B4 (B1 O (yB O O O O (yQ (B6 ?_))))))));rw[t1];refine E0 O (B4 (B1 O (C9 O (C9 O (yQ (C4 (A8 ?_)))))))
   exact K9 _ (.tnil 2 O (.tmp O .nil)) O
 . rw[C2 h0]
   have hv:=JZ (hck.symm.trans h0)
   have c2:=Km s t days hs.ml ht.ml (EM hv.1) (EM hv.2.1)
   have hl:=Cv days s.ms t.ms
   have hml:=hs.ml
   subst h0
   obtain⟨⟨pl,tk⟩,hp⟩:=H1 (AR days s.ms t.ms)
   rw[<-hp]at hl c2 ⊢
   obtain⟨d1,hs1,ms⟩:=s
   obtain⟨d2,hs2,ts⟩:=t
   simp only at hl c2 hml ⊢
   refine L7 Tryz.func12 O Tryz.ntmps12 Tryz.results12 fun B w0=>?_
   refine B4 (yK (cs:=[_,_,_]) O O (yK (cs:=[_,_,_]) O O (C9 O (C9 O (yQ (A5 (B4 (J8 (ys:=[_,_,_]) O O O O (J8 (ys:=[_,_,_]) O O O O ?_)))))))));refine B1 O (yC (c1) O O (C9 O (yQ (B4 (B1 O (yB O O O O (yQ (B9 O (A7 ?_)))))))));refine B4 (C9 O (yQ ?_));refine FJ 9 (37*100000+9) 2 O O O ?_;refine B4 (J8 (ys:=[_,_,_]) O O O O (J8 (ys:=[_,_,_]) O O O O (B1 O (yC (c2) O O (Aw O (yX O O (yX O O (C9 O (C9 O ?_)))))))));refine yQ (A5 (B4 (B1 O (yN O (B1 O (yQ (A9 ?_)))))));refine G6 (fun i:Nat=>⟨45,[(9,.ts (37*100000+9) 2 ((BB pl i).map II)),(28,.d (dIs (pl.map AU))),(29,.d (dI pl.length)),(30,.d (dI i))],[],[(37*100000+9,((BB pl i).map II).length)]⟩) (fun i=>i<=pl.length) (fun i=>pl.length-i) 0 (D4 _)
    ⟨rfl,⟨D2,D2,Cs (by simp),D2,C8⟩,C8,⟨rfl,C8⟩,rfl⟩ ?_
   intro i hi
   have hnx:BB pl (i+1)=match pl[i]?.getD none with
    | none=>BB pl i
    | some k=>BB pl i++[((i:Int),(k:Int))]:=rfl
   have hpn:=La pl i
   obtain⟨nx,hnx2⟩:=H1 (BB pl (i+1))
   have hend:i=pl.length->BB pl ms.length=BB pl i:=fun e=>by rw[e,hl.1]
   obtain⟨zs,hzs⟩:=H1 (BB pl i)
   rw[<-hzs]at hnx hpn hend ⊢
   rw[<-hnx2]at hnx
   refine B4 (yB O O O O (yQ (A5 ?_)));refine H7 O (fun h=>?_) (fun h=>?_)
   . simp at h
     have ei:=ixs h
     have hw:=H2 ((i:Int)+1) (by omega)
     obtain⟨o,ho⟩:=H1 (pl[i]?.getD none)
     rw[<-ho]at ei hnx
     cases o with
     | none=>
      have e:nx=zs:=hnx
      refine A7 (A5 (A9 (B4 (B1 O (yW ei (by omega) O O (K7 O O (C9 O (C9 O (yQ ?_)))))))));refine B4 (B1 O (yB O O O O (yQ (B9 O (A7 (B3 (yB O O O O (B1 O (yQ ?_)))))))));refine B6 ?_
      refine⟨i+1,by omega,by omega,rfl,⟨.of_eq (by rw[<-hnx2,e];rfl),D2,D2,L6 hw,C8⟩,C8,⟨(by rw[<-hnx2,e];rfl),C8⟩,rfl⟩
     | some k=>
      have e:nx=zs++[((i:Int),(k:Int))]:=hnx
      have t1:decide (AU (some k) ≥ 0)=true:=C5 (by show(k:Int) ≥ 0;omega)
      refine A7 (A5 (A9 (B4 (B1 O (yW ei (by omega) O O (K7 O O (C9 O (C9 O (yQ ?_)))))))));refine B4 (B1 O (yB O O O O (yQ (E0 O (B3 (Ib O (B1 O (B1 O (yG (ys:=[_,_]) O O ?_)))))))));refine yR (es:=[[_,_]]) O O O O O ?_;refine yT (es':=(zs++[((i:Int),(k:Int))]).map II) (m:=((zs++[((i:Int),(k:Int))]).map II).length) (by simp;omega) (by simp;omega) O O O O O (by simp[AU]) (by simp) ?_;refine Fu O (yQ (B3 (yB O O O O (B1 O (yQ (B6 ?_))))));rw[t1]
      refine⟨i+1,by omega,by omega,rfl,⟨.of_eq (by rw[<-hnx2,e];rfl),D2,D2,L6 hw,C8⟩,C8,⟨(by rw[<-hnx2,e];rfl),C8⟩,rfl⟩
   . simp at h
     rw[hend (by omega)]
     refine F6 (B4 (Ib O (Fu O (C9 O (yQ (C4 ?_))))))
     exact Cu O O O
def GT (s t:Stm) (days:Int):List Bk:=if BH s t days=0 then Li s.ms t.ms days else []
theorem Hj {tk:List Bool} {k:Nat} (h:k<tk.length):(tk.map IK)[(k:Int).toNat]? = some (IK (P6 tk k)):=tk_at h
abbrev bkT:Nat:=41*100000+9
def Gx (b:Bool):Int:=if b then 6 else 2
theorem Hc (s t:Stm) (days:Int) (hs:fitS s) (ht:fitS t):PCalls Tryz.prog 14 [.agg (DF s),.agg (DF t),dI days] (.tup [.sl 4 ((GT s t days).map AK),dI (BH s t days)]):=by
 have c1:=wChk s t days hs ht
 obtain⟨ck,hck⟩:=H1 (BH s t days)
 have hp:GT s t days=if ck=0 then Li s.ms t.ms days else []:=by rw[GT,hck]
 rw[<-hck]at c1 ⊢
 rw[hp]
 by_cases h0:ck=0
 rotate_left
 . have t1:(ck != 0)=true:=by simpa using h0
   rw[B8 h0]
   obtain⟨d1,hs1,ms⟩:=s
   obtain⟨d2,hs2,ts⟩:=t
   refine L7 Tryz.func14 O Tryz.ntmps14 Tryz.results14 fun B w0=>?_
   refine B4 (yK (cs:=[_,_,_]) O O (yK (cs:=[_,_,_]) O O (C9 O (C9 O (yQ (A5 (B4 (J8 (ys:=[_,_,_]) O O O O (J8 (ys:=[_,_,_]) O O O O ?_)))))))));refine B1 O (yC (c1) O O (C9 O (yQ (B4 (B1 O (yB O O O O (yQ (B6 ?_))))))));rw[t1];refine E0 O (B4 (B1 O (C9 O (C9 O (yQ (C4 (A8 ?_)))))))
   exact K9 _ (.tnil 4 O (.tmp O .nil)) O
 rw[C2 h0]
 have hv:=JZ (hck.symm.trans h0)
 have hv1:=EM hv.1
 have hv2:=EM hv.2.1
 have c2:=Km s t days hs.ml ht.ml hv1 hv2
 have hl:=Cv days s.ms t.ms
 have hml:=hs.ml
 have htl:=ht.ml
 have hlk:∀ (i k:Nat),(AR days s.ms t.ms).1[i]?.getD none=some k->k<t.ms.length:=fun i k h=>LY days s.ms t.ms h
 obtain⟨r,hr⟩:=H1 (Li s.ms t.ms days)
 rw[<-hr]
 unfold Li at hr
 subst h0
 obtain⟨⟨pl,tk⟩,hp⟩:=H1 (AR days s.ms t.ms)
 rw[<-hp]at hl c2 hlk hr
 obtain⟨d1,hs1,ms⟩:=s
 obtain⟨d2,hs2,ts⟩:=t
 simp only at hl c2 hml htl hlk hr hv1 hv2 ⊢
 refine L7 Tryz.func14 O Tryz.ntmps14 Tryz.results14 fun B w0=>?_
 refine B4 (yK (cs:=[_,_,_]) O O (yK (cs:=[_,_,_]) O O (C9 O (C9 O (yQ (A5 (B4 (J8 (ys:=[_,_,_]) O O O O (J8 (ys:=[_,_,_]) O O O O ?_)))))))));refine B1 O (yC (c1) O O (C9 O (yQ (B4 (B1 O (yB O O O O (yQ (B9 O (A7 ?_)))))))));refine B4 (yZ (cs:=[_]) O O (yQ ?_));refine BR 9 0 bkT 4 O O O O ?_;refine B4 (yCmb O (yAg O (yQ (B4 (J8 (ys:=[_,_,_]) O O O O (J8 (ys:=[_,_,_]) O O O O (B1 O (yC (c2) O O (Aw O ?_)))))))));refine yX O O (yX O O (C9 O (C9 O (yQ (A5 (B4 (D8 O (D7 O O O (yN O ?_)))))))));refine B1 O (yQ (A9 ?_));refine G6 (fun i:Nat=>⟨168,[(3,.bx 3 0),(4,.bx 4 0),(9,.bx 9 0),(10,.fb 44 9 0),(11,.d (dIs (pl.map AU))),(12,.d (.sl 1 (tk.map IK))),(37,.d (.sl 5 (ms.map dM))),(38,.d (dI ms.length)),(39,.d (dI i))],[(3,[.d (dI d1),.d (.sl 2 (hs1.map dH)),.d (.sl 5 (ms.map dM))]),(4,[.d (dI d2),.d (.sl 2 (hs2.map dH)),.d (.sl 5 (ts.map dM))]),(9,[.ts bkT 4 ((JF ms ts pl i).map AK)])],[(bkT,((JF ms ts pl i).map AK).length)]⟩) (fun i=>i<=ms.length) (fun i=>ms.length-i) 0 (D4 _)
  ⟨rfl,⟨D2,D2,D2,D2,D2,D2,D2,Cs (by simp),D2,C8⟩,⟨⟨_,rfl,D2,D2,D2,C8⟩,⟨_,rfl,D2,D2,D2,C8⟩,⟨_,rfl,D2,C8⟩,C8⟩,⟨rfl,C8⟩,rfl⟩ ?_
 intro i hi
 have hnx:∀ m,ms[i]? = some m->JF ms ts pl (i+1)=JF ms ts pl i++(match pl[i]?.getD none with
  | none=>[(1,m.1,m.2.2.2.1,[])]
  | some k=>match ts[k]? with
   | none=>[]
   | some x=>Kd m x):=fun m hm=>by rw[JF,hm];rfl
 have hln:=JE ms ts pl i
 obtain⟨nx,hnx2⟩:=H1 (JF ms ts pl (i+1))
 have hend:i=ms.length->JF ms ts pl ms.length=JF ms ts pl i:=fun e=>by rw[e]
 obtain⟨zs,hzs⟩:=H1 (JF ms ts pl i)
 simp only[<-hzs,<-hnx2]at hnx hln hend
 rw[<-hzs]
 refine B4 (yB O O O O (yQ (A5 ?_)));refine H7 O (fun h=>?_) (fun h=>?_)
 . simp at h
   obtain⟨⟨m0,m1,m2,m3,m4⟩,hm⟩:∃ a,ms[i]? = some a:=⟨_,A4 h⟩
   have em:=ix dM ms i i (m0,m1,m2,m3,m4) rfl hm
   have ep:=ixs' (l:=pl) (i:=i) (by omega)
   have hw:=H2 ((i:Int)+1) (by omega)
   have hn:=hnx _ hm
   have hvm:=hv1 _ (B2 hm)
   have hlki:=hlk i
   obtain⟨o,ho⟩:=H1 (pl[i]?.getD none)
   rw[<-ho]at ep hn hlki
   cases o with
   | none=>
    have e:nx=zs++[(1,m0,m3,[])]:=hn
    refine A7 (A5 (A9 (B4 (B1 O (yW em (by omega) O O (J9 (ys:=[_,_,_,_,_]) O O O (yZ (cs:=[_,_,_,_,_]) O O (C9 O (yS (cs':=[_,_,_,_,_]) O O O O O ?_)))))))));refine yQ (A5 (B4 (B1 O (B1 O (yW ep (by omega) O O (K7 O O (yB O O O O (yQ (E0 O ?_)))))))));refine B4 (Ft O (D8 O (D7 O O O (D8 O (D7 O O O ?_)))));refine AW (U6 _ (1,m0,m3,[]) (by first|omega|(simp;omega))) rfl rfl ⟨rfl,C8⟩ ⟨rfl,C8⟩ ?_ (hfit:=by kernel_rfl);refine yQ (F6 (B3 (yB O O O O (B1 O (yQ (B6 ?_))))))
    refine⟨i+1,by omega,by omega,rfl,⟨D2,D2,D2,D2,D2,D2,D2,D2,L6 hw,C8⟩,⟨⟨_,rfl,D2,D2,D2,C8⟩,⟨_,rfl,D2,D2,D2,C8⟩,⟨_,rfl,.of_eq (by rw[<-hnx2,e]<;>rfl),C8⟩,C8⟩,⟨(by rw[<-hnx2,e]<;>rfl),C8⟩,rfl⟩
   | some k=>
    have hk:=hlki k rfl
    obtain⟨⟨x0,x1,x2,x3,x4⟩,hx⟩:∃ a,ts[k]? = some a:=⟨_,A4 hk⟩
    obtain⟨b1,b2⟩:=vD_b hvm
    obtain⟨b3,b4⟩:=vD_b (hv2 _ (B2 hx))
    simp only at b1 b2 b3 b4
    have c3:=wOf m1 b1 b2
    have c4:=wOf x1 b3 b4
    have ex:(ts.map dM)[(AU (some k)).toNat]? = some (dM (x0,x1,x2,x3,x4)):=ix dM ts k k _ rfl hx
    have h0k:(0:Int)<=AU (some k):=by show(0:Int)<=k;omega
    have t0:decide (AU (some k)<0)=false:=C3 (by show ¬ ((k:Int)<0);omega)
    simp only[hx]at hn
    cases t1:(m3==x3)<;>cases t2:(m4==x4)<;>cases t3:(m1==x1)
    . have u3:(m1 != x1)=true:=by rw[bne,t3];rfl
      have e:nx=zs++[(3,m0,m3,x3)]++[(4,m0,m4,x4)]++[(5,m0,G8 m1,G8 x1)]:=by rw[hn];simp[Kd,t1,t2,t3]
      refine A7 (A5 (A9 (B4 (B1 O (yW em (by omega) O O (J9 (ys:=[_,_,_,_,_]) O O O (yZ (cs:=[_,_,_,_,_]) O O (C9 O (yS (cs':=[_,_,_,_,_]) O O O O O ?_)))))))));refine yQ (A5 (B4 (B1 O (B1 O (yW ep (by omega) O O (K7 O O (yB O O O O (yQ (B9 O ?_)))))))));refine A7 (A5 ?_);refine G1 Tryz.mixed (by kernel_rfl) ?_;refine D8 O (D7 O O O (B1 O (B1 O (yW ep (by omega) O O (K7 O O (yW ex h0k O O (J9 (ys:=[_,_,_,_,_]) O O O (yZ (cs:=[_,_,_,_,_]) O O (yS (cs':=[_,_,_,_,_]) O O O O O ?_)))))))));refine yQ (A5 (B4 (D8 O (D7 O O O (D8 O (D7 O O O (K6 O O (yQ (B6 ?_)))))))));rw[t0];rw[t1];refine E0 O (B3 (Ft O (D8 O (D7 O O O (D8 O (D7 O O O (D8 O (D7 O O O ?_))))))));refine AW (U6 _ (3,m0,m3,x3) (by first|omega|(simp;omega))) rfl rfl ⟨rfl,C8⟩ ⟨rfl,C8⟩ ?_ (hfit:=by kernel_rfl)
      refine yQ (A5 (B4 (D8 O (D7 O O O (D8 O (D7 O O O (K6 O O (yQ (B6 ?_)))))))));rw[t2]
      refine E0 O (B3 (Ft O (D8 O (D7 O O O (D8 O (D7 O O O (D8 O (D7 O O O ?_))))))));refine AW (U6 _ (4,m0,m4,x4) (by first|omega|(simp;omega))) rfl rfl ⟨rfl,C8⟩ ⟨rfl,C8⟩ ?_ (hfit:=by kernel_rfl);refine yQ (B4 (D8 O (D7 O O O (D8 O (D7 O O O (yB O O O O (yQ (B6 ?_))))))));rw[u3];refine E0 O ?_;refine BS (id:=18) [_,_,_,_,_,_,_,_,_] _ O Tryz.mixed (by kernel_rfl) (by kernel_rfl) ?_;refine Ft O (D8 O (D7 O O O (D8 O (D7 O O O (yC (c3) O O (D8 O (D7 O O O (yC (c4) O O (yQ ?_)))))))));refine AW (U6 _ (5,m0,G8 m1,G8 x1) (by first|omega|(simp;omega))) rfl rfl ⟨rfl,C8⟩ ⟨rfl,C8⟩ ?_ (hfit:=by kernel_rfl);refine yQ (B3 (yB O O O O (B1 O (yQ (B6 ?_)))))
      refine⟨i+1,by omega,by omega,rfl,⟨D2,D2,D2,D2,D2,D2,D2,D2,L6 hw,C8⟩,⟨⟨_,rfl,D2,D2,D2,C8⟩,⟨_,rfl,D2,D2,D2,C8⟩,⟨_,rfl,.of_eq (by rw[<-hnx2,e]<;>rfl),C8⟩,C8⟩,⟨(by rw[<-hnx2,e]<;>rfl),C8⟩,rfl⟩
    . have u3:(m1 != x1)=false:=by rw[bne,t3];rfl
      have e:nx=zs++[(3,m0,m3,x3)]++[(4,m0,m4,x4)]:=by rw[hn];simp[Kd,t1,t2,t3]
      refine A7 (A5 (A9 (B4 (B1 O (yW em (by omega) O O (J9 (ys:=[_,_,_,_,_]) O O O (yZ (cs:=[_,_,_,_,_]) O O (C9 O (yS (cs':=[_,_,_,_,_]) O O O O O ?_)))))))));refine yQ (A5 (B4 (B1 O (B1 O (yW ep (by omega) O O (K7 O O (yB O O O O (yQ (B9 O ?_)))))))));refine A7 (A5 ?_);refine G1 Tryz.mixed (by kernel_rfl) ?_;refine D8 O (D7 O O O (B1 O (B1 O (yW ep (by omega) O O (K7 O O (yW ex h0k O O (J9 (ys:=[_,_,_,_,_]) O O O (yZ (cs:=[_,_,_,_,_]) O O (yS (cs':=[_,_,_,_,_]) O O O O O ?_)))))))));refine yQ (A5 (B4 (D8 O (D7 O O O (D8 O (D7 O O O (K6 O O (yQ (B6 ?_)))))))));rw[t0];rw[t1];refine E0 O (B3 (Ft O (D8 O (D7 O O O (D8 O (D7 O O O (D8 O (D7 O O O ?_))))))));refine AW (U6 _ (3,m0,m3,x3) (by first|omega|(simp;omega))) rfl rfl ⟨rfl,C8⟩ ⟨rfl,C8⟩ ?_ (hfit:=by kernel_rfl)
      refine yQ (A5 (B4 (D8 O (D7 O O O (D8 O (D7 O O O (K6 O O (yQ (B6 ?_)))))))));rw[t2]
      refine E0 O (B3 (Ft O (D8 O (D7 O O O (D8 O (D7 O O O (D8 O (D7 O O O ?_))))))));refine AW (U6 _ (4,m0,m4,x4) (by first|omega|(simp;omega))) rfl rfl ⟨rfl,C8⟩ ⟨rfl,C8⟩ ?_ (hfit:=by kernel_rfl);refine yQ (B4 (D8 O (D7 O O O (D8 O (D7 O O O (yB O O O O (yQ (B6 ?_))))))));rw[u3];refine B9 O (A7 (B3 (yB O O O O (B1 O (yQ (B6 ?_))))))
      refine⟨i+1,by omega,by omega,rfl,⟨D2,D2,D2,D2,D2,D2,D2,D2,L6 hw,C8⟩,⟨⟨_,rfl,D2,D2,D2,C8⟩,⟨_,rfl,D2,D2,D2,C8⟩,⟨_,rfl,.of_eq (by rw[<-hnx2,e]<;>rfl),C8⟩,C8⟩,⟨(by rw[<-hnx2,e]<;>rfl),C8⟩,rfl⟩
    . have u3:(m1 != x1)=true:=by rw[bne,t3];rfl
      have e:nx=zs++[(3,m0,m3,x3)]++[(5,m0,G8 m1,G8 x1)]:=by rw[hn];simp[Kd,t1,t2,t3]
      refine A7 (A5 (A9 (B4 (B1 O (yW em (by omega) O O (J9 (ys:=[_,_,_,_,_]) O O O (yZ (cs:=[_,_,_,_,_]) O O (C9 O (yS (cs':=[_,_,_,_,_]) O O O O O ?_)))))))));refine yQ (A5 (B4 (B1 O (B1 O (yW ep (by omega) O O (K7 O O (yB O O O O (yQ (B9 O ?_)))))))));refine A7 (A5 ?_);refine G1 Tryz.mixed (by kernel_rfl) ?_;refine D8 O (D7 O O O (B1 O (B1 O (yW ep (by omega) O O (K7 O O (yW ex h0k O O (J9 (ys:=[_,_,_,_,_]) O O O (yZ (cs:=[_,_,_,_,_]) O O (yS (cs':=[_,_,_,_,_]) O O O O O ?_)))))))));refine yQ (A5 (B4 (D8 O (D7 O O O (D8 O (D7 O O O (K6 O O (yQ (B6 ?_)))))))));rw[t0];rw[t1];refine E0 O (B3 (Ft O (D8 O (D7 O O O (D8 O (D7 O O O (D8 O (D7 O O O ?_))))))));refine AW (U6 _ (3,m0,m3,x3) (by first|omega|(simp;omega))) rfl rfl ⟨rfl,C8⟩ ⟨rfl,C8⟩ ?_ (hfit:=by kernel_rfl)
      refine yQ (A5 (B4 (D8 O (D7 O O O (D8 O (D7 O O O (K6 O O (yQ (B6 ?_)))))))));rw[t2]
      refine B9 O (A7 (B4 (D8 O (D7 O O O (D8 O (D7 O O O (yB O O O O (yQ (B6 ?_)))))))))
      rw[u3];refine E0 O ?_;refine BS (id:=18) [_,_,_,_,_,_,_,_,_] _ O Tryz.mixed (by kernel_rfl) (by kernel_rfl) ?_;refine Ft O ?_;refine D8 O ?_;refine D7 O O O ?_;refine D8 O ?_
      refine D7 O O O (yC (c3) O O (D8 O (D7 O O O (yC (c4) O O (yQ ?_)))));refine AW (U6 _ (5,m0,G8 m1,G8 x1) (by first|omega|(simp;omega))) rfl rfl ⟨rfl,C8⟩ ⟨rfl,C8⟩ ?_ (hfit:=by kernel_rfl);refine yQ (B3 (yB O O O O (B1 O (yQ (B6 ?_)))))
      refine⟨i+1,by omega,by omega,rfl,⟨D2,D2,D2,D2,D2,D2,D2,D2,L6 hw,C8⟩,⟨⟨_,rfl,D2,D2,D2,C8⟩,⟨_,rfl,D2,D2,D2,C8⟩,⟨_,rfl,.of_eq (by rw[<-hnx2,e]<;>rfl),C8⟩,C8⟩,⟨(by rw[<-hnx2,e]<;>rfl),C8⟩,rfl⟩
    . have u3:(m1 != x1)=false:=by rw[bne,t3];rfl
      have e:nx=zs++[(3,m0,m3,x3)]:=by rw[hn];simp[Kd,t1,t2,t3]
      refine A7 (A5 (A9 (B4 (B1 O (yW em (by omega) O O (J9 (ys:=[_,_,_,_,_]) O O O (yZ (cs:=[_,_,_,_,_]) O O (C9 O (yS (cs':=[_,_,_,_,_]) O O O O O ?_)))))))));refine yQ (A5 (B4 (B1 O (B1 O (yW ep (by omega) O O (K7 O O (yB O O O O (yQ (B9 O ?_)))))))));refine A7 (A5 ?_);refine G1 Tryz.mixed (by kernel_rfl) ?_;refine D8 O (D7 O O O (B1 O (B1 O (yW ep (by omega) O O (K7 O O (yW ex h0k O O (J9 (ys:=[_,_,_,_,_]) O O O (yZ (cs:=[_,_,_,_,_]) O O (yS (cs':=[_,_,_,_,_]) O O O O O ?_)))))))));refine yQ (A5 (B4 (D8 O (D7 O O O (D8 O (D7 O O O (K6 O O (yQ (B6 ?_)))))))));rw[t0];rw[t1];refine E0 O (B3 (Ft O (D8 O (D7 O O O (D8 O (D7 O O O (D8 O (D7 O O O ?_))))))));refine AW (U6 _ (3,m0,m3,x3) (by first|omega|(simp;omega))) rfl rfl ⟨rfl,C8⟩ ⟨rfl,C8⟩ ?_ (hfit:=by kernel_rfl)
      refine yQ (A5 (B4 (D8 O (D7 O O O (D8 O (D7 O O O (K6 O O (yQ (B6 ?_)))))))));rw[t2]
      refine B9 O (A7 (B4 (D8 O (D7 O O O (D8 O (D7 O O O (yB O O O O (yQ (B6 ?_)))))))))
      rw[u3];refine B9 O ?_;refine A7 ?_;refine B3 ?_;refine yB O O O O ?_;refine B1 O ?_;refine yQ ?_;refine B6 ?_
      refine⟨i+1,by omega,by omega,rfl,⟨D2,D2,D2,D2,D2,D2,D2,D2,L6 hw,C8⟩,⟨⟨_,rfl,D2,D2,D2,C8⟩,⟨_,rfl,D2,D2,D2,C8⟩,⟨_,rfl,.of_eq (by rw[<-hnx2,e]<;>rfl),C8⟩,C8⟩,⟨(by rw[<-hnx2,e]<;>rfl),C8⟩,rfl⟩
    . have u3:(m1 != x1)=true:=by rw[bne,t3];rfl
      have e:nx=zs++[(4,m0,m4,x4)]++[(5,m0,G8 m1,G8 x1)]:=by rw[hn];simp[Kd,t1,t2,t3]
      refine A7 (A5 (A9 (B4 (B1 O (yW em (by omega) O O (J9 (ys:=[_,_,_,_,_]) O O O (yZ (cs:=[_,_,_,_,_]) O O (C9 O (yS (cs':=[_,_,_,_,_]) O O O O O ?_)))))))));refine yQ (A5 (B4 (B1 O (B1 O (yW ep (by omega) O O (K7 O O (yB O O O O (yQ (B9 O ?_)))))))));refine A7 (A5 ?_);refine G1 Tryz.mixed (by kernel_rfl) ?_;refine D8 O (D7 O O O (B1 O (B1 O (yW ep (by omega) O O (K7 O O (yW ex h0k O O (J9 (ys:=[_,_,_,_,_]) O O O (yZ (cs:=[_,_,_,_,_]) O O (yS (cs':=[_,_,_,_,_]) O O O O O ?_)))))))));refine yQ (A5 (B4 (D8 O (D7 O O O (D8 O (D7 O O O (K6 O O (yQ (B6 ?_)))))))));rw[t0];rw[t1];refine B9 O (A7 (A5 (B4 (D8 O (D7 O O O (D8 O (D7 O O O (K6 O O (yQ ?_)))))))));refine B6 ?_;rw[t2];refine E0 O (B3 (Ft O (D8 O (D7 O O O (D8 O (D7 O O O (D8 O (D7 O O O ?_))))))));refine AW (U6 _ (4,m0,m4,x4) (by first|omega|(simp;omega))) rfl rfl ⟨rfl,C8⟩ ⟨rfl,C8⟩ ?_ (hfit:=by kernel_rfl);refine yQ (B4 (D8 O (D7 O O O (D8 O (D7 O O O (yB O O O O (yQ (B6 ?_))))))));rw[u3];refine E0 O ?_;refine BS (id:=18) [_,_,_,_,_,_,_,_,_] _ O Tryz.mixed (by kernel_rfl) (by kernel_rfl) ?_;refine Ft O (D8 O (D7 O O O (D8 O (D7 O O O (yC (c3) O O (D8 O (D7 O O O (yC (c4) O O (yQ ?_)))))))));refine AW (U6 _ (5,m0,G8 m1,G8 x1) (by first|omega|(simp;omega))) rfl rfl ⟨rfl,C8⟩ ⟨rfl,C8⟩ ?_ (hfit:=by kernel_rfl);refine yQ (B3 (yB O O O O (B1 O (yQ (B6 ?_)))))
      refine⟨i+1,by omega,by omega,rfl,⟨D2,D2,D2,D2,D2,D2,D2,D2,L6 hw,C8⟩,⟨⟨_,rfl,D2,D2,D2,C8⟩,⟨_,rfl,D2,D2,D2,C8⟩,⟨_,rfl,.of_eq (by rw[<-hnx2,e]<;>rfl),C8⟩,C8⟩,⟨(by rw[<-hnx2,e]<;>rfl),C8⟩,rfl⟩
    . have u3:(m1 != x1)=false:=by rw[bne,t3];rfl
      have e:nx=zs++[(4,m0,m4,x4)]:=by rw[hn];simp[Kd,t1,t2,t3]
      refine A7 (A5 (A9 (B4 (B1 O (yW em (by omega) O O (J9 (ys:=[_,_,_,_,_]) O O O (yZ (cs:=[_,_,_,_,_]) O O (C9 O (yS (cs':=[_,_,_,_,_]) O O O O O ?_)))))))));refine yQ (A5 (B4 (B1 O (B1 O (yW ep (by omega) O O (K7 O O (yB O O O O (yQ (B9 O ?_)))))))));refine A7 (A5 ?_);refine G1 Tryz.mixed (by kernel_rfl) ?_;refine D8 O (D7 O O O (B1 O (B1 O (yW ep (by omega) O O (K7 O O (yW ex h0k O O (J9 (ys:=[_,_,_,_,_]) O O O (yZ (cs:=[_,_,_,_,_]) O O (yS (cs':=[_,_,_,_,_]) O O O O O ?_)))))))));refine yQ (A5 (B4 (D8 O (D7 O O O (D8 O (D7 O O O (K6 O O (yQ (B6 ?_)))))))));rw[t0];rw[t1];refine B9 O (A7 (A5 (B4 (D8 O (D7 O O O (D8 O (D7 O O O (K6 O O (yQ ?_)))))))));refine B6 ?_;rw[t2];refine E0 O (B3 (Ft O (D8 O (D7 O O O (D8 O (D7 O O O (D8 O (D7 O O O ?_))))))));refine AW (U6 _ (4,m0,m4,x4) (by first|omega|(simp;omega))) rfl rfl ⟨rfl,C8⟩ ⟨rfl,C8⟩ ?_ (hfit:=by kernel_rfl);refine yQ (B4 (D8 O (D7 O O O (D8 O (D7 O O O (yB O O O O (yQ (B6 ?_))))))));rw[u3];refine B9 O (A7 (B3 (yB O O O O (B1 O (yQ (B6 ?_))))))
      refine⟨i+1,by omega,by omega,rfl,⟨D2,D2,D2,D2,D2,D2,D2,D2,L6 hw,C8⟩,⟨⟨_,rfl,D2,D2,D2,C8⟩,⟨_,rfl,D2,D2,D2,C8⟩,⟨_,rfl,.of_eq (by rw[<-hnx2,e]<;>rfl),C8⟩,C8⟩,⟨(by rw[<-hnx2,e]<;>rfl),C8⟩,rfl⟩
    . have u3:(m1 != x1)=true:=by rw[bne,t3];rfl
      have e:nx=zs++[(5,m0,G8 m1,G8 x1)]:=by rw[hn];simp[Kd,t1,t2,t3]
      refine A7 (A5 (A9 (B4 (B1 O (yW em (by omega) O O (J9 (ys:=[_,_,_,_,_]) O O O (yZ (cs:=[_,_,_,_,_]) O O (C9 O (yS (cs':=[_,_,_,_,_]) O O O O O ?_)))))))));refine yQ (A5 (B4 (B1 O (B1 O (yW ep (by omega) O O (K7 O O (yB O O O O (yQ (B9 O ?_)))))))));refine A7 (A5 ?_);refine G1 Tryz.mixed (by kernel_rfl) ?_;refine D8 O (D7 O O O (B1 O (B1 O (yW ep (by omega) O O (K7 O O (yW ex h0k O O (J9 (ys:=[_,_,_,_,_]) O O O (yZ (cs:=[_,_,_,_,_]) O O (yS (cs':=[_,_,_,_,_]) O O O O O ?_)))))))));refine yQ (A5 (B4 (D8 O (D7 O O O (D8 O (D7 O O O (K6 O O (yQ (B6 ?_)))))))));rw[t0];rw[t1];refine B9 O (A7 (A5 (B4 (D8 O (D7 O O O (D8 O (D7 O O O (K6 O O (yQ ?_)))))))));refine B6 ?_;rw[t2];refine B9 O (A7 (B4 (D8 O (D7 O O O (D8 O (D7 O O O (yB O O O O (yQ (B6 ?_)))))))));rw[u3];refine E0 O ?_;refine BS (id:=18) [_,_,_,_,_,_,_,_,_] _ O Tryz.mixed (by kernel_rfl) (by kernel_rfl) ?_;refine Ft O (D8 O (D7 O O O (D8 O (D7 O O O (yC (c3) O O (D8 O (D7 O O O (yC (c4) O O (yQ ?_)))))))));refine AW (U6 _ (5,m0,G8 m1,G8 x1) (by first|omega|(simp;omega))) rfl rfl ⟨rfl,C8⟩ ⟨rfl,C8⟩ ?_ (hfit:=by kernel_rfl);refine yQ (B3 (yB O O O O (B1 O (yQ (B6 ?_)))))
      refine⟨i+1,by omega,by omega,rfl,⟨D2,D2,D2,D2,D2,D2,D2,D2,L6 hw,C8⟩,⟨⟨_,rfl,D2,D2,D2,C8⟩,⟨_,rfl,D2,D2,D2,C8⟩,⟨_,rfl,.of_eq (by rw[<-hnx2,e]<;>rfl),C8⟩,C8⟩,⟨(by rw[<-hnx2,e]<;>rfl),C8⟩,rfl⟩
    . have u3:(m1 != x1)=false:=by rw[bne,t3];rfl
      have e:nx=zs:=by rw[hn];simp[Kd,t1,t2,t3]
      refine A7 (A5 (A9 (B4 (B1 O (yW em (by omega) O O (J9 (ys:=[_,_,_,_,_]) O O O (yZ (cs:=[_,_,_,_,_]) O O (C9 O (yS (cs':=[_,_,_,_,_]) O O O O O ?_)))))))));refine yQ (A5 (B4 (B1 O (B1 O (yW ep (by omega) O O (K7 O O (yB O O O O (yQ (B9 O ?_)))))))));refine A7 (A5 ?_);refine G1 Tryz.mixed (by kernel_rfl) ?_;refine D8 O (D7 O O O (B1 O (B1 O (yW ep (by omega) O O (K7 O O (yW ex h0k O O (J9 (ys:=[_,_,_,_,_]) O O O (yZ (cs:=[_,_,_,_,_]) O O (yS (cs':=[_,_,_,_,_]) O O O O O ?_)))))))));refine yQ (A5 (B4 (D8 O (D7 O O O (D8 O (D7 O O O (K6 O O (yQ (B6 ?_)))))))));rw[t0];rw[t1];refine B9 O (A7 (A5 (B4 (D8 O (D7 O O O (D8 O (D7 O O O (K6 O O (yQ ?_)))))))));refine B6 ?_;rw[t2];refine B9 O (A7 (B4 (D8 O (D7 O O O (D8 O (D7 O O O (yB O O O O (yQ (B6 ?_)))))))));rw[u3];refine B9 O (A7 (B3 (yB O O O O (B1 O (yQ (B6 ?_))))))
      refine⟨i+1,by omega,by omega,rfl,⟨D2,D2,D2,D2,D2,D2,D2,D2,L6 hw,C8⟩,⟨⟨_,rfl,D2,D2,D2,C8⟩,⟨_,rfl,D2,D2,D2,C8⟩,⟨_,rfl,.of_eq (by rw[<-hnx2,e]<;>rfl),C8⟩,C8⟩,⟨(by rw[<-hnx2,e]<;>rfl),C8⟩,rfl⟩
 simp at h
 have hA:=hend (by omega)
 rw[hA]at hr
 clear hA hend hnx
 refine F6 (A5 (B4 (D8 O (D7 O O O (yN O (B1 O (yQ (A9 ?_))))))));refine G6 (fun k:Nat=>⟨168,[(4,.bx 4 0),(9,.bx 9 0),(10,.fb 44 9 0),(12,.d (.sl 1 (tk.map IK))),(106,.d (.sl 5 (ts.map dM))),(107,.d (dI ts.length)),(108,.d (dI k))],[(4,[.d (dI d2),.d (.sl 2 (hs2.map dH)),.d (.sl 5 (ts.map dM))]),(9,[.ts bkT 4 ((zs++GU ts (P6 tk) k).map AK)])],[(bkT,((zs++GU ts (P6 tk) k).map AK).length)]⟩) (fun k=>k<=ts.length) (fun k=>ts.length-k) 0 (D4 _)
  ⟨rfl,⟨D2,D2,D2,D2,D2,Cs (by simp),D2,C8⟩,⟨⟨_,rfl,D2,D2,D2,C8⟩,⟨_,rfl,.of_eq (by simp[GU]),C8⟩,C8⟩,⟨(by simp[GU];rfl),C8⟩,rfl⟩ ?_
 intro k hk
 have hnx:∀ x,ts[k]? = some x->GU ts (P6 tk) (k+1)=if P6 tk k then GU ts (P6 tk) k else GU ts (P6 tk) k++[(Gx (Kb (P6 tk) ts x ts.length),x.1,[],x.2.2.2.1)]:=fun x hx=>by rw[GU,hx];rfl
 have hlb:=JD ts (P6 tk) k
 obtain⟨nx,hnx2⟩:=H1 (GU ts (P6 tk) (k+1))
 have hend:k=ts.length->r=zs++GU ts (P6 tk) k:=fun e=>by rw[hr,e]
 obtain⟨ys,hys⟩:=H1 (GU ts (P6 tk) k)
 simp only[<-hys,<-hnx2]at hnx hlb hend
 rw[<-hys]
 refine B4 (yB O O O O (yQ (A5 ?_)));refine H7 O (fun h=>?_) (fun h=>?_)
 . simp at h
   obtain⟨⟨x0,x1,x2,x3,x4⟩,hx⟩:∃ a,ts[k]? = some a:=⟨_,A4 h⟩
   have ex:=ix dM ts k k (x0,x1,x2,x3,x4) rfl hx
   have hw:=H2 ((k:Int)+1) (by omega)
   have hn:=hnx _ hx
   have et:=Hj (tk:=tk) (k:=k) (by omega)
   obtain⟨b,hb⟩:=H1 (P6 tk k)
   rw[<-hb]at et hn
   cases b with
   | true=>
    have e:nx=ys:=hn
    refine A7 (A5 (A9 (B4 (B1 O (yW ex (by omega) O O (J9 (ys:=[_,_,_,_,_]) O O O (yZ (cs:=[_,_,_,_,_]) O O (C9 O (yS (cs':=[_,_,_,_,_]) O O O O O ?_)))))))));refine yQ (A5 (B4 (B1 O (B1 O (yW et (by omega) O O (K7 O O (yQ (E0 O (F6 ?_)))))))));refine B3 (yB O O O O (B1 O (yQ (B6 ?_))))
    refine⟨k+1,by omega,by omega,rfl,⟨D2,D2,D2,D2,D2,D2,L6 hw,C8⟩,⟨⟨_,rfl,D2,D2,D2,C8⟩,⟨_,rfl,.of_eq (by rw[<-hnx2,e]<;>rfl),C8⟩,C8⟩,⟨(by rw[<-hnx2,e]<;>rfl),C8⟩,rfl⟩
   | false=>
    have e:nx=ys++[(Gx (Kb (P6 tk) ts (x0,x1,x2,x3,x4) ts.length),x0,[],x3)]:=hn
    refine A7 (A5 (A9 (B4 (B1 O (yW ex (by omega) O O (J9 (ys:=[_,_,_,_,_]) O O O (yZ (cs:=[_,_,_,_,_]) O O (C9 O (yS (cs':=[_,_,_,_,_]) O O O O O ?_)))))))));refine yQ (A5 (B4 (B1 O (B1 O (yW et (by omega) O O (K7 O O (yQ (B9 O (A7 ?_)))))))));refine B4 (C9 O (yQ (A5 (B4 (D8 O (D7 O O O (yN O (B1 O (yQ ?_)))))))));refine A9 ?_;refine G6 (fun n:Nat=>⟨168,[(4,.bx 4 0),(9,.bx 9 0),(10,.fb 44 9 0),(12,.d (.sl 1 (tk.map IK))),(17,.bx 17 0),(18,.d (dI (Gx (Kb (P6 tk) ts (x0,x1,x2,x3,x4) n)))),(106,.d (.sl 5 (ts.map dM))),(107,.d (dI ts.length)),(108,.d (dI k)),(118,.d (.sl 5 (ts.map dM))),(119,.d (dI ts.length)),(120,.d (dI n))],[(4,[.d (dI d2),.d (.sl 2 (hs2.map dH)),.d (.sl 5 (ts.map dM))]),(9,[.ts bkT 4 ((zs++ys).map AK)]),(17,[.d (dS x0),.d (dI x1),.d (dS x2),.d (dS x3),.d (dS x4)])],[(bkT,((zs++ys).map AK).length)]⟩) (fun n=>n<=ts.length) (fun n=>ts.length-n) 0 (D4 _)
     ⟨rfl,⟨D2,D2,D2,D2,D2,D2,D2,D2,D2,D2,Cs (by simp),D2,C8⟩,⟨⟨_,rfl,D2,D2,D2,C8⟩,⟨_,rfl,D2,C8⟩,⟨_,rfl,D2,D2,D2,D2,D2,C8⟩,C8⟩,⟨rfl,C8⟩,rfl⟩ ?_
    intro n hn1
    have hd:∀ y,ts[n]? = some y->Kb (P6 tk) ts (x0,x1,x2,x3,x4) (n+1)=(Kb (P6 tk) ts (x0,x1,x2,x3,x4) n||(P6 tk n&&(y.1==x0&&(y.2.2.1==x2&&(y.2.2.2.1==x3&&y.2.2.2.2==x4))))):=fun y hy=>by rw[Kb,hy]
    obtain⟨q2,hq2⟩:=H1 (Kb (P6 tk) ts (x0,x1,x2,x3,x4) (n+1))
    have hen:n=ts.length->Kb (P6 tk) ts (x0,x1,x2,x3,x4) ts.length=Kb (P6 tk) ts (x0,x1,x2,x3,x4) n:=fun e=>by rw[e]
    obtain⟨q,hq⟩:=H1 (Kb (P6 tk) ts (x0,x1,x2,x3,x4) n)
    simp only[<-hq,<-hq2]at hd hen
    rw[<-hq]
    refine B4 (yB O O O O (yQ (A5 ?_)));refine H7 O (fun h2=>?_) (fun h2=>?_)
    . simp at h2
      obtain⟨⟨y0,y1,y2,y3,y4⟩,hy⟩:∃ a,ts[n]? = some a:=⟨_,A4 h2⟩
      have ey:=ix dM ts n n (y0,y1,y2,y3,y4) rfl hy
      have hwn:=H2 ((n:Int)+1) (by omega)
      have hd:=hd _ hy
      have eb:=Hj (tk:=tk) (k:=n) (by omega)
      obtain⟨b,hb2⟩:=H1 (P6 tk n)
      rw[<-hb2]at eb hd
      cases b with
      | false=>
       have e:Gx q=Gx q2:=by rw[hd];simp
       refine A7 (A5 (A9 (B4 (B1 O (yW ey (by omega) O O (J9 (ys:=[_,_,_,_,_]) O O O (yZ (cs:=[_,_,_,_,_]) O O (C9 O (yS (cs':=[_,_,_,_,_]) O O O O O ?_)))))))));refine yQ (B4 (B1 O (B1 O (yW eb (by omega) O O (K7 O O (B1 O (yO O (yO O (yO O ?_)))))))));refine yO O (yO O (I6 O O (B1 O (yO O (yO O (yO O (yO O (yO O (I6 O O ?_)))))))));refine B1 O (yO O (yO O (yO O (yO O (yO O (I6 O O (B1 O (yO O (yO O ?_)))))))));refine yO O (yO O (yO O (I6 O O (yQ (B9 O (A7 (B3 (yB O O O O (B1 O ?_)))))))));refine yQ (B6 ?_)
       refine⟨n+1,by omega,by omega,rfl,⟨D2,D2,D2,D2,D2,.of_eq (H4 (fun n=>SV.d (dI n)) (by rw[<-hq2];exact e)),D2,D2,D2,D2,D2,L6 hwn,C8⟩,⟨⟨_,O,D2,D2,D2,C8⟩,⟨_,O,D2,C8⟩,⟨_,O,D2,D2,D2,D2,D2,C8⟩,C8⟩,⟨rfl,C8⟩,O⟩
      | true=>
      cases t1:(y0==x0) with
      | false=>
       have e:Gx q=Gx q2:=by rw[hd,t1];simp
       refine A7 (A5 (A9 (B4 (B1 O (yW ey (by omega) O O (J9 (ys:=[_,_,_,_,_]) O O O (yZ (cs:=[_,_,_,_,_]) O O (C9 O (yS (cs':=[_,_,_,_,_]) O O O O O ?_)))))))));refine yQ (B4 (B1 O (B1 O (yW eb (by omega) O O (K7 O O (B1 O (D8 O (D7 O O O (D8 O ?_)))))))));refine D7 O O O (L8 O O (J7 O O (B1 O ?_)));rw[t1];refine yO O (yO O (yO O (yO O (yO O (I6 O O (B1 O (yO O (yO O (yO O ?_)))))))));refine yO O (yO O (I6 O O (B1 O (yO O (yO O (yO O (yO O (yO O (I6 O O ?_)))))))));refine yQ (B9 O (A7 (B3 (yB O O O O (B1 O (yQ (B6 ?_)))))))
       refine⟨n+1,by omega,by omega,rfl,⟨D2,D2,D2,D2,D2,.of_eq (H4 (fun n=>SV.d (dI n)) (by rw[<-hq2];exact e)),D2,D2,D2,D2,D2,L6 hwn,C8⟩,⟨⟨_,O,D2,D2,D2,C8⟩,⟨_,O,D2,C8⟩,⟨_,O,D2,D2,D2,D2,D2,C8⟩,C8⟩,⟨rfl,C8⟩,O⟩
      | true=>
      cases t2:(y2==x2) with
      | false=>
       have e:Gx q=Gx q2:=by rw[hd,t1,t2];simp
       refine A7 (A5 (A9 (B4 (B1 O (yW ey (by omega) O O (J9 (ys:=[_,_,_,_,_]) O O O (yZ (cs:=[_,_,_,_,_]) O O (C9 O (yS (cs':=[_,_,_,_,_]) O O O O O ?_)))))))));refine yQ (B4 (B1 O (B1 O (yW eb (by omega) O O (K7 O O (B1 O (D8 O (D7 O O O (D8 O ?_)))))))));refine D7 O O O (L8 O O (J7 O O (B1 O ?_)));rw[t1];refine D8 O (D7 O O O (D8 O (D7 O O O (L8 O O (J7 O O (B1 O ?_))))));rw[t2];refine yO O (yO O (yO O (yO O (yO O (I6 O O (B1 O (yO O (yO O (yO O ?_)))))))));refine yO O (yO O (I6 O O (yQ (B9 O (A7 (B3 (yB O O O O (B1 O (yQ ?_)))))))));refine B6 ?_
       refine⟨n+1,by omega,by omega,rfl,⟨D2,D2,D2,D2,D2,.of_eq (H4 (fun n=>SV.d (dI n)) (by rw[<-hq2];exact e)),D2,D2,D2,D2,D2,L6 hwn,C8⟩,⟨⟨_,O,D2,D2,D2,C8⟩,⟨_,O,D2,C8⟩,⟨_,O,D2,D2,D2,D2,D2,C8⟩,C8⟩,⟨rfl,C8⟩,O⟩
      | true=>
      cases t3:(y3==x3) with
      | false=>
       have e:Gx q=Gx q2:=by rw[hd,t1,t2,t3];simp
       refine A7 (A5 (A9 (B4 (B1 O (yW ey (by omega) O O (J9 (ys:=[_,_,_,_,_]) O O O (yZ (cs:=[_,_,_,_,_]) O O (C9 O (yS (cs':=[_,_,_,_,_]) O O O O O ?_)))))))));refine yQ (B4 (B1 O (B1 O (yW eb (by omega) O O (K7 O O (B1 O (D8 O (D7 O O O (D8 O ?_)))))))));refine D7 O O O (L8 O O (J7 O O (B1 O ?_)));rw[t1];refine D8 O (D7 O O O (D8 O (D7 O O O (L8 O O (J7 O O (B1 O ?_))))));rw[t2];refine D8 O (D7 O O O (D8 O (D7 O O O (L8 O O (J7 O O (B1 O ?_))))));rw[t3];refine yO O (yO O (yO O (yO O (yO O (I6 O O (yQ (B9 O (A7 (B3 ?_)))))))));refine yB O O O O (B1 O (yQ (B6 ?_)))
       refine⟨n+1,by omega,by omega,rfl,⟨D2,D2,D2,D2,D2,.of_eq (H4 (fun n=>SV.d (dI n)) (by rw[<-hq2];exact e)),D2,D2,D2,D2,D2,L6 hwn,C8⟩,⟨⟨_,O,D2,D2,D2,C8⟩,⟨_,O,D2,C8⟩,⟨_,O,D2,D2,D2,D2,D2,C8⟩,C8⟩,⟨rfl,C8⟩,O⟩
      | true=>
      cases t4:(y4==x4) with
      | false=>
       have e:Gx q=Gx q2:=by rw[hd,t1,t2,t3,t4];simp
       refine A7 (A5 (A9 (B4 (B1 O (yW ey (by omega) O O (J9 (ys:=[_,_,_,_,_]) O O O (yZ (cs:=[_,_,_,_,_]) O O (C9 O (yS (cs':=[_,_,_,_,_]) O O O O O ?_)))))))));refine yQ (B4 (B1 O (B1 O (yW eb (by omega) O O (K7 O O (B1 O (D8 O (D7 O O O (D8 O ?_)))))))));refine D7 O O O (L8 O O (J7 O O (B1 O ?_)));rw[t1];refine D8 O (D7 O O O (D8 O (D7 O O O (L8 O O (J7 O O (B1 O ?_))))));rw[t2];refine D8 O (D7 O O O (D8 O (D7 O O O (L8 O O (J7 O O (B1 O ?_))))));rw[t3];refine D8 O (D7 O O O (D8 O (D7 O O O (L8 O O (J7 O O (yQ (B6 ?_)))))));rw[t4];refine B9 O (A7 (B3 (yB O O O O (B1 O (yQ (B6 ?_))))))
       refine⟨n+1,by omega,by omega,rfl,⟨D2,D2,D2,D2,D2,.of_eq (H4 (fun n=>SV.d (dI n)) (by rw[<-hq2];exact e)),D2,D2,D2,D2,D2,L6 hwn,C8⟩,⟨⟨_,O,D2,D2,D2,C8⟩,⟨_,O,D2,C8⟩,⟨_,O,D2,D2,D2,D2,D2,C8⟩,C8⟩,⟨rfl,C8⟩,O⟩
      | true=>
       have e:(6:Int)=Gx q2:=by rw[hd,t1,t2,t3,t4];simp[Gx]
       refine A7 (A5 (A9 (B4 (B1 O (yW ey (by omega) O O (J9 (ys:=[_,_,_,_,_]) O O O (yZ (cs:=[_,_,_,_,_]) O O (C9 O (yS (cs':=[_,_,_,_,_]) O O O O O ?_)))))))));refine yQ (B4 (B1 O (B1 O (yW eb (by omega) O O (K7 O O (B1 O (D8 O (D7 O O O (D8 O ?_)))))))));refine D7 O O O (L8 O O (J7 O O (B1 O ?_)));rw[t1];refine D8 O (D7 O O O (D8 O (D7 O O O (L8 O O (J7 O O (B1 O ?_))))));rw[t2];refine D8 O (D7 O O O (D8 O (D7 O O O (L8 O O (J7 O O (B1 O ?_))))));rw[t3];refine D8 O (D7 O O O (D8 O (D7 O O O (L8 O O (J7 O O (yQ (B6 ?_)))))));rw[t4];refine E0 O (B3 (C9 O (yQ (B3 (yB O O O O (B1 O (yQ (B6 ?_))))))))
       refine⟨n+1,by omega,by omega,rfl,⟨D2,D2,D2,D2,D2,.of_eq (H4 (fun n=>SV.d (dI n)) (by rw[<-hq2];exact e)),D2,D2,D2,D2,D2,L6 hwn,C8⟩,⟨⟨_,O,D2,D2,D2,C8⟩,⟨_,O,D2,C8⟩,⟨_,O,D2,D2,D2,D2,D2,C8⟩,C8⟩,⟨rfl,C8⟩,O⟩
    . simp at h2
      have hen:=hen (by omega)
      have e:zs++nx=(zs++ys)++[(Gx q,x0,[],x3)]:=by rw[e,hen,E8]
      refine F6 (B3 (Ft O (B1 O (D8 O (D7 O O O (D8 O (D7 O O O ?_)))))));refine AW (U6 _ (Gx q,x0,[],x3) (by first|omega|(simp;omega))) rfl rfl ⟨rfl,C8⟩ ⟨rfl,C8⟩ ?_ (hfit:=by kernel_rfl);refine yQ (B3 (yB O O O O (B1 O (yQ (B6 ?_)))))
      refine⟨k+1,by omega,by omega,rfl,⟨D2,D2,D2,D2,D2,D2,L6 hw,C8⟩,⟨⟨_,rfl,D2,D2,D2,C8⟩,⟨_,rfl,.of_eq (by rw[<-hnx2,e]<;>rfl),C8⟩,C8⟩,⟨(by rw[<-hnx2,e]<;>rfl),C8⟩,rfl⟩
 . simp at h
   rw[hend (by omega)]
   refine F6 (B4 (D8 O (yLt O O O (Fu O (C9 O (yQ (C4 ?_)))))))
   exact Cu O O O
instance:EqOf Tryz.prog 37 [.i .i64,.i .i64]:=IC (n:=2) (e:=3) (c:=.i .i64) (by kernel_rfl) (by kernel_rfl) (by kernel_rfl) (by kernel_rfl) (by kernel_rfl)
instance:EqOf Tryz.prog 41 [.i .i64,.s,.s,.s]:=Gr (by kernel_rfl) (by kernel_rfl) (by kernel_rfl)
theorem CA {l r:List α} {x:α} (h:l.take i=r.take i) (hx:l[i]? = some x) (hy:r[i]? = some x):l.take (i+1)=r.take (i+1):=by
 rw[G7,G7,h,hx,hy]
theorem wEqP (l r:List (Int×Int)) (hl:l.length<=1000000) (hr:r.length<=1000000):PCalls Tryz.prog 18 [.sl 2 (l.map II),.sl 2 (r.map II)] (.d (dB (decide (l=r)))):=by
 refine L7 Tryz.func18 O Tryz.ntmps18 Tryz.results18 fun B w0=>?_
 by_cases hn:l.length=r.length
 rotate_left
 . have t1:(((l.map II).length:Int) != ((r.map II).length:Int))=true:=by simp;omega
   rw[C3 fun e=>hn (by rw[e])]
   refine B4 (C9 O (yQ (A5 (B4 (B1 O (yN O (B1 O (yN O (yB O O O O ?_)))))))));refine yQ (B6 ?_);rw[t1];refine E0 O (B4 (C9 O (yQ (C4 (A8 ?_)))))
   exact J2 O O
 have t1:(((l.map II).length:Int) != ((r.map II).length:Int))=false:=by simp;omega
 refine B4 (C9 O (yQ (A5 (B4 (B1 O (yN O (B1 O (yN O (yB O O O O ?_)))))))));refine yQ (B6 ?_);rw[t1];refine B9 O (A7 (A5 (B4 (B1 O (yN O (B1 O (yQ (A9 ?_))))))));refine G6 (fun i:Nat=>⟨26,[(0,.d (.sl 2 (l.map II))),(1,.d (.sl 2 (r.map II))),(12,.d (dI l.length)),(13,.d (dI i))],[],[]⟩) (fun i=>i<=l.length∧l.take i=r.take i) (fun i=>l.length-i) 0 ⟨D4 _,O⟩ ⟨rfl,⟨D2,D2,Cs (by simp),D2,C8⟩,C8,C8,O⟩ ?_
 rintro i ⟨hi,h0⟩
 refine B4 (yB O O O O (yQ (A5 ?_)));refine H7 O (fun h=>?_) (fun h=>?_)
 . simp at h
   obtain⟨⟨x0,x1⟩,hx⟩:∃ a,l[i]? = some a:=⟨_,A4 h⟩
   obtain⟨⟨y0,y1⟩,hy⟩:∃ a,r[i]? = some a:=⟨_,A4 (by omega)⟩
   have ex:=ix II l i i (x0,x1) rfl hx
   have ey:=ix II r i i (y0,y1) rfl hy
   have hw:=H2 ((i:Int)+1) (by omega)
   have hv:Bx [.int .i64 x0,.int .i64 x1] [.int .i64 y0,.int .i64 y1]=(x0==y0&&(x1==y1&&true)):=rfl
   by_cases e:(x0,x1)=(y0,y1)
   . cases e
     have t2:Bx [.int .i64 x0,.int .i64 x1] [.int .i64 x0,.int .i64 x1]=true:=by rw[hv];simp
     refine A7 (A5 (A9 (B4 (B1 O (C9 O (yQ (A5 ?_)))))));refine G1 Tryz.mixed (by kernel_rfl) ?_;refine B1 O (B1 O (yW ex (by omega) O O (J9 (ys:=[_,_]) O O O (B1 O (B1 O (yW ey (by omega) O O (J9 (ys:=[_,_]) O O O (yBx (vs:=[.int .i64 x0,.int .i64 x1]) (us:=[.int .i64 x0,.int .i64 x1]) O O O O O O (yQ ?_)))))))));refine B6 ?_;rw[t2];refine B9 O (A7 (B3 (yB O O O O (B1 O (yQ (B6 ?_))))))
     refine⟨i+1,⟨by omega,CA h0 hx hy⟩,by omega,rfl,⟨D2,D2,D2,L6 hw,C8⟩,C8,C8,rfl⟩
   . have t2:Bx [.int .i64 x0,.int .i64 x1] [.int .i64 y0,.int .i64 y1]=false:=by
      rw[hv]
      cases h1:(x0==y0) with
      | false=>rfl
      | true=>cases h2:(x1==y1) with
       | false=>rfl
       | true=>exact F9 (by rw[eq_of_beq h1,eq_of_beq h2]) e
     rw[C3 fun e2=>e (by subst e2;rw[hx]at hy;exact G4 hy)]
     refine A7 (A5 (A9 (B4 (B1 O (C9 O (yQ (A5 ?_)))))));refine G1 Tryz.mixed (by kernel_rfl) ?_;refine B1 O (B1 O (yW ex (by omega) O O (J9 (ys:=[_,_]) O O O (B1 O (B1 O (yW ey (by omega) O O (J9 (ys:=[_,_]) O O O (yBx (vs:=[.int .i64 x0,.int .i64 x1]) (us:=[.int .i64 y0,.int .i64 y1]) O O O O O O (yQ ?_)))))))));refine B6 ?_;rw[t2];refine E0 O (B4 (C9 O (yQ (C4 (C0 (A8 (A8 (C0 (A8 ?_)))))))))
     exact J2 O O
 . simp at h
   rw[D9 (by omega),D9 (by omega)]at h0
   rw[C5 h0]
   refine F6 (B4 (C9 O (yQ (C4 ?_))))
   exact J2 O O
abbrev vBk (x:Bk):List Value:=[.int .i64 x.1,vS x.2.1,vS x.2.2.1,vS x.2.2.2]
theorem veq_bk (x y:Bk):Bx (vBk x) (vBk y)=decide (x=y):=by
 obtain⟨x0,x1,x2,x3⟩:=x
 obtain⟨y0,y1,y2,y3⟩:=y
 show(veq (.int .i64 x0) (.int .i64 y0)&&(veq (vS x1) (vS y1)&&(veq (vS x2) (vS y2)&&(veq (vS x3) (vS y3)&&true))))=_
 rw[Eu,Eu,Eu,veq_int,Bool.eq_iff_iff]
 simp
theorem wEqB (l r:List Bk) (hl:l.length<=1000000) (hr:r.length<=1000000):PCalls Tryz.prog 19 [.sl 4 (l.map AK),.sl 4 (r.map AK)] (.d (dB (decide (l=r)))):=by
 refine L7 Tryz.func19 O Tryz.ntmps19 Tryz.results19 fun B w0=>?_
 by_cases hn:l.length=r.length
 rotate_left
 . have t1:(((l.map AK).length:Int) != ((r.map AK).length:Int))=true:=by simp;omega
   rw[C3 fun e=>hn (by rw[e])]
   refine B4 (C9 O (yQ (A5 (B4 (B1 O (yN O (B1 O (yN O (yB O O O O ?_)))))))));refine yQ (B6 ?_);rw[t1];refine E0 O (B4 (C9 O (yQ (C4 (A8 ?_)))))
   exact J2 O O
 have t1:(((l.map AK).length:Int) != ((r.map AK).length:Int))=false:=by simp;omega
 refine B4 (C9 O (yQ (A5 (B4 (B1 O (yN O (B1 O (yN O (yB O O O O ?_)))))))));refine yQ (B6 ?_);rw[t1];refine B9 O (A7 (A5 (B4 (B1 O (yN O (B1 O (yQ (A9 ?_))))))));refine G6 (fun i:Nat=>⟨26,[(0,.d (.sl 4 (l.map AK))),(1,.d (.sl 4 (r.map AK))),(12,.d (dI l.length)),(13,.d (dI i))],[],[]⟩) (fun i=>i<=l.length∧l.take i=r.take i) (fun i=>l.length-i) 0 ⟨D4 _,O⟩ ⟨rfl,⟨D2,D2,Cs (by simp),D2,C8⟩,C8,C8,O⟩ ?_
 rintro i ⟨hi,h0⟩
 refine B4 (yB O O O O (yQ (A5 ?_)));refine H7 O (fun h=>?_) (fun h=>?_)
 . simp at h
   obtain⟨x,hx⟩:=Fr h
   obtain⟨y,hy⟩:∃ a,r[i]? = some a:=⟨_,A4 (by omega)⟩
   have ex:=ix AK l i i x rfl hx
   have ey:=ix AK r i i y rfl hy
   have hw:=H2 ((i:Int)+1) (by omega)
   have hv:=veq_bk x y
   by_cases e:x=y
   . rw[C5 e]at hv
     refine A7 (A5 (A9 (B4 (B1 O (C9 O (yQ (A5 ?_)))))));refine G1 Tryz.mixed (by kernel_rfl) ?_;refine B1 O (B1 O (yW ex (by omega) O O (J9 (ys:=[_,_,_,_]) O O O (B1 O (B1 O (yW ey (by omega) O O (J9 (ys:=[_,_,_,_]) O O O (yBx (vs:=vBk x) (us:=vBk y) O O O O O O (yQ ?_)))))))));refine B6 ?_;rw[hv];refine B9 O (A7 (B3 (yB O O O O (B1 O (yQ (B6 ?_))))))
     refine⟨i+1,⟨by omega,CA h0 hx (e ▸ hy)⟩,by omega,rfl,⟨D2,D2,D2,L6 hw,C8⟩,C8,C8,rfl⟩
   . rw[C3 e]at hv
     rw[C3 fun e2=>e (by subst e2;rw[hx]at hy;exact G4 hy)]
     refine A7 (A5 (A9 (B4 (B1 O (C9 O (yQ (A5 ?_)))))));refine G1 Tryz.mixed (by kernel_rfl) ?_;refine B1 O (B1 O (yW ex (by omega) O O (J9 (ys:=[_,_,_,_]) O O O (B1 O (B1 O (yW ey (by omega) O O (J9 (ys:=[_,_,_,_]) O O O (yBx (vs:=vBk x) (us:=vBk y) O O O O O O (yQ ?_)))))))));refine B6 ?_;rw[hv];refine E0 O (B4 (C9 O (yQ (C4 (C0 (A8 (A8 (C0 (A8 ?_)))))))))
     exact J2 O O
 . simp at h
   rw[D9 (by omega),D9 (by omega)]at h0
   rw[C5 h0]
   refine F6 (B4 (C9 O (yQ (C4 ?_))))
   exact J2 O O
def tot {α:Type} (css:List (List α)) (k:Nat):Nat:=((css.take k).flatten).length
theorem BM {css:List (List α)} {k:Nat} {c:List α} (h:css[k]? = some c):tot css (k+1)=tot css k+c.length:=by
 unfold tot
 rw[G7,h]
 simp
theorem Ey (css:List (List α)) (k:Nat):tot css k<=css.flatten.length:=by
 unfold tot
 have:css.flatten=(css.take k).flatten++(css.drop k).flatten:=by rw[<-List.flatten_append,List.take_append_drop]
 rw[this,D1]
 omega
theorem wGrowH (n:Nat) (hn:n<=1000000):Ia Tryz.prog 80 [.val (.slice none 0 0),dI n] 55 2 []:=by
 have t1:decide ((n:Int)<0)=false:=C3 (by omega)
 have hw:IntKind.i64.wrap ((n:Int)-IntKind.i64.wrap (0-0))=n:=by rw[show IntKind.i64.wrap (0-0)=0 by decide,Int.sub_zero];exact H2 _ (by omega)
 rcases F7 n with rfl|h0
 . refine JA ?_
   refine L7 Tryz.func80 O Tryz.ntmps80 Tryz.results80 fun B w0=>?_
   refine B4 (C9 O (yQ (A5 (B4 (B1 O (yB O O O O (yQ (B9 O (A7 ?_)))))))));refine A5 (B4 (B1 O (B1 O (yNc O (B1 O (yNl O (yB O O O O (yB O O O O (C9 O ?_)))))))));refine yQ (B4 (B1 O (yB O O O O (yQ (B9 O (A7 (B4 (B1 O (C9 O ?_)))))))));refine yQ (C4 ?_)
   exact J2 O O
 . have t2:decide ((n:Int) > 0)=true:=C5 (by omega)
   refine BC (t:=55*100000+4) Tryz.func80 O Tryz.ntmps80 Tryz.results80 (by simp) O fun B w0=>?_
   refine B4 (C9 O (yQ (A5 (B4 (B1 O (yB O O O O (yQ (B9 O (A7 ?_)))))))));refine A5 (B4 (B1 O (B1 O (yNc O (B1 O (yNl O (yB O O O O (yB O O O O (C9 O ?_)))))))));refine yQ (B4 (B1 O (yB O O O O (yQ (B6 ?_)))));rw[t1];rw[hw];rw[t2];refine E0 O (B3 (B1 O (B1 O (yNc O (ySz O O (B1 O (yAz (by omega) Tryz.underlying3 O O h0 (by omega) (by omega) O (B1 O (yNl O ?_)))))))));refine yDb (by omega) (by omega) O O (En O (yQ ?_));refine LW 0 22 (55*100000+4) 2 O O O O O ?_;refine B4 (Ib O (Fu O (yQ (C4 ?_))))
   exact LT O O
theorem Kt (css:List (List Hd)) (hl:css.length<=1000) (ht:(css.flatten).length<=1000000):PCalls Tryz.prog 48 [.sl 1 (css.map fun c=>[.sl 2 (c.map dH)])] (.d (.sl 2 (css.flatten.map dH))):=by
 refine L7 Tryz.func48 O Tryz.ntmps48 Tryz.results48 fun B w0=>?_
 refine B4 (C9 O (yQ (B4 (C9 O (yQ (A5 (B4 (B1 O (yN O ?_)))))))));refine B1 O (yQ (A9 ?_));refine G6 (fun k:Nat=>⟨36,[(0,.d (.sl 1 (css.map fun c=>[.sl 2 (c.map dH)]))),(9,.d (.sl 1 (css.map fun c=>[.sl 2 (c.map dH)]))),(10,.d (dI css.length)),(11,.d (dI k)),(3,.d (dI (tot css k)))],[],[]⟩) (fun k=>k<=css.length) (fun k=>css.length-k) 0 (D4 _) ⟨rfl,⟨D2,D2,.of_eq ?_,D2,D2,C8⟩,C8,C8,O⟩ ?_
 . exact H4 (fun n:Nat=>SV.d (dI n)) (by simp)
 intro k hk
 refine B4 (yB O O O O (yQ (A5 ?_)));refine H7 O (fun h=>?_) (fun h=>?_)
 . simp at h
   obtain⟨c,gk⟩:=Fr h
   have ek:=ix (fun c=>[.sl 2 (c.map dH)]) css k k c rfl gk
   have hts:=BM gk
   have htl:=Ey css (k+1)
   have hw1:=H2 ((k:Int)+1) (by omega)
   have hw2:IntKind.i64.wrap ((tot css k:Int)+((c.map dH).length:Int))=(tot css (k+1):Int):=by rw[D3,H2 _ (by omega)];omega
   have h0:decide ((tot css (k+1):Int)<0)=false:=C3 (by omega)
   refine A7 (A5 (A9 (B4 (yW ek (by omega) O O (K7 O O (C9 O (yQ (B4 (B1 O ?_)))))))));refine B1 O (yN O (yB O O O O (C9 O (yQ (B4 (B1 O (yB O O O O (yQ (B6 ?_)))))))));rw[hw2];refine B9 O (A7 (B3 (yB O O O O (B1 O (yQ (B6 ?_))))));rw[h0]
   refine⟨k+1,by omega,by omega,rfl,⟨D2,D2,D2,L6 hw1,D2,C8⟩,C8,C8,rfl⟩
 . simp at h
   obtain rfl:k=css.length:=by omega
   have ht2:tot css css.length=css.flatten.length:=by rw[tot,I4]
   have c1:=wGrowH (tot css css.length) (by omega)
   refine F6 (B4 (B1 O (yCo (t:=55*100000+6) c1 O O O O (Fu O (yQ (A5 (B4 (B1 O (yN O ?_)))))))));refine B1 O (yQ (A9 ?_));refine G6 (fun k:Nat=>⟨36,[(25,.d (.sl 1 (css.map fun c=>[.sl 2 (c.map dH)]))),(26,.d (dI css.length)),(27,.d (dI k)),(6,.ts (55*100000+6) 2 (((css.take k).flatten).map dH))],[],[(55*100000+6,(((css.take k).flatten).map dH).length)]⟩) (fun k=>k<=css.length) (fun k=>css.length-k) 0 (D4 _) ⟨rfl,⟨D2,.of_eq ?_,D2,D2,C8⟩,C8,⟨rfl,C8⟩,O⟩ ?_
   . exact H4 (fun n:Nat=>SV.d (dI n)) (by simp)
   intro k hk
   refine B4 (yB O O O O (yQ (A5 ?_)));refine H7 O (fun h=>?_) (fun h=>?_)
   . simp at h
     obtain⟨c,gk⟩:=Fr h
     have ek:=ix (fun c=>[.sl 2 (c.map dH)]) css k k c rfl gk
     have hts:=BM gk
     have htl:=Ey css (k+1)
     have hw1:=H2 ((k:Int)+1) (by omega)
     have hfl:(css.take (k+1)).flatten=(css.take k).flatten++c:=by rw[G7,gk];simp
     have hln:((css.take k).flatten).length=tot css k:=rfl
     obtain⟨zs,hz⟩:=H1 ((css.take k).flatten)
     rw[<-hz]at hfl hln ⊢
     refine A7 (A5 (A9 (B4 (yW ek (by omega) O O (K7 O O (C9 O (yQ (B3 (Ib O ?_)))))))));refine B1 O ?_;refine yT (es':=(zs++c).map dH) (m:=((zs++c).map dH).length) (by simp;omega) (by simp;omega) O O O O O (by simp) (by simp) ?_;refine Fu O (yQ (B3 (yB O O O O (B1 O (yQ (B6 ?_))))))
     refine⟨k+1,by omega,by omega,rfl,⟨D2,D2,L6 hw1,.of_eq ?_,C8⟩,C8,⟨?_,C8⟩,rfl⟩
     . rw[hfl];rfl
     . rw[hfl];rfl
   . simp at h
     obtain rfl:k=css.length:=by omega
     rw[I4]
     refine F6 (B4 (Ib O (Fu O (yQ (C4 ?_)))))
     exact J2 O O
theorem wGrowB (n:Nat) (hn:n<=1000000):Ia Tryz.prog 52 [.val (.slice none 0 0),dI n] 41 4 []:=by
 have t1:decide ((n:Int)<0)=false:=C3 (by omega)
 have hw:IntKind.i64.wrap ((n:Int)-IntKind.i64.wrap (0-0))=n:=by rw[show IntKind.i64.wrap (0-0)=0 by decide,Int.sub_zero];exact H2 _ (by omega)
 rcases F7 n with rfl|h0
 . refine JA ?_
   refine L7 Tryz.func52 O Tryz.ntmps52 Tryz.results52 fun B w0=>?_
   refine B4 (C9 O (yQ (A5 (B4 (B1 O (yB O O O O (yQ (B9 O (A7 ?_)))))))));refine A5 (B4 (B1 O (B1 O (yNc O (B1 O (yNl O (yB O O O O (yB O O O O (C9 O ?_)))))))));refine yQ (B4 (B1 O (yB O O O O (yQ (B9 O (A7 (B4 (B1 O (C9 O ?_)))))))));refine yQ (C4 ?_)
   exact J2 O O
 . have t2:decide ((n:Int) > 0)=true:=C5 (by omega)
   refine BC (t:=41*100000+4) Tryz.func52 O Tryz.ntmps52 Tryz.results52 (by simp) O fun B w0=>?_
   refine B4 (C9 O (yQ (A5 (B4 (B1 O (yB O O O O (yQ (B9 O (A7 ?_)))))))));refine A5 (B4 (B1 O (B1 O (yNc O (B1 O (yNl O (yB O O O O (yB O O O O (C9 O ?_)))))))));refine yQ (B4 (B1 O (yB O O O O (yQ (B6 ?_)))));rw[t1];rw[hw];rw[t2];refine E0 O (B3 (B1 O (B1 O (yNc O (ySz O O (B1 O (yAz (by omega) Tryz.underlying3 O O h0 (by omega) (by omega) O (B1 O (yNl O ?_)))))))));refine yDb (by omega) (by omega) O O (En O (yQ ?_));refine LW 0 22 (41*100000+4) 4 O O O O O ?_;refine B4 (Ib O (Fu O (yQ (C4 ?_))))
   exact LT O O
theorem Ku (css:List (List Bk)) (hl:css.length<=1000) (ht:(css.flatten).length<=1000000):PCalls Tryz.prog 24 [.sl 1 (css.map fun c=>[.sl 4 (c.map AK)])] (.d (.sl 4 (css.flatten.map AK))):=by
 refine L7 Tryz.func24 O Tryz.ntmps24 Tryz.results24 fun B w0=>?_
 refine B4 (C9 O (yQ (B4 (C9 O (yQ (A5 (B4 (B1 O (yN O ?_)))))))));refine B1 O (yQ (A9 ?_));refine G6 (fun k:Nat=>⟨36,[(0,.d (.sl 1 (css.map fun c=>[.sl 4 (c.map AK)]))),(9,.d (.sl 1 (css.map fun c=>[.sl 4 (c.map AK)]))),(10,.d (dI css.length)),(11,.d (dI k)),(3,.d (dI (tot css k)))],[],[]⟩) (fun k=>k<=css.length) (fun k=>css.length-k) 0 (D4 _) ⟨rfl,⟨D2,D2,.of_eq ?_,D2,D2,C8⟩,C8,C8,O⟩ ?_
 . exact H4 (fun n:Nat=>SV.d (dI n)) (by simp)
 intro k hk
 refine B4 (yB O O O O (yQ (A5 ?_)));refine H7 O (fun h=>?_) (fun h=>?_)
 . simp at h
   obtain⟨c,gk⟩:=Fr h
   have ek:=ix (fun c=>[.sl 4 (c.map AK)]) css k k c rfl gk
   have hts:=BM gk
   have htl:=Ey css (k+1)
   have hw1:=H2 ((k:Int)+1) (by omega)
   have hw2:IntKind.i64.wrap ((tot css k:Int)+((c.map AK).length:Int))=(tot css (k+1):Int):=by rw[D3,H2 _ (by omega)];omega
   have h0:decide ((tot css (k+1):Int)<0)=false:=C3 (by omega)
   refine A7 (A5 (A9 (B4 (yW ek (by omega) O O (K7 O O (C9 O (yQ (B4 (B1 O ?_)))))))));refine B1 O (yN O (yB O O O O (C9 O (yQ (B4 (B1 O (yB O O O O (yQ (B6 ?_)))))))));rw[hw2];refine B9 O (A7 (B3 (yB O O O O (B1 O (yQ (B6 ?_))))));rw[h0]
   refine⟨k+1,by omega,by omega,rfl,⟨D2,D2,D2,L6 hw1,D2,C8⟩,C8,C8,rfl⟩
 . simp at h
   obtain rfl:k=css.length:=by omega
   have ht2:tot css css.length=css.flatten.length:=by rw[tot,I4]
   have c1:=wGrowB (tot css css.length) (by omega)
   refine F6 (B4 (B1 O (yCo (t:=41*100000+6) c1 O O O O (Fu O (yQ (A5 (B4 (B1 O (yN O ?_)))))))));refine B1 O (yQ (A9 ?_));refine G6 (fun k:Nat=>⟨36,[(25,.d (.sl 1 (css.map fun c=>[.sl 4 (c.map AK)]))),(26,.d (dI css.length)),(27,.d (dI k)),(6,.ts (41*100000+6) 4 (((css.take k).flatten).map AK))],[],[(41*100000+6,(((css.take k).flatten).map AK).length)]⟩) (fun k=>k<=css.length) (fun k=>css.length-k) 0 (D4 _) ⟨rfl,⟨D2,.of_eq ?_,D2,D2,C8⟩,C8,⟨rfl,C8⟩,O⟩ ?_
   . exact H4 (fun n:Nat=>SV.d (dI n)) (by simp)
   intro k hk
   refine B4 (yB O O O O (yQ (A5 ?_)));refine H7 O (fun h=>?_) (fun h=>?_)
   . simp at h
     obtain⟨c,gk⟩:=Fr h
     have ek:=ix (fun c=>[.sl 4 (c.map AK)]) css k k c rfl gk
     have hts:=BM gk
     have htl:=Ey css (k+1)
     have hw1:=H2 ((k:Int)+1) (by omega)
     have hfl:(css.take (k+1)).flatten=(css.take k).flatten++c:=by rw[G7,gk];simp
     have hln:((css.take k).flatten).length=tot css k:=rfl
     obtain⟨zs,hz⟩:=H1 ((css.take k).flatten)
     rw[<-hz]at hfl hln ⊢
     refine A7 (A5 (A9 (B4 (yW ek (by omega) O O (K7 O O (C9 O (yQ (B3 (Ib O ?_)))))))));refine B1 O ?_;refine yT (es':=(zs++c).map AK) (m:=((zs++c).map AK).length) (by simp;omega) (by simp;omega) O O O O O (by simp) (by simp) ?_;refine Fu O (yQ (B3 (yB O O O O (B1 O (yQ (B6 ?_))))))
     refine⟨k+1,by omega,by omega,rfl,⟨D2,D2,L6 hw1,.of_eq ?_,C8⟩,C8,⟨?_,C8⟩,rfl⟩
     . rw[hfl];rfl
     . rw[hfl];rfl
   . simp at h
     obtain rfl:k=css.length:=by omega
     rw[I4]
     refine F6 (B4 (Ib O (Fu O (yQ (C4 ?_)))))
     exact J2 O O
open Go.RowKit Px Go.Sort Go.Lib
variable {i:Nat}
theorem MH {h1 h2:List Hd} {l:List F4} {n:F4} (h:l[i]? = some n):Fa h1 h2 l (i+1)=Fa h1 h2 l i++JO n (hld n h1) (hld n h2):=by rw[Fa,h]
def Dg (s t:Stm):List Bk:=if BH s t 0=0 then Dh s.hs t.hs else []
abbrev nv (l:List F4):List SV:=(l.map encStr).map fun u=>SV.d (.val u)
theorem Ki:PCalls Tryz.prog 49 [.val (.slice none 0 0)] (.tup []):=fun F w vals hl hr hg=>by
 obtain rfl:vals=[.slice none 0 0]:=BL (us:=[.slice none 0 0]) hl hr
 exact(AnyG.slices_Sort_string_none Tryz.sortStr none 0 w).mono fun e w' ⟨h1,h2⟩=>⟨.tuple #[],h1,⟨[],O,O,fun i y x hy=>by simp at hy⟩,by rw[h2];exact Below.refl _ _⟩
theorem Kw:PCalls Tryz.prog 50 [.val (.slice none 0 0)] (.d (.val (.slice none 0 0))):=by
 refine L7 Tryz.func50 O Tryz.ntmps50 Tryz.results50 fun B w0=>?_
 refine B4 (C9 O (yQ (A5 (B4 (B1 O (yNl O (yB O O O O (yQ (E0 O ?_)))))))));refine B4 (B1 O (C9 O (yQ (C4 (A8 ?_)))))
 exact J2 O O
theorem toDs_nv (l:List F4):P5 (nv l)=some (l.map fun a=>DV.val (encStr a)):=by
 induction l with
 | nil=>rfl
 | cons x l ih=>
  show P5 (SV.d (.val (encStr x))::nv l)=_
  simp only[P5,toD,ih,List.map_cons]
def rowS:Nat->SV
 | 0=>.d (.val (.slice none 0 0))
 | n+1=>.bs 39 (n+1) 9 1
def rowB (l:List F4):Nat->List (Nat×List SV)
 | 0=>[]
 | n+1=>[(39,nv (l.take (n+1)))]
abbrev KW:Nat:=41*100000+10
theorem Bw (s t:Stm) (hs:fitS s) (ht:fitS t):PCalls Tryz.prog 22 [.agg (DF s),.agg (DF t)] (.tup [.sl 4 ((Dg s t).map AK),dI (BH s t 0)]):=by
 have c1:=wChk s t 0 hs ht
 obtain⟨ck,hck⟩:=H1 (BH s t 0)
 have hp:Dg s t=if ck=0 then Dh s.hs t.hs else []:=by rw[Dg,hck]
 rw[<-hck]at c1 ⊢
 rw[hp]
 by_cases h0:ck=0
 rotate_left
 . have t1:(ck != 0)=true:=by simpa using h0
   rw[B8 h0]
   obtain⟨d1,hs1,ms⟩:=s
   obtain⟨d2,hs2,ts⟩:=t
   refine L7 Tryz.func22 O Tryz.ntmps22 Tryz.results22 fun B w0=>?_
   refine B4 (yK (cs:=[_,_,_]) O O (yK (cs:=[_,_,_]) O O (C9 O (C9 O (yQ (A5 (B4 (J8 (ys:=[_,_,_]) O O O O (J8 (ys:=[_,_,_]) O O O O ?_)))))))));refine yC (c1) O O (C9 O (yQ (B4 (B1 O (yB O O O O (yQ (B6 ?_)))))));rw[t1];refine E0 O (B4 (B1 O (C9 O (C9 O (yQ (C4 (A8 ?_)))))))
   exact K9 _ (.tnil 4 O (.tmp O .nil)) O
 rw[C2 h0]
 subst h0
 have hsl:=hs.hl
 have htl:=ht.hl
 have c2:=Kt [s.hs,t.hs] (by simp) (by simp;omega)
 have hc3:=wHeld s (by omega)
 have hc4:=wHeld t (by omega)
 have hnl:=JC s.hs t.hs
 have hnms:nms s.hs t.hs=compact (Ba ((s.hs++t.hs).map (·.1))):=(CS _).symm
 unfold Dh
 obtain⟨d1,h1,ms⟩:=s
 obtain⟨d2,h2,ts⟩:=t
 simp only[List.map_cons,List.map_nil,List.flatten_cons,List.flatten_nil,List.append_nil]at c2 hc3 hc4 hsl htl hnl hnms ⊢
 obtain⟨al,hal⟩:=H1 (h1++h2)
 have hall:al.length<=128:=by rw[hal,D1];omega
 obtain⟨l,hl⟩:=H1 (nms h1 h2)
 rw[<-hal]at c2 hnms
 rw[<-hl]at hnl hnms ⊢
 obtain⟨r,hr⟩:=H1 (Fa h1 h2 l l.length)
 rw[<-hr]
 refine L7 Tryz.func22 O Tryz.ntmps22 Tryz.results22 fun B w0=>?_
 cases al with
 | nil=>
  have hl0:l=[]:=by rw[hnms,CS];rfl
  subst hl0
  have hr0:r=[]:=hr
  subst hr0
  refine B4 (yK (cs:=[_,_,_]) O O (yK (cs:=[_,_,_]) O O (C9 O (C9 O (yQ (A5 (B4 (J8 (ys:=[_,_,_]) O O O O (J8 (ys:=[_,_,_]) O O O O ?_)))))))));refine yC (c1) O O (C9 O (yQ (B4 (B1 O (yB O O O O (yQ (B9 O (A7 (B4 ?_)))))))));refine C9 O (yQ (A5 (B4 (D8 O (D7 O O O (D8 O (D7 O O O ?_)))))));refine yR (es:=[[_],[_]]) O O O O O ?_;refine yC (c2) O O (yN O (B1 O (yQ (A9 ?_))));refine G6 (fun i:Nat=>⟨89,[(7,.d (.val (.slice none 0 0))),(29,.d (.sl 2 [])),(30,.d (dI 0)),(31,.d (dI i))],[],[]⟩) (fun i=>i=0) (fun i=>i) 0 O ⟨rfl,⟨D2,D2,D2,D2,C8⟩,C8,C8,O⟩ ?_
  intro i hi
  subst hi
  refine B4 (yB O O O O (yQ (A5 (B9 O (F6 (B4 (B1 O (yC (Ki) O O (yQ ?_)))))))));refine B4 (yZ (cs:=[_]) O O (yQ ?_));refine BR 10 0 KW 4 O O O O ?_;refine B4 (yCmb O (yAg O (yQ (A5 (B4 (B1 O (yC (Kw) O O (yNl O (B1 O ?_)))))))));refine yQ (A9 ?_);refine G6 (fun i:Nat=>⟨89,[(10,.bx 10 0),(46,.d (dI 0)),(47,.d (dI i))],[(10,[.ts KW 4 []])],[(KW,0)]⟩) (fun i=>i=0) (fun i=>i) 0 O ⟨rfl,⟨D2,D2,D2,C8⟩,⟨⟨_,O,D2,C8⟩,C8⟩,⟨rfl,C8⟩,O⟩ ?_
  intro i hi
  subst hi
  refine B4 (yB O O O O (yQ (A5 (B9 O (F6 (B4 (D8 O (yLt O O O (Fu O ?_)))))))));refine C9 O (yQ (C4 ?_))
  exact Cu O O O
 | cons a0 al0=>
 obtain⟨al,hal2⟩:=H1 (a0::al0)
 have hpos:0<al.length:=by rw[hal2];simp
 rw[<-hal2]at c2 hnms hall
 clear hal hal2 a0 al0
 refine B4 (yK (cs:=[_,_,_]) O O (yK (cs:=[_,_,_]) O O (C9 O (C9 O (yQ (A5 (B4 (J8 (ys:=[_,_,_]) O O O O (J8 (ys:=[_,_,_]) O O O O ?_)))))))));refine yC (c1) O O (C9 O (yQ (B4 (B1 O (yB O O O O (yQ (B9 O (A7 (B4 ?_)))))))));refine C9 O (yQ (A5 (B4 (D8 O (D7 O O O (D8 O (D7 O O O ?_)))))));refine yR (es:=[[_],[_]]) O O O O O ?_;refine yC (c2) O O (yN O (B1 O (yQ (A9 ?_))));refine G6 (fun i:Nat=>⟨89,[(2,.bx 2 0),(3,.bx 3 0),(7,rowS i),(29,.d (.sl 2 (al.map dH))),(30,.d (dI al.length)),(31,.d (dI i))],(2,[.d (dI d1),.d (.sl 2 (h1.map dH)),.d (.sl 5 (ms.map dM))])::(3,[.d (dI d2),.d (.sl 2 (h2.map dH)),.d (.sl 5 (ts.map dM))])::rowB (al.map (·.1)) i,[]⟩) (fun i=>i<=al.length) (fun i=>al.length-i) 0 (D4 _)
  ⟨rfl,⟨D2,D2,D2,D2,Cs (by simp),D2,C8⟩,⟨⟨_,rfl,D2,D2,D2,C8⟩,⟨_,rfl,D2,D2,D2,C8⟩,C8⟩,C8,rfl⟩ ?_
 intro i hi
 cases i with
 | zero=>
  obtain⟨⟨x,y⟩,hx⟩:∃ a,al[0]? = some a:=⟨_,A4 hpos⟩
  have ei:=ix dH al 0 0 (x,y) rfl hx
  have ud:decide (((0:Nat):Int)<(al.length:Int))=true:=C5 (by omega)
  have htk:(al.map (·.1)).take 1=[x]:=by
   cases al with
   | nil=>simp at hx
   | cons a al=>simp at hx;simp[hx]
  refine B4 (yB O O O O (yQ (A5 ?_)));rw[ud];refine E0 O (A7 (A5 (A9 (B4 (yW ei (by omega) O O (J9 (ys:=[_,_]) O O O (yZ (cs:=[_,_]) O O (yS (cs':=[_,_]) O O O O O (yQ ?_)))))))));refine B3 (B1 O (D8 O (D7 O O O ?_)));refine yR (es:=[[_]]) O O O O O ?_;refine yTn (vs:=[encStr x]) (es:=[dC x]) (m:=1) (by omega) (by omega) (by omega) (by omega) O O O O O (En O (yQ (B3 (yB O O O O (B1 O (yQ (B6 ?_)))))))
  refine⟨1,by omega,by omega,rfl,⟨D2,D2,D2,D2,D2,D2,C8⟩,⟨⟨_,rfl,D2,D2,D2,C8⟩,⟨_,rfl,D2,D2,D2,C8⟩,⟨_,rfl,H3 (by rw[htk];rfl)⟩,C8⟩,C8,by simp[PS.closed,SV.ok,F8,Nat.beq,rowS,rowB,nv,-List.map_take,-List.map_set]⟩
 | succ i=>
 have hwi:=H2 ((i:Int)+1+1) (by omega)
 by_cases h:i+1<al.length
 . obtain⟨⟨x,y⟩,hx⟩:∃ a,al[i+1]? = some a:=⟨_,A4 h⟩
   have ei:=ix dH al (i+1:Nat) (i+1) (x,y) rfl hx
   have ud:decide (((i+1:Nat):Int)<(al.length:Int))=true:=C5 (by omega)
   have hw:=H2 (((i+1:Nat):Int)+1) (by omega)
   have htk:(al.map (·.1)).take (i+1+1)=(al.map (·.1)).take (i+1)++[x]:=by
    rw[G7,B5,hx];rfl
   have htl2:(((al.map (·.1)).take (i+1)).map encStr).length=i+1:=by simp;omega
   obtain⟨tk,htk2⟩:=H1 ((al.map (·.1)).take (i+1))
   rw[<-htk2]at htk htl2
   show PW _ _ _ _ _ ⟨89,[(2,.bx 2 0),(3,.bx 3 0),(7,.bs 39 (i+1) 9 1),(29,.d (.sl 2 (al.map dH))),(30,.d (dI al.length)),(31,.d (dI ((i+1:Nat):Int)))],(2,[.d (dI d1),.d (.sl 2 (h1.map dH)),.d (.sl 5 (ms.map dM))])::(3,[.d (dI d2),.d (.sl 2 (h2.map dH)),.d (.sl 5 (ts.map dM))])::[(39,nv ((al.map (·.1)).take (i+1)))],[]⟩
   rw[<-htk2]
   refine B4 (yB O O O O (yQ (A5 ?_)));rw[ud];refine E0 O (A7 (A5 (A9 (B4 (yW ei (by omega) O O (J9 (ys:=[_,_]) O O O (yZ (cs:=[_,_]) O O (yS (cs':=[_,_]) O O O O O (yQ ?_)))))))));refine B3 (T7 O (D8 O (D7 O O O ?_)));refine yR (es:=[[_]]) O O O O O ?_;refine yTw (us:=tk.map encStr) (vs:=[encStr x]) (es:=[dC x]) (m:=1) (n:=i+1) (by omega) (by omega) (by omega) O O (by rw[htl2];omega) O O O ?_;refine En O (yQ (B3 (yB O O O O (B1 O (yQ (B6 ?_))))))
   refine⟨i+2,by omega,by omega,rfl,⟨D2,D2,D2,D2,D2,L6 hw,C8⟩,⟨⟨_,rfl,D2,D2,D2,C8⟩,⟨_,rfl,D2,D2,D2,C8⟩,⟨_,rfl,H3 (by show _=nv ((al.map (·.1)).take (i+1+1));rw[htk];simp[nv])⟩,C8⟩,C8,by simp[PS.closed,SV.ok,F8,Nat.beq,rowS,rowB,nv,-List.map_take,-List.map_set]⟩
 . have hie:i+1=al.length:=by omega
   have ud:decide (((i+1:Nat):Int)<(al.length:Int))=false:=C3 (by omega)
   have htk:(al.map (·.1)).take (i+1)=al.map (·.1):=D9 (by simp;omega)
   obtain⟨na,hna⟩:=H1 (al.map (·.1))
   have hnal:na.length=i+1:=by rw[hna,D3];omega
   rw[<-hna]at htk hnms
   have c5:=LL na (by omega)
   have c6:=MR (Ba na) (by rw[Al];omega)
   rw[<-hnms]at c6
   have hms:=Al na
   have hch:=T6 (fun a:F4=>DV.val (encStr a)) l
   have hll:l.length<=128:=by
    have:l.length<=na.length:=by rw[hnms,CS];exact AZ na
    omega
   show PW _ _ _ _ _ ⟨89,[(2,.bx 2 0),(3,.bx 3 0),(7,.bs 39 (i+1) 9 1),(29,.d (.sl 2 (al.map dH))),(30,.d (dI al.length)),(31,.d (dI ((i+1:Nat):Int)))],(2,[.d (dI d1),.d (.sl 2 (h1.map dH)),.d (.sl 5 (ms.map dM))])::(3,[.d (dI d2),.d (.sl 2 (h2.map dH)),.d (.sl 5 (ts.map dM))])::[(39,nv ((al.map (·.1)).take (i+1)))],[]⟩
   rw[<-hna,htk]
   refine B4 (yB O O O O (yQ (A5 ?_)));rw[ud];refine B9 O (F6 (B4 (T7 O ?_)));refine yRb c5 (by simp;omega) O O O ?_;refine yQ (B4 (yZ (cs:=[_]) O O (yQ (B4 (yCmb O (yAg O (yQ (A5 (B4 ?_)))))))));refine T7 O ?_;refine yRc (n':=l.length) c6 (by omega) (by omega) (by simp;omega) (by simp) O O ?_;refine yNb O (B1 O (yQ (A9 ?_)));refine Ag 45 39 (es:=l.map dC) (ds:=l.map fun a=>DV.val (encStr a)) (by simp) hch ?_ O O ?_
   . show P5 (nv l)=_
     exact toDs_nv l
   refine BR 10 0 KW 4 O O O O ?_;refine G6 (fun j:Nat=>⟨89,[(2,.bx 2 0),(3,.bx 3 0),(10,.bx 10 0),(11,.fb 44 10 0),(45,.d (dCs l)),(46,.d (dI l.length)),(47,.d (dI j))],[(2,[.d (dI d1),.d (.sl 2 (h1.map dH)),.d (.sl 5 (ms.map dM))]),(3,[.d (dI d2),.d (.sl 2 (h2.map dH)),.d (.sl 5 (ts.map dM))]),(10,[.ts KW 4 ((Fa h1 h2 l j).map AK)])],[(KW,((Fa h1 h2 l j).map AK).length)]⟩) (fun j=>j<=l.length) (fun j=>l.length-j) 0 (D4 _)
    ⟨rfl,⟨D2,D2,D2,D2,D2,D2,D2,C8⟩,⟨⟨_,rfl,D2,D2,D2,C8⟩,⟨_,rfl,D2,D2,D2,C8⟩,⟨_,rfl,D2,C8⟩,C8⟩,⟨rfl,C8⟩,rfl⟩ ?_
   intro j hj
   clear c5 c6 hch htk hnms hna c1 c2
   have hnx:∀ n,l[j]? = some n->Fa h1 h2 l (j+1)=Fa h1 h2 l j++JO n (hld n h1) (hld n h2):=fun n h=>MH h
   have hln:=JJ h1 h2 l j
   have hend:j=l.length->r=Fa h1 h2 l j:=fun e=>by rw[hr,e]
   obtain⟨nx,hnx2⟩:=H1 (Fa h1 h2 l (j+1))
   obtain⟨zs,hzs⟩:=H1 (Fa h1 h2 l j)
   simp only[<-hzs,<-hnx2]at hnx hln hend
   rw[<-hzs]
   refine B4 (yB O O O O (yQ (A5 ?_)));refine H7 O (fun h=>?_) (fun h=>?_)
   . simp at h
     obtain⟨n,hn⟩:=Fr h
     have en:=ix dC l j j n rfl hn
     have hw:=H2 ((j:Int)+1) (by omega)
     have hn2:=hnx _ hn
     have c3:=hc3 n
     have c4:=hc4 n
     obtain⟨o1,ho1⟩:=H1 (hld n h1)
     obtain⟨o2,ho2⟩:=H1 (hld n h2)
     rw[<-ho1]at c3 hn2
     rw[<-ho2]at c4 hn2
     clear hc3 hc4 hnx
     cases o2 with
     | none=>
      obtain⟨q,hq⟩:=H1 (o1.getD [])
      have e:nx=zs++[(1,n,q,[])]:=by rw[hn2,hq];rfl
      rw[<-hq]at c3
      refine A7 (A5 (A9 (B4 (yW en (by omega) O O (K7 O O (C9 O (yQ (B4 (J8 (ys:=[_,_,_]) O O O O ?_)))))))));refine B1 O (yC (c3) O O (Aw O (yX O O (yX O O (C9 O (C9 O (yQ (B4 (J8 (ys:=[_,_,_]) O O O O ?_)))))))));refine B1 O (yC (c4) O O (Aw O (yX O O (yX O O (C9 O (C9 O (yQ (A9 (B4 ?_)))))))));refine B1 O (yU O O O (C9 O (yQ (E0 O (B3 (Ft O (B1 O (B1 O ?_))))))));refine AW (Hi _ (1,n,q,[]) (by first|omega|(simp;omega))) rfl rfl ⟨rfl,C8⟩ ⟨rfl,C8⟩ ?_ (hfit:=by kernel_rfl);refine yQ (B3 (yB O O O O (B1 O (yQ (B6 ?_)))))
      refine⟨j+1,by omega,by omega,rfl,⟨D2,D2,D2,D2,D2,D2,L6 hw,C8⟩,⟨⟨_,rfl,D2,D2,D2,C8⟩,⟨_,rfl,D2,D2,D2,C8⟩,⟨_,rfl,.of_eq (by rw[<-hnx2,e]<;>rfl),C8⟩,C8⟩,⟨(by rw[<-hnx2,e]<;>rfl),C8⟩,rfl⟩
     | some q2=>
      simp only[Option.getD_some,Option.isSome_some]at c4
      cases o1 with
      | none=>
       have e:nx=zs++[(2,n,[],q2)]:=hn2
       refine A7 (A5 (A9 (B4 (yW en (by omega) O O (K7 O O (C9 O (yQ (B4 (J8 (ys:=[_,_,_]) O O O O ?_)))))))));refine B1 O (yC (c3) O O (Aw O (yX O O (yX O O (C9 O (C9 O (yQ (B4 (J8 (ys:=[_,_,_]) O O O O ?_)))))))));refine B1 O (yC (c4) O O (Aw O (yX O O (yX O O (C9 O (C9 O (yQ (A9 (B4 ?_)))))))));refine B1 O (yU O O O (C9 O (yQ (B9 O (B4 (B1 O (yU O O O (C9 O (yQ ?_)))))))));refine E0 O (B3 (Ft O (B1 O (B1 O ?_))));refine AW (Hi _ (2,n,[],q2) (by first|omega|(simp;omega))) rfl rfl ⟨rfl,C8⟩ ⟨rfl,C8⟩ ?_ (hfit:=by kernel_rfl);refine yQ (B3 (yB O O O O (B1 O (yQ (B6 ?_)))))
       refine⟨j+1,by omega,by omega,rfl,⟨D2,D2,D2,D2,D2,D2,L6 hw,C8⟩,⟨⟨_,rfl,D2,D2,D2,C8⟩,⟨_,rfl,D2,D2,D2,C8⟩,⟨_,rfl,.of_eq (by rw[<-hnx2,e]<;>rfl),C8⟩,C8⟩,⟨(by rw[<-hnx2,e]<;>rfl),C8⟩,rfl⟩
      | some q=>
       simp only[Option.getD_some,Option.isSome_some]at c3
       cases t1:(q==q2) with
       | true=>
        have e:nx=zs:=by rw[hn2];simp[JO,t1]
        refine A7 (A5 (A9 (B4 (yW en (by omega) O O (K7 O O (C9 O (yQ (B4 (J8 (ys:=[_,_,_]) O O O O ?_)))))))));refine B1 O (yC (c3) O O (Aw O (yX O O (yX O O (C9 O (C9 O (yQ (B4 (J8 (ys:=[_,_,_]) O O O O ?_)))))))));refine B1 O (yC (c4) O O (Aw O (yX O O (yX O O (C9 O (C9 O (yQ (A9 (B4 ?_)))))))));refine B1 O (yU O O O (C9 O (yQ (B9 O (B4 (B1 O (yU O O O (C9 O (yQ ?_)))))))));refine B9 O (B4 (B1 O (B1 O (K6 O O (C9 O (yQ (B6 ?_)))))))
        rw[t1];refine B9 O ?_;refine A7 ?_;refine B3 ?_;refine yB O O O O ?_;refine B1 O ?_;refine yQ ?_;refine B6 ?_
        refine⟨j+1,by omega,by omega,rfl,⟨D2,D2,D2,D2,D2,D2,L6 hw,C8⟩,⟨⟨_,rfl,D2,D2,D2,C8⟩,⟨_,rfl,D2,D2,D2,C8⟩,⟨_,rfl,.of_eq (by rw[<-hnx2,e]<;>rfl),C8⟩,C8⟩,⟨(by rw[<-hnx2,e]<;>rfl),C8⟩,rfl⟩
       | false=>
        have e:nx=zs++[(3,n,q,q2)]:=by rw[hn2];simp[JO,t1]
        refine A7 (A5 (A9 (B4 (yW en (by omega) O O (K7 O O (C9 O (yQ (B4 (J8 (ys:=[_,_,_]) O O O O ?_)))))))));refine B1 O (yC (c3) O O (Aw O (yX O O (yX O O (C9 O (C9 O (yQ (B4 (J8 (ys:=[_,_,_]) O O O O ?_)))))))));refine B1 O (yC (c4) O O (Aw O (yX O O (yX O O (C9 O (C9 O (yQ (A9 (B4 ?_)))))))));refine B1 O (yU O O O (C9 O (yQ (B9 O (B4 (B1 O (yU O O O (C9 O (yQ ?_)))))))));refine B9 O (B4 (B1 O (B1 O (K6 O O (C9 O (yQ (B6 ?_)))))))
        rw[t1];refine E0 O ?_;refine B3 ?_;refine Ft O ?_;refine B1 O ?_;refine B1 O ?_;refine B1 O ?_
        refine AW (Hi _ (3,n,q,q2) (by first|omega|(simp;omega))) rfl rfl ⟨rfl,C8⟩ ⟨rfl,C8⟩ ?_ (hfit:=by kernel_rfl);refine yQ (B3 (yB O O O O (B1 O (yQ (B6 ?_)))))
        refine⟨j+1,by omega,by omega,rfl,⟨D2,D2,D2,D2,D2,D2,L6 hw,C8⟩,⟨⟨_,rfl,D2,D2,D2,C8⟩,⟨_,rfl,D2,D2,D2,C8⟩,⟨_,rfl,.of_eq (by rw[<-hnx2,e]<;>rfl),C8⟩,C8⟩,⟨(by rw[<-hnx2,e]<;>rfl),C8⟩,rfl⟩
   . simp at h
     rw[hend (by omega)]
     refine F6 (B4 (D8 O (yLt O O O (Fu O (C9 O (yQ (C4 ?_)))))))
     exact Cu O O O
def HK (s t:Stm) (days:Int):List Bk:=if BH s t days=0 then Dh s.hs t.hs++Li s.ms t.ms days else []
theorem Dr {s t:Stm} {days:Int} (h:BH s t days=0):BH s t 0=0:=by
 obtain⟨h1,h2,h3,h4,h5⟩:=JZ h
 unfold BH
 rw[h1,h2,h3]
 simp
theorem mvB_len (ms ts:List Mv) (days:Int):(Li ms ts days).length<=3*ms.length+ts.length:=by
 unfold Li
 rw[D1]
 have:=JE ms ts (AR days ms ts).1 ms.length
 have:=JD ts (P6 (AR days ms ts).2) ts.length
 omega
theorem wAll (s t:Stm) (days:Int) (hs:fitS s) (ht:fitS t):PCalls Tryz.prog 16 [.agg (DF s),.agg (DF t),dI days] (.tup [.sl 4 ((HK s t days).map AK),dI (BH s t days)]):=by
 have c1:=wChk s t days hs ht
 have c2:=Bw s t hs ht
 have c3:=Hc s t days hs ht
 obtain⟨ck,hck⟩:=H1 (BH s t days)
 have hp:HK s t days=if ck=0 then Dh s.hs t.hs++Li s.ms t.ms days else []:=by rw[HK,hck]
 rw[hp]
 by_cases h0:ck=0
 rotate_left
 . rw[<-hck]at c1 ⊢
   have t1:(ck != 0)=true:=by simpa using h0
   rw[B8 h0]
   obtain⟨d1,hs1,ms⟩:=s
   obtain⟨d2,hs2,ts⟩:=t
   refine L7 Tryz.func16 O Tryz.ntmps16 Tryz.results16 fun B w0=>?_
   refine B4 (yK (cs:=[_,_,_]) O O (yK (cs:=[_,_,_]) O O (C9 O (C9 O (yQ (A5 (B4 (J8 (ys:=[_,_,_]) O O O O (J8 (ys:=[_,_,_]) O O O O ?_)))))))));refine B1 O (yC (c1) O O (C9 O (yQ (B4 (B1 O (yB O O O O (yQ (B6 ?_))))))));rw[t1];refine E0 O (B4 (B1 O (C9 O (C9 O (yQ (C4 (A8 ?_)))))))
   exact K9 _ (.tnil 4 O (.tmp O .nil)) O
 . rw[C2 h0]
   have h00:=Dr (hck.symm.trans h0)
   have e1:Dg s t=Dh s.hs t.hs:=by rw[Dg,C2 h00]
   have e2:GT s t days=Li s.ms t.ms days:=by rw[GT,C2 (hck.symm.trans h0)]
   rw[e1,h00]at c2
   rw[e2]at c3
   rw[<-hck]at c1 c3 ⊢
   subst h0
   have hl1:=Fc s.hs t.hs
   have hl2:=mvB_len s.ms t.ms days
   have k1:=hs.hl
   have k2:=ht.hl
   have k3:=hs.ml
   have k4:=ht.ml
   have c4:=Ku [Dh s.hs t.hs,Li s.ms t.ms days] (by simp) (by simp;omega)
   simp only[List.map_cons,List.map_nil,List.flatten_cons,List.flatten_nil,List.append_nil]at c4
   obtain⟨r1,hr1⟩:=H1 (Dh s.hs t.hs)
   obtain⟨r2,hr2⟩:=H1 (Li s.ms t.ms days)
   rw[<-hr1,<-hr2]at c4 ⊢
   rw[<-hr1]at c2
   rw[<-hr2]at c3
   obtain⟨d1,hs1,ms⟩:=s
   obtain⟨d2,hs2,ts⟩:=t
   refine L7 Tryz.func16 O Tryz.ntmps16 Tryz.results16 fun B w0=>?_
   refine B4 (yK (cs:=[_,_,_]) O O (yK (cs:=[_,_,_]) O O (C9 O (C9 O (yQ (A5 (B4 (J8 (ys:=[_,_,_]) O O O O (J8 (ys:=[_,_,_]) O O O O ?_)))))))));refine B1 O (yC (c1) O O (C9 O (yQ (B4 (B1 O (yB O O O O (yQ (B9 O (A7 ?_)))))))));refine B4 (J8 (ys:=[_,_,_]) O O O O (J8 (ys:=[_,_,_]) O O O O (yC (c2) O O (Aw O (yX O O (yX O O (C9 O (C9 O (yQ ?_)))))))));refine B4 (J8 (ys:=[_,_,_]) O O O O (J8 (ys:=[_,_,_]) O O O O (B1 O (yC (c3) O O (Aw O (yX O O (yX O O (C9 O (C9 O ?_)))))))));refine yQ (B4 (B1 O (B1 O ?_)));refine yR (es:=[[_],[_]]) O O O O O ?_;refine yC (c4) O O (C9 O (C9 O (yQ (C4 ?_))))
   exact Cu O O O
instance:MapOf Tryz.prog 104 (dS []):=⟨⟨9,39,by kernel_rfl,by kernel_rfl,fun w=>⟨.string ⟨#[]⟩,by kernel_rfl,fun F w'=>DRep.val _ rfl⟩⟩⟩
abbrev exT:Nat:=9*100000+18
def JQ (s t:Stm) (days:Int):List F4:=if BH s t days=0 then Gq (Dh s.hs t.hs) (Bu t.ms (AR days s.ms t.ms).2 (AJ s.ms t.ms (AR days s.ms t.ms).1 s.ms.length) t.ms.length) (Dh s.hs t.hs).length else []
theorem exP_at {P:List (Option Nat)} {o:Option Nat} (h:P[i]?.getD none=o) (hi:i<P.length):((P.map AU).map dZ)[((i:Int)).toNat]? = some (dZ (AU o)):=by
 rw[H6,B5,B5,A4 hi]
 rw[A4 hi]at h
 subst h
 rfl
theorem Hf (s t:Stm) (days:Int) (hs:fitS s) (ht:fitS t) (q1:∀ m∈s.ms,m.2.2.2.1.length<=1000) (q2:∀ m∈t.ms,m.2.2.2.1.length<=1000) (q3:∀ b∈Dh s.hs t.hs,b.2.2.1.length<=1000∧b.2.2.2.length<=1000):PCalls Tryz.prog 31 [.agg (DF s),.agg (DF t),dI days] (.tup [.sl 1 ((JQ s t days).map dC),dI (BH s t days)]):=by
 have c1:=wAll s t days hs ht
 obtain⟨A0,hA⟩:=H1 (HK s t days)
 rw[<-hA]at c1
 obtain⟨ck,hck⟩:=H1 (BH s t days)
 obtain⟨r,hr⟩:=H1 (JQ s t days)
 rw[<-hck]at c1 ⊢
 rw[<-hr]
 rw[JQ,<-hck]at hr
 by_cases h0:ck=0
 rotate_left
 . have t1:(ck != 0)=true:=by simpa using h0
   rw[B8 h0]at hr
   subst hr
   refine L7 Tryz.func31 O Tryz.ntmps31 Tryz.results31 fun B w0=>?_
   refine B4 (yK (cs:=[_,_,_]) O O (yK (cs:=[_,_,_]) O O (C9 O (C9 O (yQ (B4 (J8 (ys:=[_,_,_]) O O O O (J8 (ys:=[_,_,_]) O O O O (B1 O ?_)))))))));refine yC (c1) O O (Aw O (yX O O (yX O O (C9 O (C9 O (yQ (A5 (B4 (B1 O ?_)))))))));refine yB O O O O (yQ (B6 ?_));rw[t1];refine E0 O (B4 (B1 O (C9 O (C9 O (yQ (C4 (A8 ?_)))))))
   exact K9 _ (.tnil 1 O (.tmp O .nil)) O
 rw[C2 h0]at hr
 have t1:(ck != 0)=false:=by simpa using h0
 obtain⟨k1,k2,-⟩:=JZ (hck ▸ h0:BH s t days=0)
 have c2:=Bw s t hs ht
 rw[Dg,Dr (hck ▸ h0:BH s t days=0),C2 rfl]at c2
 have c3:=Km s t days hs.ml ht.ml (EM k1) (EM k2)
 obtain⟨l1,l2⟩:=Cv days s.ms t.ms
 have hlk:∀ (i k:Nat),(AR days s.ms t.ms).1[i]?.getD none=some k->k<t.ms.length:=fun i k h=>LY days s.ms t.ms h
 obtain⟨⟨P,T⟩,hp⟩:=H1 (AR days s.ms t.ms)
 rw[<-hp]at c3 l1 l2 hlk hr
 simp only at c3 l1 l2 hlk hr
 obtain⟨L,hL⟩:=H1 (Dh s.hs t.hs)
 rw[<-hL]at c2 q3 hr
 have hLl:L.length<=1000000:=by
  have:=Fc s.hs t.hs
  have h1:=hs.hl
  have h2:=ht.hl
  rw[hL];omega
 have hml:=hs.ml
 have htl:=ht.ml
 clear hp hck hA hL k1 k2 hs ht
 obtain⟨d1,hs1,ms⟩:=s
 obtain⟨d2,hs2,ts⟩:=t
 simp only at c1 c2 c3 q1 q2 q3 l1 l2 hlk hr hml htl
 have hx1:=ex1_len (pl:=P) q1 q2
 refine L7 Tryz.func31 O Tryz.ntmps31 Tryz.results31 fun B w0=>?_
 refine B4 (yK (cs:=[_,_,_]) O O (yK (cs:=[_,_,_]) O O (C9 O (C9 O (yQ (B4 (J8 (ys:=[_,_,_]) O O O O (J8 (ys:=[_,_,_]) O O O O (B1 O ?_)))))))));refine yC (c1) O O (Aw O (yX O O (yX O O (C9 O (C9 O (yQ (A5 (B4 (B1 O ?_)))))))));refine yB O O O O (yQ (B6 ?_));rw[t1];refine B9 O (A7 (B4 (J8 (ys:=[_,_,_]) O O O O (J8 (ys:=[_,_,_]) O O O O (yC (c2) O O (Aw O (yX O O (yX O O (C9 O ?_)))))))));refine yQ (B4 (J8 (ys:=[_,_,_]) O O O O (J8 (ys:=[_,_,_]) O O O O (B1 O (yC (c3) O O (Aw O (yX O O (yX O O (C9 O ?_)))))))));refine C9 O (yQ (B4 (yKm O (yAm O (yQ (A5 (B4 (D8 O (D7 O O O ?_)))))))));refine yN O (B1 O (yQ (A9 ?_)));refine G6 (fun i:Nat=>⟨131,[(4,.bx 4 0),(8,.d (.sl 4 (L.map AK))),(10,.d (dIs (P.map AU))),(11,.d (.sl 1 (T.map IK))),(12,.mb 500044),(46,.d (.sl 5 (ms.map dM))),(47,.d (dI ms.length)),(48,.d (dI i))],[(4,[.d (dI d2),.d (.sl 2 (hs2.map dH)),.d (.sl 5 (ts.map dM))]),(500044,[.mc (K1 (L3 (AJ ms ts P i)))])],[]⟩) (fun i=>i<=ms.length) (fun i=>ms.length-i) 0 (D4 _)
  ⟨rfl,⟨D2,D2,D2,D2,D2,D2,Cs (by simp),D2,C8⟩,⟨⟨_,rfl,D2,D2,D2,C8⟩,⟨_,rfl,H3 rfl⟩,C8⟩,C8,rfl⟩ ?_
 intro i hi
 rcases G0 i ms.length with h|h
 . have u1:decide ((i:Int)<(ms.length:Int))=true:=C5 (by omega)
   obtain⟨⟨m0,m1,m2,m3,m4⟩,hm⟩:∃ a,ms[i]? = some a:=⟨_,A4 h⟩
   have em:=ix dM ms i i (m0,m1,m2,m3,m4) rfl hm
   have hw:=H2 ((i:Int)+1) (by omega)
   have hq:=q1 _ (B2 hm)
   simp only at hq
   have hln:=hx1 i m2
   have hnx:AJ ms ts P (i+1)=AJ ms ts P (i+1):=rfl
   conv at hnx=>rhs;rw[AJ,hm]
   obtain⟨M,hM⟩:=H1 (AJ ms ts P i)
   rw[<-hM]at hnx hln ⊢
   simp only at hnx
   have hg1:=CI m2 M
   have c4:=Ky (G9 m2 M) m3 (by omega) (by omega)
   have hs1:=Da m2 (Z7 (G9 m2 M) m3) M
   obtain⟨M1,hM1⟩:=H1 (O6 m2 (Z7 (G9 m2 M) m3) M)
   have hln1:(G9 m2 M1).length<=1000+4*i+2:=by
    rw[hM1,K2,C2 rfl]
    exact Bs (by omega) (by omega)
   rw[<-hM1]at hnx hs1
   obtain⟨v1,hv1⟩:=H1 (G9 m2 M)
   rw[<-hv1]at hg1 c4 hs1
   obtain⟨a1,ha1⟩:=H1 (G8 (val v1+val m3))
   have hs1:AE m2 (dS (G8 (val v1+val m3))) (L3 M)=L3 M1:=hs1
   rw[<-ha1]at c4 hs1
   clear hv1 ha1 hM1
   obtain⟨o,ho⟩:∃ o,P[i]?.getD none=o:=⟨_,rfl⟩
   have ep:=exP_at ho (by omega)
   rw[ho]at hnx
   cases o with
   | none=>
    have u2:decide (AU none ≥ 0)=false:=rfl
    simp only[Option.bind_none]at hnx
    refine B4 (yB O O O O (yQ (A5 ?_)));rw[u1];refine E0 O (A7 (A5 (A9 (B4 (B1 O (yW em (by omega) O O (J9 (ys:=[_,_,_,_,_]) O O O (yZ (cs:=[_,_,_,_,_]) O O (C9 O ?_)))))))));refine yS (cs':=[_,_,_,_,_]) O O O O O (yQ (A5 ?_));refine G1 Tryz.mixed (by kernel_rfl) ?_;refine Ic O (D8 O (D7 O O O (Ic O (D8 O (D7 O O O (yKl (z:=dS []) O O O hg1 (D8 O (D7 O O O (yC (c4) O O ?_)))))))));refine yKu (z:=dS []) O O O O hs1 (yQ (B4 (B1 O (B1 O (yW ep (by omega) O O (K7 O O (C9 O (yQ (B4 ?_)))))))));refine B1 O (yB O O O O (yQ (B9 O (A7 (B3 (yB O O O O (B1 O (yQ (B6 ?_)))))))));rw[u2]
    refine⟨i+1,by omega,by omega,rfl,⟨D2,D2,D2,D2,D2,D2,D2,L6 hw,C8⟩,⟨⟨_,rfl,D2,D2,D2,C8⟩,⟨_,rfl,H3 (by rw[hnx])⟩,C8⟩,C8,rfl⟩
   | some k=>
    have hk:=hlk i k ho
    obtain⟨⟨x0,x1,x2,x3,x4⟩,hx⟩:∃ a,ts[k]? = some a:=⟨_,A4 hk⟩
    have eo:=ix dM ts k k (x0,x1,x2,x3,x4) rfl hx
    have hqx:=q2 _ (B2 hx)
    simp only at hqx
    rw[Option.bind_some,hx]at hnx
    simp only at hnx
    have u2:decide (AU (some k) ≥ 0)=true:=C5 (by show(0:Int)<=k;omega)
    have hg2:=CI m2 M1
    have c5:=Kh (G9 m2 M1) x3 (by omega) (by omega)
    have hs2:AE m2 (dS (G8 (val (G9 m2 M1)-val x3))) (L3 M1)=L3 (O6 m2 (BN (G9 m2 M1) x3) M1):=Da m2 (BN (G9 m2 M1) x3) M1
    obtain⟨v2,hv2⟩:=H1 (G9 m2 M1)
    rw[<-hv2]at hg2 c5 hs2 hnx
    obtain⟨M2,hM2⟩:=H1 (O6 m2 (BN v2 x3) M1)
    rw[<-hM2]at hs2 hnx
    obtain⟨a2,ha2⟩:=H1 (G8 (val v2-val x3))
    rw[<-ha2]at c5 hs2
    clear ha2 hM2 hv2
    refine B4 (yB O O O O (yQ (A5 ?_)));rw[u1];refine E0 O (A7 (A5 (A9 (B4 (B1 O (yW em (by omega) O O (J9 (ys:=[_,_,_,_,_]) O O O (yZ (cs:=[_,_,_,_,_]) O O (C9 O ?_)))))))));refine yS (cs':=[_,_,_,_,_]) O O O O O (yQ (A5 ?_));refine G1 Tryz.mixed (by kernel_rfl) ?_;refine Ic O (D8 O (D7 O O O (Ic O (D8 O (D7 O O O (yKl (z:=dS []) O O O hg1 (D8 O (D7 O O O (yC (c4) O O ?_)))))))));refine yKu (z:=dS []) O O O O hs1 (yQ (B4 (B1 O (B1 O (yW ep (by omega) O O (K7 O O (C9 O (yQ (B4 ?_)))))))));refine B1 O (yB O O O O (yQ (E0 O ?_)));refine G1 Tryz.mixed (by kernel_rfl) ?_;refine Ic O (D8 O (D7 O O O (Ic O (D8 O (D7 O O O (yKl (z:=dS []) O O O hg2 (D8 O (D7 O O O (B1 O ?_)))))))));refine yW eo (by show(0:Int)<=k;omega) rfl rfl ?_;refine Ie O O (K7 O O (yC (c5) O O (yKu (z:=dS []) O O O O hs2 (yQ (B3 (yB O O O O (B1 O (yQ (B6 ?_)))))))));rw[u2]
    refine⟨i+1,by omega,by omega,rfl,⟨D2,D2,D2,D2,D2,D2,D2,L6 hw,C8⟩,⟨⟨_,rfl,D2,D2,D2,C8⟩,⟨_,rfl,H3 (by rw[hnx])⟩,C8⟩,C8,rfl⟩
 have u1:decide ((i:Int)<(ms.length:Int))=false:=C3 (by omega)
 obtain rfl:i=ms.length:=by omega
 have hx2:=ex2_len (tk:=T) (M:=AJ ms ts P ms.length) (B:=1000+4*ms.length) (fun m hm=>by have:=q2 m hm;omega) (hx1 ms.length)
 obtain⟨M0,hM0⟩:=H1 (AJ ms ts P ms.length)
 rw[<-hM0]at hx2 hr ⊢
 clear hM0 hx1
 refine B4 (yB O O O O (yQ (A5 ?_)));rw[u1];refine B9 O (F6 (A5 (B4 (D8 O (D7 O O O (yN O (B1 O (yQ (A9 ?_)))))))));refine G6 (fun k:Nat=>⟨131,[(8,.d (.sl 4 (L.map AK))),(11,.d (.sl 1 (T.map IK))),(12,.mb 500044),(85,.d (.sl 5 (ts.map dM))),(86,.d (dI ts.length)),(87,.d (dI k))],[(500044,[.mc (K1 (L3 (Bu ts T M0 k)))])],[]⟩) (fun k=>k<=ts.length) (fun k=>ts.length-k) 0 (D4 _)
  ⟨rfl,⟨D2,D2,D2,D2,Cs (by simp),D2,C8⟩,⟨⟨_,rfl,H3 rfl⟩,C8⟩,C8,rfl⟩ ?_
 intro k hk
 rcases G0 k ts.length with h|h
 . have u2:decide ((k:Int)<(ts.length:Int))=true:=C5 (by omega)
   obtain⟨⟨x0,x1,x2,x3,x4⟩,hx⟩:∃ a,ts[k]? = some a:=⟨_,A4 h⟩
   have ex:=ix dM ts k k (x0,x1,x2,x3,x4) rfl hx
   have hw:=H2 ((k:Int)+1) (by omega)
   have hq:=q2 _ (B2 hx)
   simp only at hq
   have et:(T.map IK)[(k:Int).toNat]? = some (IK (P6 T k)):=Hj (by omega)
   have hln:=hx2 k x2
   have hnx:Bu ts T M0 (k+1)=Bu ts T M0 (k+1):=rfl
   conv at hnx=>rhs;rw[Bu,hx]
   obtain⟨M,hM⟩:=H1 (Bu ts T M0 k)
   rw[<-hM]at hnx hln ⊢
   simp only at hnx
   obtain⟨b,hb⟩:=H1 (P6 T k)
   rw[<-hb]at et hnx
   cases b with
   | true=>
    rw[C2 rfl]at hnx
    refine B4 (yB O O O O (yQ (A5 ?_)));rw[u2];refine E0 O (A7 (A5 (A9 (B4 (B1 O (yW ex (by omega) O O (J9 (ys:=[_,_,_,_,_]) O O O (yZ (cs:=[_,_,_,_,_]) O O (C9 O ?_)))))))));refine yS (cs':=[_,_,_,_,_]) O O O O O (yQ (B4 (B1 O (B1 O (yW et (by omega) O O (K7 O O (yU O O O (yQ (B9 O ?_)))))))));refine A7 (B3 (yB O O O O (B1 O (yQ (B6 ?_)))))
    refine⟨k+1,by omega,by omega,rfl,⟨D2,D2,D2,D2,D2,L6 hw,C8⟩,⟨⟨_,rfl,H3 (by rw[hnx])⟩,C8⟩,C8,rfl⟩
   | false=>
    rw[B8 (by decide)]at hnx
    have hg:=CI x2 M
    have c4:=Kh (G9 x2 M) x3 (by omega) (by omega)
    have hs:AE x2 (dS (G8 (val (G9 x2 M)-val x3))) (L3 M)=L3 (O6 x2 (BN (G9 x2 M) x3) M):=Da x2 (BN (G9 x2 M) x3) M
    obtain⟨v,hv⟩:=H1 (G9 x2 M)
    rw[<-hv]at hg c4 hs hnx
    obtain⟨M2,hM2⟩:=H1 (O6 x2 (BN v x3) M)
    rw[<-hM2]at hs hnx
    obtain⟨a2,ha2⟩:=H1 (G8 (val v-val x3))
    rw[<-ha2]at c4 hs
    clear ha2 hM2 hv
    refine B4 (yB O O O O (yQ (A5 ?_)));rw[u2];refine E0 O (A7 (A5 (A9 (B4 (B1 O (yW ex (by omega) O O (J9 (ys:=[_,_,_,_,_]) O O O (yZ (cs:=[_,_,_,_,_]) O O (C9 O ?_)))))))));refine yS (cs':=[_,_,_,_,_]) O O O O O (yQ (B4 (B1 O (B1 O (yW et (by omega) O O (K7 O O (yU O O O (yQ (E0 O ?_)))))))));refine G1 Tryz.mixed (by kernel_rfl) ?_;refine Ic O (D8 O (D7 O O O (Ic O (D8 O (D7 O O O (yKl (z:=dS []) O O O hg (D8 O (D7 O O O (yC (c4) O O ?_)))))))));refine yKu (z:=dS []) O O O O hs (yQ (B3 (yB O O O O (B1 O (yQ (B6 ?_))))))
    refine⟨k+1,by omega,by omega,rfl,⟨D2,D2,D2,D2,D2,L6 hw,C8⟩,⟨⟨_,rfl,H3 (by rw[hnx])⟩,C8⟩,C8,rfl⟩
 have u2:decide ((k:Int)<(ts.length:Int))=false:=C3 (by omega)
 obtain rfl:k=ts.length:=by omega
 have hx3:=hx2 ts.length
 obtain⟨M,hM⟩:=H1 (Bu ts T M0 ts.length)
 rw[<-hM]at hr hx3 ⊢
 clear hM hx2
 refine B4 (yB O O O O (yQ (A5 ?_)));rw[u2];refine B9 O (F6 (B4 (C9 O (yQ ?_))));refine FJ 18 exT 1 O O O ?_;refine A5 (B4 (B1 O (yN O (B1 O (yQ (A9 ?_))))));refine G6 (fun j:Nat=>⟨131,[(12,.mb 500044),(18,.ts exT 1 ((Gq L M j).map dC)),(108,.d (.sl 4 (L.map AK))),(109,.d (dI L.length)),(110,.d (dI j))],[(500044,[.mc (K1 (L3 (M)))])],[(exT,((Gq L M j).map dC).length)]⟩) (fun j=>j<=L.length) (fun j=>L.length-j) 0 (D4 _)
  ⟨rfl,⟨D2,D2,D2,Cs (by simp),D2,C8⟩,⟨⟨_,rfl,H3 rfl⟩,C8⟩,⟨rfl,C8⟩,rfl⟩ ?_
 intro j hj
 rcases G0 j L.length with h|h
 . have u3:decide ((j:Int)<(L.length:Int))=true:=C5 (by omega)
   obtain⟨⟨b0,b1,b2,b3⟩,hb⟩:∃ a,L[j]? = some a:=⟨_,A4 h⟩
   have eb:=ix AK L j j (b0,b1,b2,b3) rfl hb
   have hw:=H2 ((j:Int)+1) (by omega)
   obtain⟨hq1,hq2⟩:=q3 _ (B2 hb)
   simp only at hq1 hq2
   have c4:=Kh b2 b3 (by omega) (by omega)
   have hg:=CI b1 M
   have hnx:Gq L M (j+1)=Gq L M (j+1):=rfl
   conv at hnx=>rhs;rw[Gq,hb]
   simp only at hnx
   have hzl:=exN_len L M j
   obtain⟨zs,hz⟩:=H1 (Gq L M j)
   obtain⟨v,hv⟩:=H1 (G9 b1 M)
   rw[<-hz,<-hv]at hnx
   rw[<-hz]at hzl ⊢
   rw[<-hv]at hg
   have hnx:Gq L M (j+1)=if G8 (val b2-val b3)=v then zs++[b1]else zs:=hnx
   obtain⟨a2,ha2⟩:=H1 (G8 (val b2-val b3))
   rw[<-ha2]at c4 hnx
   clear ha2 hv hz
   by_cases he:a2=v
   . have t2:(a2==v)=true:=by simpa using he
     rw[C2 he]at hnx
     refine B4 (yB O O O O (yQ (A5 ?_)));rw[u3];refine E0 O (A7 (A5 (A9 (B4 (yW eb (by omega) O O (J9 (ys:=[_,_,_,_]) O O O (yZ (cs:=[_,_,_,_]) O O (yS (cs':=[_,_,_,_]) O O O O O (yQ ?_)))))))));refine A5 ?_;refine G1 Tryz.mixed (by kernel_rfl) ?_;refine D8 O (D7 O O O (D8 O (D7 O O O (yC (c4) O O (Ic O (D8 O (D7 O O O (yKl (z:=dS []) O O O hg (L8 O O ?_)))))))));refine yQ (B6 ?_);rw[t2];refine E0 O (B3 (Ib O (D8 O (D7 O O O ?_))));refine yR (es:=[[_]]) O O O O O ?_;refine yT (es':=(zs++[b1]).map dC) (m:=((zs++[b1]).map dC).length) (by simp;omega) (by simp;omega) O O O O O (by simp) (by simp) ?_;refine Fu O (yQ (B3 (yB O O O O (B1 O (yQ (B6 ?_))))))
     refine⟨j+1,by omega,by omega,rfl,⟨D2,.of_eq (by rw[hnx];rfl),D2,D2,L6 hw,C8⟩,⟨⟨_,rfl,H3 rfl⟩,C8⟩,⟨(by rw[hnx];rfl),C8⟩,rfl⟩
   . have t2:(a2==v)=false:=by simpa using he
     rw[B8 he]at hnx
     refine B4 (yB O O O O (yQ (A5 ?_)));rw[u3];refine E0 O (A7 (A5 (A9 (B4 (yW eb (by omega) O O (J9 (ys:=[_,_,_,_]) O O O (yZ (cs:=[_,_,_,_]) O O (yS (cs':=[_,_,_,_]) O O O O O (yQ ?_)))))))));refine A5 ?_;refine G1 Tryz.mixed (by kernel_rfl) ?_;refine D8 O (D7 O O O (D8 O (D7 O O O (yC (c4) O O (Ic O (D8 O (D7 O O O (yKl (z:=dS []) O O O hg (L8 O O ?_)))))))));refine yQ (B6 ?_);rw[t2];refine B9 O (A7 (B3 (yB O O O O (B1 O (yQ (B6 ?_))))))
     refine⟨j+1,by omega,by omega,rfl,⟨D2,.of_eq (by rw[hnx];rfl),D2,D2,L6 hw,C8⟩,⟨⟨_,rfl,H3 rfl⟩,C8⟩,⟨(by rw[hnx];rfl),C8⟩,rfl⟩
 have u3:decide ((j:Int)<(L.length:Int))=false:=C3 (by omega)
 obtain rfl:j=L.length:=by omega
 rw[<-hr]
 refine B4 (yB O O O O (yQ (A5 ?_)));rw[u3];refine B9 O (F6 (B4 (Ib O (Fu O (C9 O (yQ (C4 ?_)))))))
 rw[h0]
 exact Cu O O O
end Go.Proofs.YtdkpmnefoobipaaGreatDoor
namespace Go.Proofs.YtdkpmnefoobipaaGreatDoor.Px
open Go.RowKit
theorem KK {st:PS} (s i:Nat) {n E k:Nat} {cs:List SV} {ds:List DV} {es:List (List DV)} (hn:ds.length=n*k) (hes:J4 k n ds=es) (hds:P5 cs=some ds) (hs:st.get s=.bs i n E k) (hi:st.bget i=some cs) (hlt:Nat.blt i 500000=true:=by rfl):∀ B w0 g a w,Rep B w0 g st a w->∃ g',Evo g w g' w∧Rep B w0 g' ((st.kill i).put (some s) (.d (.sl k es))) a w:=fun B w0 g a w hr=>by
 obtain⟨ev,hr'⟩:=hr.kill i
 subst hes
 have hv:=hr.slots s
 rw[hs]at hv
 have hd:DRep (Fx (g.delb i)) w (a.tmps.getD s undef) (.sl k (J4 k n ds)):=by
  refine BA hr (B0 hlt) hi hds hn hv (fun b o hb=>⟨(hr.blk i b hb).1 o,fun j hj=>?_,fun t T n' c' hT hTv=>?_⟩) ev.fx
  . obtain⟨h1,h2⟩:=Gh.delb_bl hj
    exact h2 (hr.inj j i b h1 hb)
  . exact F9 hb ((hr.toks t T hT).2 i b (by rw[hTv];rfl))
 refine⟨_,ev,{ hr' with lim:=hr'.lim,size:=hr'.size,boxes:=hr'.boxes,maps:=hr'.maps,dom:=hr'.dom,tdom:=hr'.tdom,tlen:=hr'.tlen,glob:=hr'.glob,slots:=fun j=>?_ }⟩
 rw[O5]
 by_cases e:j=s
 . rw[C2 e,e];exact hd
 . rw[B8 e];exact hr'.slots j
end Go.Proofs.YtdkpmnefoobipaaGreatDoor.Px
namespace Go.Proofs.YtdkpmnefoobipaaGreatDoor
open Go.RowKit Px
variable {i B:Nat}
instance mapTyH:MapTy Tryz.prog 104:=⟨⟨9,39,by kernel_rfl⟩⟩
theorem Gg {base:List Hd} {h:Hd} (e:base[i]? = some h):AV base (i+1)=O6 h.1 (Z7 (G9 h.1 (AV base i)) h.2) (AV base i):=by rw[AV,e]
theorem Gf {ms:List Mv} {M:List (F4×F4)} {m:Mv} (e:ms[i]? = some m):hd2 ms M (i+1)=O6 m.2.2.1 (Z7 (G9 m.2.2.1 (hd2 ms M i)) m.2.2.2.1) (hd2 ms M i):=by rw[hd2,e]
theorem JN {base:List Hd} (q:∀ h∈base,h.2.length<=B) (i:Nat) (j:F4):(G9 j (AV base i)).length<=B+2*i:=by
 induction i generalizing j with
 | zero=>simp[AV,G9]
 | succ i ih=>
  cases h:base[i]? with
  | none=>rw[AV,h];have:=ih j;simp only;omega
  | some p=>
   rw[Gg h]
   have q2:=q p (B2 h)
   refine O3 (Bs (k:=B+2*i) (ih _) (by omega)) (fun j=>?_) j
   have:=ih j;omega
theorem JM {ms:List Mv} {M:List (F4×F4)} (hM:∀ j,(G9 j M).length<=B) (q:∀ m∈ms,m.2.2.2.1.length<=B) (i:Nat) (j:F4):(G9 j (hd2 ms M i)).length<=B+2*i:=by
 induction i generalizing j with
 | zero=>exact hM j
 | succ i ih=>
  cases h:ms[i]? with
  | none=>rw[hd2,h];have:=ih j;simp only;omega
  | some p=>
   rw[Gf h]
   have q2:=q p (B2 h)
   refine O3 (Bs (k:=B+2*i) (ih _) (by omega)) (fun j=>?_) j
   have:=ih j;omega
theorem DR (k v:F4) (M:List (F4×F4)):(O6 k v M).length<=M.length+1:=by
 have h:=H4 List.length (CD k v M)
 rw[D3]at h
 rw[h]
 split<;>simp
theorem EW (base:List Hd) (ms:List Mv):(Fs base ms).length<=base.length+ms.length:=by
 have h1:∀ i,(AV base i).length<=i:=fun i=>by
  induction i with
  | zero=>simp[AV]
  | succ i ih=>
   rw[AV]
   split
   . omega
   . exact E3 (DR _ _ _) (by omega)
 have h2:∀ i,(hd2 ms (AV base base.length) i).length<=base.length+i:=fun i=>by
  induction i with
  | zero=>exact h1 _
  | succ i ih=>
   rw[hd2]
   split
   . omega
   . exact E3 (DR _ _ _) (by omega)
 exact h2 _
def S6 (p:Hd):Bool:=!(p.2==[])
def unV:Value->F4
 | .string b=>b.toList
 | _=>[]
def unE (q:Value×DV):Hd:=(unV q.1,match q.2 with|.val v=>unV v|_=>[])
theorem LC (s:F4):unV (vS s)=s:=J3 s
theorem un_km (l:List Hd):(K1 (L3 l)).map unE=l:=by
 induction l with
 | nil=>rfl
 | cons p l ih=>
  show(unV (vS p.1),unV (vS p.2))::(K1 (L3 l)).map unE=_
  rw[ih,LC,LC]
theorem km_perm {a b:List Hd} (h:(K1 (L3 a)).Perm (K1 (L3 b))):a.Perm b:=by
 have:=h.map unE
 rwa [un_km,un_km]at this
theorem JH (a:List Hd) (p:Hd):K1 (L3 (a++[p]))=K1 (L3 a)++[(vS p.1,dS p.2)]:=by simp[K1,L3,vS]
theorem FX (a:List Hd):(K1 (L3 a)).length=a.length:=by simp[K1,L3]
abbrev hoS:List Hd->SV
 | []=>.d (.val (.slice none 0 0))
 | _::l=>.bs 62 (l.length+1) 55 2
abbrev hoB:List Hd->List (Nat×List SV)
 | []=>[]
 | a::l=>[(62,(AQ (a::l)).map fun u=>.d (.val u))]
theorem LA (l:List Hd) (p:Hd):AQ (l++[p])=AQ l++[vS p.1,vS p.2]:=by simp[AQ,U2]
theorem KU (l:List Hd):J4 2 l.length ((AQ l).map .val)=l.map dH:=by
 induction l with
 | nil=>rfl
 | cons x l ih=>
  show J4 2 (l.length+1) (dS x.1::dS x.2::(AQ l).map .val)=_
  rw[J4]
  show [dS x.1,dS x.2]::J4 2 l.length ((AQ l).map .val)=_
  rw[ih]
  rfl
theorem LF (us:List Value):P5 (us.map fun u=>SV.d (.val u))=some (us.map .val):=by
 induction us with
 | nil=>rfl
 | cons u us ih=>
  rw[List.map_cons,P5]
  simp only[ih,toD,Option.bind_some,Option.map_some,List.map_cons]
theorem GG (l:List Hd):(V3 l).length=l.length:=(CB l).1
def phH2 (xs:List DV) (r:SV):Prop:=∃ a b:Hd,xs=[.agg (dH a),.agg (dH b)]∧r=.d (dI (IM a b))
theorem wCmpH (a b:Hd):PCalls Tryz.prog 66 [.agg (dH a),.agg (dH b)] (.d (dI (IM a b))):=by
 obtain⟨x,m⟩:=a
 obtain⟨y,n⟩:=b
 obtain⟨t,ht⟩:=H1 (ltS x y)
 have hc:IM (x,m) (y,n)=if t then -1 else 1:=by rw[ht];rfl
 rw[hc]
 have t1:lt8 x y=t:=ht.symm
 cases t with
 | true=>
  refine L7 Tryz.func66 O Tryz.ntmps66 Tryz.results66 fun B w0=>?_
  refine B4 (yK (cs:=[_,_]) O O (yK (cs:=[_,_]) O O (C9 O (yQ (A5 (B4 (D8 O (D7 O O O (D8 O ?_)))))))));refine D7 O O O (yBsl O O (yQ (B6 ?_)));rw[t1];refine E0 O (B4 (C9 O (yQ (C4 (A8 ?_)))))
  exact J2 O O
 | false=>
  refine L7 Tryz.func66 O Tryz.ntmps66 Tryz.results66 fun B w0=>?_
  refine B4 (yK (cs:=[_,_]) O O (yK (cs:=[_,_]) O O (C9 O (yQ (A5 (B4 (D8 O (D7 O O O (D8 O ?_)))))))));refine D7 O O O (yBsl O O (yQ (B6 ?_)));rw[t1];refine B9 O (A7 (B4 (C9 O (yQ (C4 ?_)))))
  exact J2 O O
theorem hPhH2:∀ xs r,phH2 xs r->PCalls Tryz.prog 66 xs r:=by
 rintro _ _ ⟨a,b,rfl,rfl⟩
 exact wCmpH a b
theorem wSortH0:PCalls Tryz.prog 65 [.val (.slice none 0 0),dF Tryz.prog phH2] (.tup []):=fun F w vals hl hr hg=>by
 obtain⟨v,u,rfl⟩:∃ v u,vals=[v,u]:=by
  match vals,hl with
  | [v,u],_=>exact⟨v,u,O⟩
 obtain rfl:=DRep.val_eq (hr 0 v _ rfl rfl)
 refine(Go.Proofs.AnyF.slices_SortFunc_none (P:=Tryz.prog) (ρ:=Tryz.sortHld_ren) { Tryz.sortHld with } none 0 u w).mono ?_
 rintro e w' ⟨rfl,rfl⟩
 exact⟨.tuple #[],O,⟨[],O,O,fun i y x hy=>by simp at hy⟩,Below.refl _ _⟩
theorem Kr (hs:List Hd) (ms:List Mv) (hhs:hs.length<=1000) (hms:ms.length<=1000) (q1:∀ h∈hs,h.2.length<=1000) (q2:∀ m∈ms,m.2.2.2.1.length<=1000):PCalls Tryz.prog 37 [.sl 2 (hs.map dH),.sl 5 (ms.map dM)] (.d (.sl 2 ((Cp hs ms).map dH))):=by
 have hx1:=JN q1
 obtain⟨R,hR⟩:=H1 (Cp hs ms)
 rw[<-hR]
 have hfin:∀ o:List Hd,o.Perm ((Fs hs ms).filter S6)->V3 o=R:=fun o h=>by rw[hR];exact Jm h
 have hcnt:=EW hs ms
 have hMM:Fs hs ms=hd2 ms (AV hs hs.length) ms.length:=rfl
 rw[hMM]at hfin hcnt
 clear hMM hR
 refine FO Tryz.func37 O Tryz.ntmps37 Tryz.results37 (by simp) fun p d0 hex=>?_
 refine I5 (M6 (N8 (C9 O (yQ (J6 (I5 (M6 (N8 (yKm O ?_)))))))));refine yQ (N8 (yAm O (yQ (J6 (I5 (I5 (M6 (N8 (B1 O ?_)))))))));refine yQ (N8 (yN O (yQ (N8 (B1 O (yQ (J6 (R4 ?_))))))));refine Ld (fun i:Nat=>⟨66,[(1,.d (.sl 5 (ms.map dM))),(5,.mb 500013),(14,.d (.sl 2 (hs.map dH))),(15,.d (dI hs.length)),(16,.d (dI i))],[(500013,[.mc (K1 (L3 (AV hs i)))])],[]⟩) (fun _=>⟨[],[],none⟩) (fun i=>i<=hs.length) (fun i=>hs.length-i) 0 (D4 _) O
  ⟨rfl,⟨D2,D2,D2,Cs (by simp),D2,C8⟩,⟨⟨_,rfl,H3 rfl⟩,C8⟩,C8,rfl⟩ ?_
 intro i hi
 rcases G0 i hs.length with h|h
 . have u1:decide ((i:Int)<(hs.length:Int))=true:=C5 (by omega)
   obtain⟨⟨x0,x1⟩,hx⟩:∃ a,hs[i]? = some a:=⟨_,A4 h⟩
   have ex:=ix dH hs i i (x0,x1) rfl hx
   have hw:=H2 ((i:Int)+1) (by omega)
   have hq:=q1 _ (B2 hx)
   simp only at hq
   have hln:=hx1 i x0
   have hnx:=Gg hx
   simp only at hnx
   obtain⟨M,hM⟩:=H1 (AV hs i)
   rw[<-hM]at hnx hln ⊢
   have hg:=CI x0 M
   have c4:=Ky (G9 x0 M) x1 (by omega) (by omega)
   have hss:AE x0 (dS (G8 (val (G9 x0 M)+val x1))) (L3 M)=L3 (O6 x0 (Z7 (G9 x0 M) x1) M):=Da x0 (Z7 (G9 x0 M) x1) M
   obtain⟨v,hv⟩:=H1 (G9 x0 M)
   rw[<-hv]at hg c4 hss hnx
   obtain⟨M2,hM2⟩:=H1 (O6 x0 (Z7 v x1) M)
   rw[<-hM2]at hss hnx
   obtain⟨a2,ha2⟩:=H1 (G8 (val v+val x1))
   rw[<-ha2]at c4 hss
   clear ha2 hM2 hv hM hfin hcnt hx1
   refine I5 (M6 (N8 (yB O O O O (yQ (J6 (I5 ?_))))));rw[u1];refine DX O (Ak (I5 (R4 (I5 (M6 (N8 (yW ex (by omega) O O (yQ (N8 ?_)))))))));refine J9 (ys:=[_,_]) O O O (yQ (N8 (yZ (cs:=[_,_]) O O (yQ (N8 (yS (cs':=[_,_]) O O O O O (yQ (J6 ?_))))))));refine Iw fun B w0 hrl=>?_;refine G1 Tryz.mixed (by kernel_rfl) ?_;refine Ic O (D8 O (D7 O O O (Ic O (D8 O (D7 O O O (yKl (z:=dS []) O O O hg (D8 O (D7 O O O (yC (c4) O O ?_)))))))));refine yKu (z:=dS []) O O O O hss (yQ (M6 (N8 (yB O O O O (yQ (N8 (B1 O (yQ (J6 ?_)))))))));refine U8 ?_
   exact⟨i+1,by omega,by omega,⟨rfl,⟨D2,D2,D2,D2,L6 hw,C8⟩,⟨⟨_,rfl,H3 (by rw[hnx])⟩,C8⟩,C8,rfl⟩,rfl⟩
 have u1:decide ((i:Int)<(hs.length:Int))=false:=C3 (by omega)
 obtain rfl:i=hs.length:=by omega
 have hx2:=JM (ms:=ms) (M:=AV hs hs.length) (B:=1000+2*hs.length) (fun j=>hx1 hs.length j) (fun m hm=>by have:=q2 m hm;omega)
 obtain⟨M0,hM0⟩:=H1 (AV hs hs.length)
 rw[<-hM0]at hx2 hfin hcnt ⊢
 clear hM0 hx1
 refine I5 (M6 (N8 (yB O O O O (yQ (J6 (I5 ?_))))));rw[u1];refine Ix O (FI (I5 (I5 (M6 (N8 (B1 O (yQ (N8 (yN O ?_)))))))));refine yQ (N8 (B1 O (yQ (J6 (R4 ?_)))));refine Ld (fun i:Nat=>⟨66,[(5,.mb 500013),(31,.d (.sl 5 (ms.map dM))),(32,.d (dI ms.length)),(33,.d (dI i))],[(500013,[.mc (K1 (L3 (hd2 ms M0 i)))])],[]⟩) (fun _=>⟨[],[],none⟩) (fun i=>i<=ms.length) (fun i=>ms.length-i) 0 (D4 _) O
  ⟨rfl,⟨D2,D2,Cs (by simp),D2,C8⟩,⟨⟨_,rfl,H3 rfl⟩,C8⟩,C8,rfl⟩ ?_
 intro i hi
 rcases G0 i ms.length with h|h
 . have u1:decide ((i:Int)<(ms.length:Int))=true:=C5 (by omega)
   obtain⟨⟨m0,m1,x0,x1,m4⟩,hx⟩:∃ a,ms[i]? = some a:=⟨_,A4 h⟩
   have ex:=ix dM ms i i (m0,m1,x0,x1,m4) rfl hx
   have hw:=H2 ((i:Int)+1) (by omega)
   have hq:=q2 _ (B2 hx)
   simp only at hq
   have hln:=hx2 i x0
   have hnx:=Gf (M:=M0) hx
   simp only at hnx
   obtain⟨M,hM⟩:=H1 (hd2 ms M0 i)
   rw[<-hM]at hnx hln ⊢
   have hg:=CI x0 M
   have c4:=Ky (G9 x0 M) x1 (by omega) (by omega)
   have hss:AE x0 (dS (G8 (val (G9 x0 M)+val x1))) (L3 M)=L3 (O6 x0 (Z7 (G9 x0 M) x1) M):=Da x0 (Z7 (G9 x0 M) x1) M
   obtain⟨v,hv⟩:=H1 (G9 x0 M)
   rw[<-hv]at hg c4 hss hnx
   obtain⟨M2,hM2⟩:=H1 (O6 x0 (Z7 v x1) M)
   rw[<-hM2]at hss hnx
   obtain⟨a2,ha2⟩:=H1 (G8 (val v+val x1))
   rw[<-ha2]at c4 hss
   clear ha2 hM2 hv hM hfin hcnt hx2
   refine I5 (M6 (N8 (yB O O O O (yQ (J6 (I5 ?_))))));rw[u1];refine DX O (Ak (I5 (R4 (I5 (M6 (N8 (yW ex (by omega) O O (yQ (N8 ?_)))))))));refine J9 (ys:=[_,_,_,_,_]) O O O (yQ (N8 (yZ (cs:=[_,_,_,_,_]) O O (yQ (N8 (yS (cs':=[_,_,_,_,_]) O O O O O (yQ (J6 ?_))))))));refine Iw fun B w0 hrl=>?_;refine G1 Tryz.mixed (by kernel_rfl) ?_;refine Ic O (D8 O (D7 O O O (Ic O (D8 O (D7 O O O (yKl (z:=dS []) O O O hg (D8 O (D7 O O O (yC (c4) O O ?_)))))))));refine yKu (z:=dS []) O O O O hss (yQ (M6 (N8 (yB O O O O (yQ (N8 (B1 O (yQ (J6 ?_)))))))));refine U8 ?_
   exact⟨i+1,by omega,by omega,⟨rfl,⟨D2,D2,D2,L6 hw,C8⟩,⟨⟨_,rfl,H3 (by rw[hnx])⟩,C8⟩,C8,rfl⟩,rfl⟩
 have u1:decide ((i:Int)<(ms.length:Int))=false:=C3 (by omega)
 obtain rfl:i=ms.length:=by omega
 obtain⟨M,hM⟩:=H1 (hd2 ms M0 ms.length)
 rw[<-hM]at hfin hcnt ⊢
 clear hM hx2
 have hone:∀ q∈K1 (L3 M),q.1.oneCell'=true:=fun q hq=>by obtain⟨p,-,rfl⟩:=H5.1 hq;rfl
 have hmem:∀ (kk:Value) (v:DV),(kk,v)∈K1 (L3 M)->∃ p∈M,kk=vS p.1∧v=dS p.2:=fun kk v hq=>by
  obtain⟨p,hp,e⟩:=H5.1 hq
  obtain⟨q,hq2,rfl⟩:=H5.1 hp
  cases e
  exact⟨q,hq2,O,O⟩
 refine Iv (KL 5 500013 O O) ?_;refine I5 (M6 (N8 (yB O O O O (yQ (J6 (I5 ?_))))));rw[u1];refine Ix O (FI (I5 (M6 (N8 (C9 O (yQ (J6 (I5 (I5 ?_)))))))));refine M6 (N8 (B1 O (yQ ?_)));refine pl_rge O fun r=>?_;refine R4 ?_;refine Ld (fun dn:List Hd=>⟨66,[(49,.d (.val (.pointer (some ⟨r,0,none⟩)))),(10,hoS (dn.filter S6))],hoB (dn.filter S6),[]⟩) (fun dn=>⟨[],[],some (r,K1 (L3 M),K1 (L3 dn))⟩) (fun dn=>∃ rl,(K1 (L3 dn)++rl).Perm (K1 (L3 M))) (fun dn=>M.length-dn.length) [] ⟨_,List.Perm.refl _⟩ O
  ⟨rfl,⟨D2,D2,C8⟩,C8,C8,rfl⟩ ?_
 rintro dn ⟨rl0,hdn⟩
 have hle:=hdn.length_eq
 rw[D1,FX,FX]at hle
 have hfl:(dn.filter S6).length<=dn.length:=List.length_filter_le _ _
 refine I5 (M6 ?_);refine BU (pl_nxe O O (fun hp=>?_) (fun kk v rl hq hp hk1=>?_) hone);refine N8 (yX O O (yQ (J6 (I5 (Ix O (FI (I5 (M6 (N8 ?_)))))))))
 . have hf2:=hfin (dn.filter S6) ((km_perm hp).filter _)
   obtain⟨o,ho⟩:=H1 (dn.filter S6)
   rw[<-ho]at hf2 hfl ⊢
   clear hp ho hdn
   cases o with
   | nil=>
    have hR0:R=[]:=hf2.symm.trans (List.eq_nil_of_length_eq_zero (GG []))
    subst hR0
    refine B1 O (yQ (N8 ?_));refine yCf wSortH0 (.d O (.fn J5 O O (fun xs r h=>by rw[List.map_nil,List.append_nil];exact hPhH2 xs r h) .nil)) O ?_;refine yQ (J6 ?_);refine Lc fun B w0 hrl=>?_;refine B4 (B1 O (C9 O (yQ (C4 ?_))))
    exact LS _ (.tnil 2 O .nil) O
   | cons a0 l0=>
    obtain⟨A,hA⟩:=H1 (a0::l0)
    have hA0:A≠[]:=by rw[hA];simp
    have cs:=LM A hA0 (by rw[hA];omega)
    rw[<-hA]at hf2
    rw[hf2]at cs
    have hRl:R.length=l0.length+1:=by rw[<-hf2,GG,hA];rfl
    have w1:(AQ A).length=(l0.length+1)*2:=by rw[U7,hA];rfl
    have w3:((AQ R).map DV.val).length=(l0.length+1)*2:=by rw[D3,U7,hRl]
    have w4:J4 2 (l0.length+1) ((AQ R).map .val)=R.map dH:=by rw[<-hRl];exact KU R
    rw[show hoS (a0::l0)=.bs 62 (l0.length+1) 55 2 from rfl,show hoB (a0::l0)=[(62,(AQ (a0::l0)).map fun u=>.d (.val u))]from rfl,<-hA]
    clear hA hA0 hf2
    refine T7 O (yQ (N8 ?_));refine yRbF cs w1 O O (fun _=>O) ?_;refine yQ (J6 ?_);refine Iv (KK 10 62 (es:=R.map dH) (ds:=(AQ R).map .val) (n:=l0.length+1) w3 w4 (LF _) O O) ?_;refine I5 (M6 (N8 (B1 O (yQ (N8 (C9 O (yQ (J6 (px_ret ?_)))))))))
    exact LS _ (.tmp O .nil) O
 . obtain⟨p,hpM,rfl,rfl⟩:=hmem kk v hq
   have hlen:=hp.length_eq
   rw[D1,List.length_cons,FX,FX]at hlen
   have hp2:(K1 (L3 (dn++[p]))++rl).Perm (K1 (L3 M)):=by rw[JH,E8];exact hp
   have arith:M.length-(dn++[p]).length<M.length-dn.length:=by rw[D1];simp only[List.length_cons,List.length_nil];omega
   have hit:(⟨[],[],some (r,K1 (L3 M),K1 (L3 dn)++[(vS p.1,dS p.2)])⟩:EI)=⟨[],[],some (r,K1 (L3 M),K1 (L3 (dn++[p])))⟩:=by rw[JH]
   by_cases h0:p.2=[]
   . have t1:(!p.2==[])=false:=by simp[h0]
     have hkf:(dn++[p]).filter S6=dn.filter S6:=by rw[List.filter_append];simp[S6,h0]
     refine N8 (yX O O (yQ (J6 (I5 (DX O (Ak (R4 (I5 (M6 ?_)))))))));refine BU (Hq O (List.getLast?_concat ..) O O ?_);refine N8 (yX O O (yQ (N8 (yX O O (yQ (N8 (C9 O (yQ (N8 ?_)))))))));refine C9 O (yQ (J6 (I5 (M6 (N8 (B1 O (yQ (N8 (K6 O O ?_)))))))));refine yQ (J6 (U8 ?_));rw[t1]
     refine Ix O (Ak (Hm (U8 ?_)))
     refine⟨dn++[p],⟨rl,hp2⟩,arith,?_,hit⟩
     rw[hkf]
     cases dn.filter S6 with
     | nil=>exact⟨rfl,⟨D2,D2,C8⟩,C8,C8,O⟩
     | cons a o=>exact⟨rfl,⟨D2,D2,C8⟩,⟨⟨_,O,O8 _⟩,C8⟩,C8,by simp[PS.closed,SV.ok,F8,Nat.beq]⟩
   . have t1:(!p.2==[])=true:=by simp[h0]
     have hkf:(dn++[p]).filter S6=dn.filter S6++[p]:=by rw[List.filter_append];simp[S6,h0]
     obtain⟨o,ho⟩:=H1 (dn.filter S6)
     have hnx:∀ st:PS,Le st (⟨66,[(49,.d (.val (.pointer (some ⟨r,0,none⟩)))),(10,.bs 62 (o.length+1) 55 2)],[(62,(AQ (o++[p])).map fun u=>.d (.val u))],[]⟩)->Le st (⟨66,[(49,.d (.val (.pointer (some ⟨r,0,none⟩)))),(10,hoS ((dn++[p]).filter S6))],hoB ((dn++[p]).filter S6),[]⟩):=fun st=>by
      rw[hkf,<-ho]
      cases o with
      | nil=>exact id
      | cons a o=>
       have:(a::o++[p])=a::(o++[p]):=rfl
       rw[this]
       intro h
       show Le _ ⟨66,[(49,.d (.val (.pointer (some ⟨r,0,none⟩)))),(10,.bs 62 ((o++[p]).length+1) 55 2)],[(62,(AQ (a::(o++[p]))).map fun u=>.d (.val u))],[]⟩
       rw[show(o++[p]).length=(a::o).length by simp]
       exact h
     rw[<-ho]at hfl ⊢
     clear ho hkf
     cases o with
     | nil=>
      refine N8 (yX O O (yQ (J6 (I5 (DX O (Ak (R4 (I5 (M6 ?_)))))))));refine BU (Hq O (List.getLast?_concat ..) O O ?_);refine N8 (yX O O (yQ (N8 (yX O O (yQ (N8 (C9 O (yQ (N8 ?_)))))))));refine C9 O (yQ (J6 (I5 (M6 (N8 (B1 O (yQ (N8 (K6 O O ?_)))))))));refine yQ (J6 (U8 ?_));rw[t1]
      refine DX O (M6 (N8 (B1 O (yQ (N8 (B1 O (yQ (N8 (B1 O ?_)))))))));refine yQ (N8 (yG (ys:=[_,_]) O O (yQ (N8 ?_))));refine yR (es:=[[_,_]]) O O O O O ?_;refine yQ (N8 (yTn (vs:=[vS p.1,vS p.2]) (es:=[dH p]) (m:=1) (by omega) (by omega) (by omega) (by omega) O O O O O (yQ (N8 (En O (yQ (J6 (Hm (U8 ?_)))))))))
      exact⟨dn++[p],⟨rl,hp2⟩,arith,hnx _ ⟨rfl,⟨D2,D2,C8⟩,⟨⟨_,O,O8 _⟩,C8⟩,C8,by simp[PS.closed,SV.ok,F8,Nat.beq]⟩,hit⟩
     | cons a o=>
      obtain⟨A,hA⟩:=H1 (a::o)
      have hAl:o.length+1=A.length:=by rw[hA];rfl
      have hul:(AQ A).length=A.length*2:=U7 A
      rw[List.length_cons,hAl]at hfl
      rw[<-hA]at hnx
      rw[LA]at hnx
      rw[show hoS (a::o)=.bs 62 (o.length+1) 55 2 from rfl,show hoB (a::o)=[(62,(AQ (a::o)).map fun u=>.d (.val u))]from rfl,<-hA,hAl]
      clear hA
      refine N8 (yX O O (yQ (J6 (I5 (DX O (Ak (R4 (I5 (M6 ?_)))))))));refine BU (Hq O (List.getLast?_concat ..) O O ?_);refine N8 (yX O O (yQ (N8 (yX O O (yQ (N8 (C9 O (yQ (N8 ?_)))))))));refine C9 O (yQ (J6 (I5 (M6 (N8 (B1 O (yQ (N8 (K6 O O ?_)))))))));refine yQ (J6 (U8 ?_));rw[t1]
      refine DX O (M6 (N8 (T7 O (yQ (N8 (B1 O (yQ (N8 (B1 O ?_)))))))));refine yQ (N8 (yG (ys:=[_,_]) O O (yQ (N8 ?_))));refine yR (es:=[[_,_]]) O O O O O ?_;refine yQ (N8 (yTw (us:=AQ A) (vs:=[vS p.1,vS p.2]) (es:=[dH p]) (m:=1) (n:=A.length) (by omega) (by omega) (by omega) O O hul O O O (yQ (N8 (En O (yQ (J6 (Hm (U8 ?_)))))))))
      exact⟨dn++[p],⟨rl,hp2⟩,arith,hnx _ ⟨rfl,⟨D2,D2,C8⟩,⟨⟨_,O,O8 _⟩,C8⟩,C8,by simp[PS.closed,SV.ok,F8,Nat.beq]⟩,hit⟩
end Go.Proofs.YtdkpmnefoobipaaGreatDoor