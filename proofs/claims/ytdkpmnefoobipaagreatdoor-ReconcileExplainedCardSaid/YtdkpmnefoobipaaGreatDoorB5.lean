/- Walks: the checks of statements. -/
import Derived.Test.YtdkpmnefoobipaaGreatDoorB4
import Derived.Lib.AppendIntMem
set_option maxHeartbeats 16000000
set_option maxRecDepth 20000
namespace Go.Proofs.YtdkpmnefoobipaaGreatDoor
open Go.RowKit Px
variable {i n:Nat} {α:Type}
theorem Eo (s p:F4):PCalls Tryz.prog 196 [dS s,dS p] (.d (dS (if AH s p then s.drop p.length else s))):=by
 have c1:=CX s p
 refine L7 Tryz.func196 O Tryz.ntmps196 Tryz.results196 fun B w0=>?_
 cases h:AH s p with
 | false=>
  rw[h]at c1
  refine B4 (C9 O (yQ (A5 (B4 (B1 O (B1 O (yC (c1) O O (yQ (B9 O ?_)))))))));refine A7 (B4 (B1 O (C9 O (yQ (C4 ?_)))))
  exact J2 O O
 | true=>
  rw[h]at c1
  have hl:p.length<=s.length:=by simp[AH]at h;exact h.1
  refine B4 (C9 O (yQ (A5 (B4 (B1 O (B1 O (yC (c1) O O (yQ (E0 O ?_)))))))));refine B4 (B1 O (B1 O (P4 O ?_)));refine Ke (l':=s.drop p.length) (by omega) (by omega) (by simp) O O ?_;refine C9 O (yQ (C4 (A8 ?_)))
  exact J2 O O
theorem Fv (s p:F4):PCalls Tryz.prog 180 [dS s,dS p] (.d (dS (if AH s p then s.drop p.length else s))):=by
 have c1:=Eo s p
 refine L7 Tryz.func180 O Tryz.ntmps180 Tryz.results180 fun B w0=>?_
 refine B4 (C9 O (yQ (B4 (B1 O (B1 O (yC (c1) O O (C9 O (yQ (C4 ?_)))))))))
 exact J2 O O
theorem HY (a:F4):PCalls Tryz.prog 180 [dS a,dS [45]] (.d (dS (AM a))):=by
 have h:=Fv a [45]
 rw[show([45]:F4).length=1 from rfl,(BF a).2]at h
 exact h
theorem MU (a:F4):(AM a).length=ndig a:=by
 unfold AM ndig
 split
 . rw[List.length_tail]
 . rfl
theorem Ei {p:F4->Bool} {l:List F4} {x:F4} (hx:l[i]? = some x) (h:(l.take i).all p=true) (hp:p x=true):(l.take (i+1)).all p=true:=by
 rw[G7,hx,List.all_append,h];simp[hp]
theorem Mb {p:F4->Bool} {l:List F4} {x:F4} (hx:l[i]? = some x) (hp:p x=false):l.all p=false:=by
 rw[Bool.eq_false_iff]
 intro h
 rw[E7]at h
 have:=h x (B2 hx)
 rw[hp]at this
 cases this
theorem Ih (l:List F4) (hl:l.length<=1000) (hs:∀ a∈l,a.length<=1000000):PCalls Tryz.prog 142 [dCs l] (.d (dI (BZ l))):=by
 obtain⟨r,hr⟩:=H1 (BZ l)
 rw[<-hr]
 refine L7 Tryz.func142 O Tryz.ntmps142 Tryz.results142 fun B w0=>?_
 refine B4 (C9 O (yQ (A5 (B4 (B1 O (yN O (B1 O (yQ (A9 ?_)))))))));refine G6 (fun i:Nat=>⟨28,[(0,.d (dCs l)),(7,.d (dCs l)),(8,.d (dI l.length)),(9,.d (dI i))],[],[]⟩) (fun i=>i<=l.length∧(l.take i).all HV=true) (fun i=>l.length-i) 0 ⟨D4 _,O⟩ ⟨rfl,⟨.refl _,.refl _,Cs (by simp),.refl _,C8⟩,C8,C8,O⟩ ?_
 rintro i ⟨hi,hal⟩
 refine B4 (yB O O O O (yQ (A5 ?_)));refine H7 O (fun h=>?_) (fun h=>?_)
 . simp at h
   obtain⟨a,ha⟩:=Fr h
   have ei:=ix dC l i i a rfl ha
   have hla:=hs a (B2 ha)
   have hw:=H2 ((i:Int)+1) (by omega)
   have c1:=wCheck a (by omega)
   cases hc:HV a with
   | true=>
    rw[hc]at c1
    refine A7 (A5 (A9 (B4 (yW ei (by omega) O O (K7 O O (C9 O (yQ (B4 (B1 O ?_)))))))));refine yC (c1) O O (yB O O O O (yQ (B9 O (A7 (B3 (yB O O O O (B1 O (yQ (B6 ?_)))))))))
    refine⟨i+1,⟨by omega,Ei ha hal hc⟩,by omega,rfl,⟨.refl _,.refl _,.refl _,L6 hw,C8⟩,C8,C8,rfl⟩
   | false=>
    rw[hc]at c1
    have e:r=1:=by rw[hr,BZ,Mb ha hc];rfl
    rw[e]
    refine A7 (A5 (A9 (B4 (yW ei (by omega) O O (K7 O O (C9 O (yQ (B4 (B1 O ?_)))))))));refine yC (c1) O O (yB O O O O (yQ (E0 O (B4 (C9 O (yQ (C4 (C0 (A8 ?_)))))))));refine A8 (C0 (A8 ?_))
    exact J2 O O
 . simp at h
   have hall:l.all HV=true:=by rw[D9 (by omega)]at hal;exact hal
   have hr2:r=bif l.any (fun a=>decide (40<ndig a))then 4 else 0:=by rw[hr,BZ,hall];rfl
   refine F6 (A5 (B4 (B1 O (yN O (B1 O (yQ (A9 ?_)))))));refine G6 (fun i:Nat=>⟨28,[(17,.d (dCs l)),(18,.d (dI l.length)),(19,.d (dI i))],[],[]⟩) (fun i=>i<=l.length∧(l.take i).all (fun a=>!decide (40<ndig a))=true) (fun i=>l.length-i) 0 ⟨D4 _,O⟩ ⟨rfl,⟨.refl _,Cs (by simp),.refl _,C8⟩,C8,C8,O⟩ ?_
   rintro j ⟨hj,haj⟩
   refine B4 (yB O O O O (yQ (A5 ?_)));refine H7 O (fun h2=>?_) (fun h2=>?_)
   . simp at h2
     obtain⟨a,ha⟩:=Fr h2
     have ei:=ix dC l j j a rfl ha
     have hw:=H2 ((j:Int)+1) (by omega)
     have c1:=HY a
     have hb:=MU a
     obtain⟨b,hbb⟩:=H1 (AM a)
     rw[<-hbb]at c1 hb
     by_cases hg:40<ndig a
     . have t1:decide ((b.length:Int) > 40)=true:=C5 (by omega)
       have e:r=4:=by
        have:l.any (fun a=>decide (40<ndig a))=true:=List.any_eq_true.2 ⟨a,B2 ha,by simpa using hg⟩
        rw[hr2,this];rfl
       rw[e]
       refine A7 (A5 (A9 (B4 (yW ei (by omega) O O (K7 O O (C9 O (yQ (B4 (B1 O ?_)))))))));refine yC (c1) O O (P4 O (yB O O O O ?_));rw[t1];refine yQ (E0 O (B4 (C9 O (yQ (C4 (C0 (A8 (A8 (C0 ?_)))))))));refine A8 ?_
       exact J2 O O
     . have t1:decide ((b.length:Int) > 40)=false:=C3 (by omega)
       refine A7 (A5 (A9 (B4 (yW ei (by omega) O O (K7 O O (C9 O (yQ (B4 (B1 O ?_)))))))));refine yC (c1) O O (P4 O (yB O O O O ?_));rw[t1];refine yQ (B9 O (A7 (B3 (yB O O O O (B1 O (yQ (B6 ?_)))))))
       refine⟨j+1,⟨by omega,Ei ha haj (by simpa using by omega)⟩,by omega,rfl,⟨.refl _,.refl _,L6 hw,C8⟩,C8,C8,rfl⟩
   . simp at h2
     have e:r=0:=by
      rw[D9 (by omega)]at haj
      have:l.any (fun a=>decide (40<ndig a))=false:=by
       rw[E7]at haj
       rw[Bool.eq_false_iff]
       intro e
       obtain⟨a,h3,h4⟩:=List.any_eq_true.1 e
       have:=haj a h3
       rw[h4]at this
       cases this
      rw[hr2,this];rfl
     rw[e]
     refine F6 (B4 (C9 O (yQ (C4 ?_))))
     exact J2 O O
theorem CY (h:0<i) (hi:i<=1000):IntKind.i64.wrap ((i:Int)-1)=((i-1:Nat):Int):=by rw[H2 _ (by omega)];omega
theorem DJ (hs:List Hd) (hl:hs.length<=64) (ho:∀ h∈hs,okH h):PCalls Tryz.prog 99 [.sl 2 (hs.map dH)] (.d (dI (M8 (hE hs) hs.length))):=by
 obtain⟨r,hr⟩:=H1 (M8 (hE hs) hs.length)
 rw[<-hr]
 refine L7 Tryz.func99 O Tryz.ntmps99 Tryz.results99 fun B w0=>?_
 have t0:decide (((hs.map dH).length:Int) > 64)=false:=C3 (by simp;omega)
 refine B4 (C9 O (yQ (A5 (B4 (B1 O (yN O (yB O O O O ?_)))))));rw[t0];refine yQ (B9 O (A7 (A5 (B4 (B1 O (yN O (B1 O (yQ (A9 ?_)))))))));refine G6 (fun i:Nat=>⟨46,[(0,.d (.sl 2 (hs.map dH))),(9,.d (.sl 2 (hs.map dH))),(10,.d (dI hs.length)),(11,.d (dI i))],[],[]⟩) (fun i=>i<=hs.length∧M8 (hE hs) i=0) (fun i=>hs.length-i) 0 ⟨D4 _,O⟩ ⟨rfl,⟨.refl _,.refl _,Cs (by simp),.refl _,C8⟩,C8,C8,O⟩ ?_
 rintro i ⟨hi,h0⟩
 refine B4 (yB O O O O (yQ (A5 ?_)));refine H7 O (fun h=>?_) (fun h=>?_)
 . simp at h
   obtain⟨⟨x,y⟩,hx⟩:∃ a,hs[i]? = some a:=⟨_,A4 h⟩
   have ei:=ix dH hs i i (x,y) rfl hx
   obtain⟨k1,k2⟩:=ho (x,y) (B2 hx)
   simp only at k1 k2
   have hw:=H2 ((i:Int)+1) (by omega)
   have c1:=Ko x
   have c2:=Ih [y] (by simp) (fun a ha=>by rw[List.mem_singleton.1 ha];exact k2)
   have he:hE hs i=MO (if i=0 then none else (hs[i-1]?).map (·.1)) (x,y):=by unfold hE;rw[hx]
   have hat:hE hs i≠0->r=hE hs i:=fun e=>by rw[hr];exact DC h0 e _ h
   obtain⟨nb,hnb⟩:=H1 (O1 x)
   obtain⟨ne,hne⟩:=H1 (BZ [y])
   unfold MO at he
   simp only[<-hnb,<-hne]at he
   rw[<-hnb]at c1
   rw[<-hne]at c2
   cases nb with
   | false=>
    have e:r=23:=by
     have e1:hE hs i=23:=by rw[he];rfl
     rw[hat (by rw[e1];decide),e1]
    rw[e]
    refine A7 (A5 (A9 (B4 (B1 O (yW ei (by omega) O O (J9 (ys:=[_,_]) O O O (yZ (cs:=[_,_]) O O (C9 O (yS (cs':=[_,_]) O O O O O ?_)))))))));refine yQ (A5 (B4 (D8 O (D7 O O O (yC (c1) O O (yU O O O (yQ (E0 O (B4 ?_)))))))));refine C9 O (yQ (C4 (A8 (C0 (A8 (A8 (C0 (A8 ?_))))))))
    exact J2 O O
   | true=>
    by_cases hz:ne=0
    rotate_left
    . have t1:(ne != 0)=true:=by simpa using hz
      have t2:(ne==0)=false:=by simpa using hz
      have e:r=ne:=by
       have e1:hE hs i=ne:=by rw[he,t2];rfl
       rw[hat (by rw[e1];exact hz),e1]
      rw[e]
      refine A7 (A5 (A9 (B4 (B1 O (yW ei (by omega) O O (J9 (ys:=[_,_]) O O O (yZ (cs:=[_,_]) O O (C9 O (yS (cs':=[_,_]) O O O O O ?_)))))))));refine yQ (A5 (B4 (D8 O (D7 O O O (yC (c1) O O (yU O O O (yQ (B9 O (A7 ?_)))))))));refine A5 (B4 (D8 O (D7 O O O ?_)));refine yR (es:=[[_]]) O O O O O ?_;refine yC (c2) O O (C9 O (yQ (B4 (B1 O (yB O O O O ?_)))));rw[t1];refine yQ (E0 O (B4 (B1 O (C9 O (yQ (C4 (A8 (C0 (A8 ?_)))))))));refine A8 (C0 (A8 ?_))
      exact J2 O O
    subst hz
    have hyn:(y==([]:F4))=true∨(y==([]:F4))=false:=by cases (y==([]:F4))<;>simp
    rcases hyn with t2|t2
    . have e:r=2:=by
       have e1:hE hs i=2:=by rw[he,t2];rfl
       rw[hat (by rw[e1];decide),e1]
      rw[e]
      refine A7 (A5 (A9 (B4 (B1 O (yW ei (by omega) O O (J9 (ys:=[_,_]) O O O (yZ (cs:=[_,_]) O O (C9 O (yS (cs':=[_,_]) O O O O O ?_)))))))));refine yQ (A5 (B4 (D8 O (D7 O O O (yC (c1) O O (yU O O O (yQ (B9 O (A7 ?_)))))))));refine A5 (B4 (D8 O (D7 O O O ?_)));refine yR (es:=[[_]]) O O O O O ?_;refine yC (c2) O O (C9 O (yQ (B4 (B1 O (yB O O O O (yQ (B9 O (A7 (A9 ?_)))))))));refine B4 (D8 O (D7 O O O (L8 O O ?_)));rw[t2];refine C9 O (yQ (E0 O (B4 (C9 O (yQ (C4 (C0 (C0 (A8 ?_)))))))));refine A8 (C0 (A8 ?_))
      exact J2 O O
    rw[t2]at he
    by_cases hi0:i=0
    . subst hi0
      have e1:hE hs 0=0:=by rw[he];rfl
      refine A7 (A5 (A9 (B4 (B1 O (yW ei (by omega) O O (J9 (ys:=[_,_]) O O O (yZ (cs:=[_,_]) O O (C9 O (yS (cs':=[_,_]) O O O O O ?_)))))))));refine yQ (A5 (B4 (D8 O (D7 O O O (yC (c1) O O (yU O O O (yQ (B9 O (A7 ?_)))))))));refine A5 (B4 (D8 O (D7 O O O ?_)));refine yR (es:=[[_]]) O O O O O ?_;refine yC (c2) O O (C9 O (yQ (B4 (B1 O (yB O O O O (yQ (B9 O (A7 (A9 ?_)))))))));refine B4 (D8 O (D7 O O O (L8 O O ?_)));rw[t2];refine C9 O (yQ (B9 O (A5 ?_)));refine G1 Tryz.mixed (by kernel_rfl) ?_;refine B1 O (yB O O O O (B1 O (yO O (yO O (yO O (yO O (yO O (yO O (yO O ?_)))))))));refine yO O (yO O (I6 O O (C9 O (yQ (B9 O (A7 (B3 (yB O O O O (B1 O ?_)))))))));refine yQ (B6 ?_)
      refine⟨1,⟨by omega,P0 h0 e1⟩,by omega,rfl,⟨.refl _,.refl _,.refl _,L6 hw,C8⟩,C8,C8,rfl⟩
    have t3:decide ((i:Int) > 0)=true:=C5 (by omega)
    obtain⟨⟨px,py⟩,hp⟩:∃ a,hs[i-1]? = some a:=⟨_,A4 (by omega)⟩
    have ep:=ix dH hs _ (i-1) (px,py) (CY (by omega) (by omega)) hp
    rw[B8 hi0,hp]at he
    have hle:=leS_not x px
    obtain⟨lb,hlb⟩:=H1 (ltS px x)
    simp only[Option.map_some,<-hlb]at he
    rw[<-hlb]at hle
    have h0p:(0:Int)<=IntKind.i64.wrap ((i:Int)-1):=by rw[CY (by omega) (by omega)];omega
    cases lb with
    | true=>
     have e1:hE hs i=0:=by rw[he];rfl
     refine A7 (A5 (A9 (B4 (B1 O (yW ei (by omega) O O (J9 (ys:=[_,_]) O O O (yZ (cs:=[_,_]) O O (C9 O (yS (cs':=[_,_]) O O O O O ?_)))))))));refine yQ (A5 (B4 (D8 O (D7 O O O (yC (c1) O O (yU O O O (yQ (B9 O (A7 ?_)))))))));refine A5 (B4 (D8 O (D7 O O O ?_)));refine yR (es:=[[_]]) O O O O O ?_;refine yC (c2) O O (C9 O (yQ (B4 (B1 O (yB O O O O (yQ (B9 O (A7 (A9 ?_)))))))));refine B4 (D8 O (D7 O O O (L8 O O ?_)));rw[t2];refine C9 O (yQ (B9 O (A5 ?_)));refine G1 Tryz.mixed (by kernel_rfl) ?_;refine B1 O (yB O O O O ?_);rw[t3];refine B1 O (D8 O (D7 O O O (B1 O (B1 O (yB O O O O (yW ep h0p O O (Ie O O (K7 O O (yBsm O O ?_)))))))));rw[hle];refine J7 O O (C9 O (yQ (B9 O (A7 (B3 (yB O O O O (B1 O (yQ (B6 ?_)))))))))
     refine⟨i+1,⟨by omega,P0 h0 e1⟩,by omega,rfl,⟨.refl _,.refl _,.refl _,L6 hw,C8⟩,C8,C8,rfl⟩
    | false=>
     have e:r=8:=by
      have e1:hE hs i=8:=by rw[he];rfl
      rw[hat (by rw[e1];decide),e1]
     rw[e]
     refine A7 (A5 (A9 (B4 (B1 O (yW ei (by omega) O O (J9 (ys:=[_,_]) O O O (yZ (cs:=[_,_]) O O (C9 O (yS (cs':=[_,_]) O O O O O ?_)))))))));refine yQ (A5 (B4 (D8 O (D7 O O O (yC (c1) O O (yU O O O (yQ (B9 O (A7 ?_)))))))));refine A5 (B4 (D8 O (D7 O O O ?_)));refine yR (es:=[[_]]) O O O O O ?_;refine yC (c2) O O (C9 O (yQ (B4 (B1 O (yB O O O O (yQ (B9 O (A7 (A9 ?_)))))))));refine B4 (D8 O (D7 O O O (L8 O O ?_)));rw[t2];refine C9 O (yQ (B9 O (A5 ?_)));refine G1 Tryz.mixed (by kernel_rfl) ?_;refine B1 O (yB O O O O ?_);rw[t3];refine B1 O (D8 O (D7 O O O (B1 O (B1 O (yB O O O O (yW ep h0p O O (Ie O O (K7 O O (yBsm O O ?_)))))))));rw[hle];refine J7 O O (C9 O (yQ (E0 O (B4 (C9 O (yQ (C4 (C0 (C0 ?_)))))))));refine A8 (A8 (C0 (A8 ?_)))
     exact J2 O O
 . simp at h
   have e:r=0:=by rw[hr,show hs.length=i by omega];exact h0
   rw[e]
   refine F6 (B4 (C9 O (yQ (C4 ?_))))
   exact J2 O O
theorem wHeld (s:Stm) (hl:s.hs.length<=1000) (n:F4):PCalls Tryz.prog 51 [.agg (DF s),dS n] (.tup [dS ((hld n s.hs).getD []),dB (hld n s.hs).isSome]):=by
 obtain⟨d,hs,ms⟩:=s
 simp only at hl ⊢
 obtain⟨r,hr⟩:=H1 (hld n hs)
 rw[<-hr]
 refine L7 Tryz.func51 O Tryz.ntmps51 Tryz.results51 fun B w0=>?_
 refine B4 (yK (cs:=[_,_,_]) O O (C9 O (C9 O (yQ (A5 (B4 (D8 O (D7 O O O (yN O ?_)))))))));refine B1 O (yQ (A9 ?_));refine G6 (fun i:Nat=>⟨22,[(1,.d (dS n)),(9,.d (.sl 2 (hs.map dH))),(10,.d (dI hs.length)),(11,.d (dI i))],[],[]⟩) (fun i=>i<=hs.length∧hld n (hs.drop i)=r) (fun i=>hs.length-i) 0 ⟨D4 _,hr.symm⟩ ⟨rfl,⟨.refl _,.refl _,Cs (by simp),.refl _,C8⟩,C8,C8,O⟩ ?_
 rintro i ⟨hi,h0⟩
 refine B4 (yB O O O O (yQ (A5 ?_)));refine H7 O (fun h=>?_) (fun h=>?_)
 . simp at h
   obtain⟨⟨x,y⟩,hx⟩:∃ a,hs[i]? = some a:=⟨_,A4 h⟩
   have ei:=ix dH hs i i (x,y) rfl hx
   have hw:=H2 ((i:Int)+1) (by omega)
   rw[Ea hx]at h0
   unfold hld at h0
   simp only at h0
   cases t1:(x==n) with
   | true=>
    rw[t1,C2 rfl]at h0
    subst h0
    refine A7 (A5 (A9 (B4 (yW ei (by omega) O O (J9 (ys:=[_,_]) O O O (yZ (cs:=[_,_]) O O (yS (cs':=[_,_]) O O O O O (yQ (B4 ?_)))))))));refine D8 O (D7 O O O (B1 O (L8 O O (yQ (B6 ?_)))));rw[t1]
    refine E0 O (B4 (D8 O (D7 O O O (C9 O (C9 O (yQ (C4 (C0 (A8 ?_)))))))));refine A8 (C0 (A8 ?_))
    exact Cu O O O
   | false=>
    rw[t1,B8 (by simp)]at h0
    refine A7 (A5 (A9 (B4 (yW ei (by omega) O O (J9 (ys:=[_,_]) O O O (yZ (cs:=[_,_]) O O (yS (cs':=[_,_]) O O O O O (yQ (B4 ?_)))))))));refine D8 O (D7 O O O (B1 O (L8 O O (yQ (B6 ?_)))));rw[t1]
    refine B9 O (A7 (B3 (yB O O O O (B1 O (yQ (B6 ?_))))))
    refine⟨i+1,⟨by omega,h0⟩,by omega,rfl,⟨.refl _,.refl _,.refl _,L6 hw,C8⟩,C8,C8,rfl⟩
 . simp at h
   rw[List.drop_of_length_le (by omega)]at h0
   subst h0
   refine F6 (B4 (C9 O (C9 O (yQ (C4 ?_)))))
   exact Cu O O O
theorem Kx (m x:Mv) (hm:vD m.2.1=true) (hx:vD x.2.1=true):PCalls Tryz.prog 102 [.agg (dM m),.agg (dM x)] (.d (dI (IV m.2.1 x.2.1))):=by
 obtain⟨a,d,b,q,u⟩:=m
 obtain⟨a',d',b',q',u'⟩:=x
 simp only[vD,C6,decide_eq_true_eq]at hm hx ⊢
 have w1:=H2 (d-d') (by omega)
 have w2:=H2 (d'-d) (by omega)
 refine L7 Tryz.func102 O Tryz.ntmps102 Tryz.results102 fun B w0=>?_
 refine B4 (yK (cs:=[_,_,_,_,_]) O O (yK (cs:=[_,_,_,_,_]) O O (C9 O (yQ (B4 (D8 O (D7 O O O (D8 O (D7 O O O ?_)))))))));refine yB O O O O (D8 O (D7 O O O (D8 O (D7 O O O (yB O O O O (yI O O O (C9 O (yQ (C4 ?_)))))))));rw[w1];rw[w2]
 exact K9 _ (.tmp O .nil) (H4 (fun n=>SV.d (dI n)) (by unfold IV;split<;>omega))
def phF (tk:List Bool) (xs:List DV) (r:SV):Prop:=∃ k:Nat,k<tk.length∧xs=[dI k]∧r=.d (dB (!P6 tk k))
theorem tk_at {tk:List Bool} {k:Nat} (h:k<tk.length):(tk.map IK)[(k:Int).toNat]? = some (IK (P6 tk k)):=by
 rw[H6,B5]
 unfold P6
 rw[A4 h]
 rfl
theorem wFree (tk:List Bool) (k:Nat) (h:k<tk.length):PCalls Tryz.prog 69 [dI k,.ref [.sl 1 (tk.map IK)]] (.d (dB (!P6 tk k))):=by
 have ek:=tk_at h
 obtain⟨b,hb⟩:=H1 (P6 tk k)
 rw[<-hb]at ek ⊢
 refine L7 Tryz.func69 O Tryz.ntmps69 Tryz.results69 fun B w0=>?_
 refine LX 1 O ?_;refine B4 (C9 O (yQ (B4 (K7 O O (B1 O (yW ek (by omega) O O (K7 O O (yU O O O (C9 O ?_)))))))));refine yQ (C4 ?_)
 exact J2 O O
theorem GR (tk:List Bool):∀ xs r,phF tk xs r->PCalls Tryz.prog 69 (xs++[[DV.sl 1 (tk.map IK)]].map .ref) r:=by
 rintro xs r ⟨k,hk,rfl,rfl⟩
 exact wFree tk k hk
theorem wByRef (m:Mv) (l:List Mv) (tk:List Bool) (hl:l.length<=1000) (ht:l.length<=tk.length):PCalls Tryz.prog 70 [.agg (dM m),.sl 5 (l.map dM),dF Tryz.prog (phF tk)] (.d (dI (AU (fRf m tk l 0)))):=by
 obtain⟨a,d,b,q,u⟩:=m
 obtain⟨r,hr⟩:=H1 (fRf (a,d,b,q,u) tk l 0)
 rw[<-hr]
 refine L7 Tryz.func70 O Tryz.ntmps70 Tryz.results70 fun B w0=>?_
 refine B4 (yK (cs:=[_,_,_,_,_]) O O (C9 O (yQ (A5 (B4 (B1 O (yN O (B1 O (yQ ?_)))))))));refine A9 ?_;refine G6 (fun i:Nat=>⟨35,[(2,.d (dF Tryz.prog (phF tk))),(3,.bx 3 0),(9,.d (.sl 5 (l.map dM))),(10,.d (dI l.length)),(11,.d (dI i))],[(3,[.d (dS a),.d (dI d),.d (dS b),.d (dS q),.d (dS u)])],[]⟩) (fun i=>i<=l.length∧fRf (a,d,b,q,u) tk (l.drop i) i=r) (fun i=>l.length-i) 0 ⟨D4 _,hr.symm⟩ ⟨rfl,⟨.refl _,.refl _,.refl _,Cs (by simp),.refl _,C8⟩,⟨⟨_,O,.refl _,.refl _,.refl _,.refl _,.refl _,C8⟩,C8⟩,C8,O⟩ ?_
 rintro i ⟨hi,h0⟩
 refine B4 (yB O O O O (yQ (A5 ?_)));refine H7 O (fun h=>?_) (fun h=>?_)
 . simp at h
   obtain⟨⟨x,xd,y,z,v⟩,hx⟩:∃ a,l[i]? = some a:=⟨_,A4 h⟩
   have ei:=ix dM l i i (x,xd,y,z,v) rfl hx
   have hw:=H2 ((i:Int)+1) (by omega)
   rw[Ea hx]at h0
   unfold fRf at h0
   simp only at h0
   obtain⟨f,hf⟩:=H1 (!P6 tk i)
   rw[<-hf]at h0
   have hph:phF tk [dI i] (.d (dB f)):=⟨i,by omega,rfl,by rw[hf]⟩
   cases f with
   | false=>
    rw[B8 (by simp)]at h0
    refine A7 (A5 (A9 (B4 (B1 O (yW ei (by omega) O O (J9 (ys:=[_,_,_,_,_]) O O O (yZ (cs:=[_,_,_,_,_]) O O (C9 O (yS (cs':=[_,_,_,_,_]) O O O O O ?_)))))))));refine yQ (B4 (B1 O (B1 O (KZ hph O O O (B1 O (yO O (yO O (yO O (yO O ?_)))))))));refine yO O (I6 O O (B1 O (yO O (yO O (yO O (yO O (yO O (I6 O O (yQ ?_)))))))));refine B9 O (A7 (B3 (yB O O O O (B1 O (yQ (B6 ?_))))))
    refine⟨i+1,⟨by omega,h0⟩,by omega,rfl,⟨.refl _,.refl _,.refl _,.refl _,L6 hw,C8⟩,⟨⟨_,rfl,.refl _,.refl _,.refl _,.refl _,.refl _,C8⟩,C8⟩,C8,rfl⟩
   | true=>
    cases t1:(x==a) with
    | false=>
     rw[t1,B8 (by simp)]at h0
     refine A7 (A5 (A9 (B4 (B1 O (yW ei (by omega) O O (J9 (ys:=[_,_,_,_,_]) O O O (yZ (cs:=[_,_,_,_,_]) O O (C9 O (yS (cs':=[_,_,_,_,_]) O O O O O ?_)))))))));refine yQ (B4 (B1 O (B1 O (KZ hph O O O (B1 O (D8 O (D7 O O O (D8 O (D7 O O O ?_)))))))));refine L8 O O (J7 O O (B1 O ?_));rw[t1]
     refine yO O (yO O (yO O (yO O (yO O (I6 O O (yQ (B9 O (A7 (B3 ?_)))))))));refine yB O O O O (B1 O (yQ (B6 ?_)))
     refine⟨i+1,⟨by omega,h0⟩,by omega,rfl,⟨.refl _,.refl _,.refl _,.refl _,L6 hw,C8⟩,⟨⟨_,rfl,.refl _,.refl _,.refl _,.refl _,.refl _,C8⟩,C8⟩,C8,rfl⟩
    | true=>
     cases t2:(y==b) with
     | false=>
      rw[t1,t2,B8 (by simp)]at h0
      refine A7 (A5 (A9 (B4 (B1 O (yW ei (by omega) O O (J9 (ys:=[_,_,_,_,_]) O O O (yZ (cs:=[_,_,_,_,_]) O O (C9 O (yS (cs':=[_,_,_,_,_]) O O O O O ?_)))))))));refine yQ (B4 (B1 O (B1 O (KZ hph O O O (B1 O (D8 O (D7 O O O (D8 O (D7 O O O ?_)))))))));refine L8 O O (J7 O O (B1 O ?_));rw[t1]
      refine D8 O (D7 O O O (D8 O (D7 O O O (L8 O O (J7 O O (yQ (B6 ?_)))))));rw[t2];refine B9 O (A7 (B3 (yB O O O O (B1 O (yQ (B6 ?_))))))
      refine⟨i+1,⟨by omega,h0⟩,by omega,rfl,⟨.refl _,.refl _,.refl _,.refl _,L6 hw,C8⟩,⟨⟨_,rfl,.refl _,.refl _,.refl _,.refl _,.refl _,C8⟩,C8⟩,C8,rfl⟩
     | true=>
      rw[t1,t2,C2 (by simp)]at h0
      subst h0
      refine A7 (A5 (A9 (B4 (B1 O (yW ei (by omega) O O (J9 (ys:=[_,_,_,_,_]) O O O (yZ (cs:=[_,_,_,_,_]) O O (C9 O (yS (cs':=[_,_,_,_,_]) O O O O O ?_)))))))));refine yQ (B4 (B1 O (B1 O (KZ hph O O O (B1 O (D8 O (D7 O O O (D8 O (D7 O O O ?_)))))))));refine L8 O O (J7 O O (B1 O ?_));rw[t1]
      refine D8 O (D7 O O O (D8 O (D7 O O O (L8 O O (J7 O O (yQ (B6 ?_)))))));rw[t2];refine E0 O (B4 (B1 O (C9 O (yQ (C4 (C0 (A8 (A8 (C0 ?_)))))))));refine A8 ?_
      exact J2 O O
 . simp at h
   rw[List.drop_of_length_le (by omega)]at h0
   subst h0
   refine F6 (B4 (C9 O (yQ (C4 ?_))))
   exact J2 O O
theorem GB (days:Int) (m:Mv) (l:List Mv) (tk:List Bool) (hl:l.length<=1000) (ht:l.length<=tk.length) (hvm:vD m.2.1=true) (hvl:∀ x∈l,vD x.2.1=true):
 PCalls Tryz.prog 101 [.agg (dM m),.sl 5 (l.map dM),dF Tryz.prog (phF tk),.ref [dI days]] (.d (dI (AU (cB days m tk l l.length)))):=by
 obtain⟨a,d,b,q,u⟩:=m
 simp only at hvm
 obtain⟨r,hr⟩:=H1 (cB days (a,d,b,q,u) tk l l.length)
 rw[<-hr]
 refine L7 Tryz.func101 O Tryz.ntmps101 Tryz.results101 fun B w0=>?_
 refine LX 3 O ?_;refine B4 (yK (cs:=[_,_,_,_,_]) O O (C9 O (yQ (B4 (C9 O (yQ (A5 (B4 (B1 O ?_)))))))));refine yN O (B1 O (yQ (A9 ?_)));refine G6 (fun i:Nat=>⟨67,[(1,.d (.sl 5 (l.map dM))),(2,.d (dF Tryz.prog (phF tk))),(3,.rd [dI days]),(4,.bx 4 0),(8,.d (dI (AU (cB days (a,d,b,q,u) tk l i)))),(11,.d (.sl 5 (l.map dM))),(12,.d (dI l.length)),(13,.d (dI i))],[(4,[.d (dS a),.d (dI d),.d (dS b),.d (dS q),.d (dS u)])],[]⟩) (fun i=>i<=l.length) (fun i=>l.length-i) 0 (D4 _) ⟨rfl,⟨.refl _,.refl _,.refl _,.refl _,.refl _,.refl _,Cs (by simp),.refl _,C8⟩,⟨⟨_,O,.refl _,.refl _,.refl _,.refl _,.refl _,C8⟩,C8⟩,C8,O⟩ ?_
 intro i hi
 have hnext:∀ x,l[i]? = some x->cB days (a,d,b,q,u) tk l (i+1)=if !P6 tk i&&EQ days x (a,d,b,q,u)then (match cB days (a,d,b,q,u) tk l i with
       | none=>some i
       | some b'=>match l[b']? with
        | none=>some b'
        | some y=>if IV x.2.1 d<IV y.2.1 d then some i else some b')else cB days (a,d,b,q,u) tk l i:=fun x hx=>by rw[cB,hx];rfl
 have hlt:∀ b',cB days (a,d,b,q,u) tk l i=some b'->b'<i∧b'<l.length:=fun b' hb=>Jc hb
 have hend:l.length=i->cB days (a,d,b,q,u) tk l i=r:=fun e=>by rw[hr,e]
 obtain⟨nx,hnx⟩:=H1 (cB days (a,d,b,q,u) tk l (i+1))
 obtain⟨o,ho⟩:=H1 (cB days (a,d,b,q,u) tk l i)
 simp only[<-ho,<-hnx]at hnext hlt hend
 rw[<-ho]
 refine B4 (yB O O O O (yQ (A5 ?_)));refine H7 O (fun h=>?_) (fun h=>?_)
 . simp at h
   obtain⟨⟨x,xd,y,z,v⟩,hx⟩:∃ a,l[i]? = some a:=⟨_,A4 h⟩
   have ei:=ix dM l i i (x,xd,y,z,v) rfl hx
   have hw:=H2 ((i:Int)+1) (by omega)
   have hn:=hnext _ hx
   have hvx:=hvl _ (B2 hx)
   have hsc:EQ days (x,xd,y,z,v) (a,d,b,q,u)=(y==b&&(z==q&&(v==u&&decide (IV xd d<=days)))):=rfl
   rw[hsc]at hn
   simp only at hvx
   obtain⟨f,hf⟩:=H1 (!P6 tk i)
   have hph:phF tk [dI i] (.d (dB f)):=⟨i,by omega,rfl,by rw[hf]⟩
   rw[<-hf]at hn
   have c1:=Kx (x,xd,y,z,v) (a,d,b,q,u) hvx hvm
   simp only at c1
   cases f with
   | false=>
    have e:nx=o:=by rw[hn,B8 (by simp)]
    refine A7 (A5 (A9 (B4 (B1 O (yW ei (by omega) O O (J9 (ys:=[_,_,_,_,_]) O O O (yZ (cs:=[_,_,_,_,_]) O O (C9 O (yS (cs':=[_,_,_,_,_]) O O O O O ?_)))))))));refine yQ (A5 (A5 ?_));refine G1 Tryz.mixed (by kernel_rfl) ?_;refine B1 O (B1 O (KZ hph O O O (yU O O O (B1 O (yO O (yO O (yO O (yO O (yO O ?_)))))))));refine J7 O O (B1 O (yO O (yO O (yO O (yO O (yO O (J7 O O (B1 O (yO O ?_)))))))));refine yO O (yO O (yO O (yO O (J7 O O (B1 O (yO O (yO O (yO O (yO O ?_)))))))));refine yO O (J7 O O (yQ (E0 O (F6 (B3 (yB O O O O (B1 O (yQ (B6 ?_)))))))))
    refine⟨i+1,by omega,by omega,rfl,⟨.refl _,.refl _,.refl _,.refl _,.of_eq (by rw[<-hnx,e];rfl),.refl _,.refl _,L6 hw,C8⟩,⟨⟨_,rfl,.refl _,.refl _,.refl _,.refl _,.refl _,C8⟩,C8⟩,C8,rfl⟩
   | true=>
   cases t1:(y==b) with
   | false=>
    have e:nx=o:=by rw[hn,t1,B8 (by simp)]
    refine A7 (A5 (A9 (B4 (B1 O (yW ei (by omega) O O (J9 (ys:=[_,_,_,_,_]) O O O (yZ (cs:=[_,_,_,_,_]) O O (C9 O (yS (cs':=[_,_,_,_,_]) O O O O O ?_)))))))));refine yQ (A5 (A5 ?_));refine G1 Tryz.mixed (by kernel_rfl) ?_;refine B1 O (B1 O (KZ hph O O O (yU O O O (B1 O (D8 O (D7 O O O (D8 O (D7 O O O (K6 O O ?_)))))))));refine I6 O O (B1 O ?_);rw[t1];refine yO O (yO O (yO O (yO O (yO O (J7 O O (B1 O (yO O (yO O (yO O ?_)))))))));refine yO O (yO O (J7 O O (B1 O (yO O (yO O (yO O (yO O (yO O (J7 O O ?_)))))))));refine yQ (E0 O (F6 (B3 (yB O O O O (B1 O (yQ (B6 ?_)))))))
    refine⟨i+1,by omega,by omega,rfl,⟨.refl _,.refl _,.refl _,.refl _,.of_eq (by rw[<-hnx,e];rfl),.refl _,.refl _,L6 hw,C8⟩,⟨⟨_,rfl,.refl _,.refl _,.refl _,.refl _,.refl _,C8⟩,C8⟩,C8,rfl⟩
   | true=>
   cases t2:(z==q) with
   | false=>
    have e:nx=o:=by rw[hn,t1,t2,B8 (by simp)]
    refine A7 (A5 (A9 (B4 (B1 O (yW ei (by omega) O O (J9 (ys:=[_,_,_,_,_]) O O O (yZ (cs:=[_,_,_,_,_]) O O (C9 O (yS (cs':=[_,_,_,_,_]) O O O O O ?_)))))))));refine yQ (A5 (A5 ?_));refine G1 Tryz.mixed (by kernel_rfl) ?_;refine B1 O (B1 O (KZ hph O O O (yU O O O (B1 O (D8 O (D7 O O O (D8 O (D7 O O O (K6 O O ?_)))))))));refine I6 O O (B1 O ?_);rw[t1];refine D8 O (D7 O O O (D8 O (D7 O O O (K6 O O (I6 O O (B1 O ?_))))));rw[t2]
    refine yO O (yO O (yO O (yO O (yO O (J7 O O (B1 O (yO O (yO O (yO O ?_)))))))));refine yO O (yO O (J7 O O (yQ (E0 O (F6 (B3 (yB O O O O (B1 O (yQ ?_)))))))));refine B6 ?_
    refine⟨i+1,by omega,by omega,rfl,⟨.refl _,.refl _,.refl _,.refl _,.of_eq (by rw[<-hnx,e];rfl),.refl _,.refl _,L6 hw,C8⟩,⟨⟨_,rfl,.refl _,.refl _,.refl _,.refl _,.refl _,C8⟩,C8⟩,C8,rfl⟩
   | true=>
   cases t3:(v==u) with
   | false=>
    have e:nx=o:=by rw[hn,t1,t2,t3,B8 (by simp)]
    refine A7 (A5 (A9 (B4 (B1 O (yW ei (by omega) O O (J9 (ys:=[_,_,_,_,_]) O O O (yZ (cs:=[_,_,_,_,_]) O O (C9 O (yS (cs':=[_,_,_,_,_]) O O O O O ?_)))))))));refine yQ (A5 (A5 ?_));refine G1 Tryz.mixed (by kernel_rfl) ?_;refine B1 O (B1 O (KZ hph O O O (yU O O O (B1 O (D8 O (D7 O O O (D8 O (D7 O O O (K6 O O ?_)))))))));refine I6 O O (B1 O ?_);rw[t1];refine D8 O (D7 O O O (D8 O (D7 O O O (K6 O O (I6 O O (B1 O ?_))))));rw[t2]
    refine D8 O (D7 O O O (D8 O (D7 O O O (K6 O O (I6 O O (B1 O ?_))))));rw[t3];refine yO O (yO O (yO O (yO O (yO O (J7 O O (yQ (E0 O (F6 (B3 ?_)))))))));refine yB O O O O (B1 O (yQ (B6 ?_)))
    refine⟨i+1,by omega,by omega,rfl,⟨.refl _,.refl _,.refl _,.refl _,.of_eq (by rw[<-hnx,e];rfl),.refl _,.refl _,L6 hw,C8⟩,⟨⟨_,rfl,.refl _,.refl _,.refl _,.refl _,.refl _,C8⟩,C8⟩,C8,rfl⟩
   | true=>
   obtain⟨p,hp⟩:=H1 (IV xd d)
   rw[<-hp]at c1 hn
   by_cases h4:p<=days
   rotate_left
   . have t4:decide (p > days)=true:=C5 (by omega)
     have e:nx=o:=by rw[hn,t1,t2,t3,C3 h4,B8 (by simp)]
     refine A7 (A5 (A9 (B4 (B1 O (yW ei (by omega) O O (J9 (ys:=[_,_,_,_,_]) O O O (yZ (cs:=[_,_,_,_,_]) O O (C9 O (yS (cs':=[_,_,_,_,_]) O O O O O ?_)))))))));refine yQ (A5 (A5 ?_));refine G1 Tryz.mixed (by kernel_rfl) ?_;refine B1 O (B1 O (KZ hph O O O (yU O O O (B1 O (D8 O (D7 O O O (D8 O (D7 O O O (K6 O O ?_)))))))));refine I6 O O (B1 O ?_);rw[t1];refine D8 O (D7 O O O (D8 O (D7 O O O (K6 O O (I6 O O (B1 O ?_))))));rw[t2]
     refine D8 O (D7 O O O (D8 O (D7 O O O (K6 O O (I6 O O (B1 O ?_))))));rw[t3];refine J8 (ys:=[_,_,_,_,_]) O O O O (J8 (ys:=[_,_,_,_,_]) O O O O (yC (c1) O O (K7 O O (yB O O O O (I6 O O (yQ (B6 ?_)))))));rw[t4];refine E0 O (F6 (B3 (yB O O O O (B1 O (yQ (B6 ?_))))))
     refine⟨i+1,by omega,by omega,rfl,⟨.refl _,.refl _,.refl _,.refl _,.of_eq (by rw[<-hnx,e];rfl),.refl _,.refl _,L6 hw,C8⟩,⟨⟨_,rfl,.refl _,.refl _,.refl _,.refl _,.refl _,C8⟩,C8⟩,C8,rfl⟩
   have t4:decide (p > days)=false:=C3 (by omega)
   rw[t1,t2,t3,C5 h4,C2 (by simp)]at hn
   cases o with
   | none=>
    have e:nx=some i:=hn
    refine A7 (A5 (A9 (B4 (B1 O (yW ei (by omega) O O (J9 (ys:=[_,_,_,_,_]) O O O (yZ (cs:=[_,_,_,_,_]) O O (C9 O (yS (cs':=[_,_,_,_,_]) O O O O O ?_)))))))));refine yQ (A5 (A5 ?_));refine G1 Tryz.mixed (by kernel_rfl) ?_;refine B1 O (B1 O (KZ hph O O O (yU O O O (B1 O (D8 O (D7 O O O (D8 O (D7 O O O (K6 O O ?_)))))))));refine I6 O O (B1 O ?_);rw[t1];refine D8 O (D7 O O O (D8 O (D7 O O O (K6 O O (I6 O O (B1 O ?_))))));rw[t2]
    refine D8 O (D7 O O O (D8 O (D7 O O O (K6 O O (I6 O O (B1 O ?_))))));rw[t3];refine J8 (ys:=[_,_,_,_,_]) O O O O (J8 (ys:=[_,_,_,_,_]) O O O O (yC (c1) O O (K7 O O (yB O O O O (I6 O O (yQ (B6 ?_)))))));rw[t4];refine B9 O (A7 (A5 ?_));refine G1 Tryz.mixed (by kernel_rfl) ?_;refine B1 O (yB O O O O (B1 O (yO O (yO O (yO O (yO O (yO O (yO O (yO O ?_)))))))));refine yO O (yO O (yO O (J7 O O (yQ (E0 O (B3 (B1 O (C9 O (yQ ?_)))))))));refine B3 (yB O O O O (B1 O (yQ (B6 ?_))))
    refine⟨i+1,by omega,by omega,rfl,⟨.refl _,.refl _,.refl _,.refl _,.of_eq (by rw[<-hnx,e];rfl),.refl _,.refl _,L6 hw,C8⟩,⟨⟨_,rfl,.refl _,.refl _,.refl _,.refl _,.refl _,C8⟩,C8⟩,C8,rfl⟩
   | some c=>
    obtain⟨hc1,hc2⟩:=hlt c rfl
    obtain⟨⟨x2,xd2,y2,z2,v2⟩,hx2⟩:∃ a,l[c]? = some a:=⟨_,A4 hc2⟩
    have e2:=ix dM l c c (x2,xd2,y2,z2,v2) rfl hx2
    have hvx2:=hvl _ (B2 hx2)
    have c2:=Kx (x2,xd2,y2,z2,v2) (a,d,b,q,u) hvx2 hvm
    simp only[hx2]at hn c2
    obtain⟨p2,hp2⟩:=H1 (IV xd2 d)
    rw[<-hp2]at c2 hn
    have t5:decide (AU (some c)<0)=false:=C3 (by show ¬ ((c:Int)<0);omega)
    have h0c:(0:Int)<=AU (some c):=by show(0:Int)<=c;omega
    have e2':(l.map dM)[(AU (some c)).toNat]? = some (dM (x2,xd2,y2,z2,v2)):=e2
    by_cases h6:p<p2
    . have t6:decide (p<p2)=true:=C5 h6
      have e:nx=some i:=by rw[hn,C2 h6]
      refine A7 (A5 (A9 (B4 (B1 O (yW ei (by omega) O O (J9 (ys:=[_,_,_,_,_]) O O O (yZ (cs:=[_,_,_,_,_]) O O (C9 O (yS (cs':=[_,_,_,_,_]) O O O O O ?_)))))))));refine yQ (A5 (A5 ?_));refine G1 Tryz.mixed (by kernel_rfl) ?_;refine B1 O (B1 O (KZ hph O O O (yU O O O (B1 O (D8 O (D7 O O O (D8 O (D7 O O O (K6 O O ?_)))))))));refine I6 O O (B1 O ?_);rw[t1];refine D8 O (D7 O O O (D8 O (D7 O O O (K6 O O (I6 O O (B1 O ?_))))));rw[t2]
      refine D8 O (D7 O O O (D8 O (D7 O O O (K6 O O (I6 O O (B1 O ?_))))));rw[t3];refine J8 (ys:=[_,_,_,_,_]) O O O O (J8 (ys:=[_,_,_,_,_]) O O O O (yC (c1) O O (K7 O O (yB O O O O (I6 O O (yQ (B6 ?_)))))));rw[t4];refine B9 O (A7 (A5 ?_));refine G1 Tryz.mixed (by kernel_rfl) ?_;refine B1 O (yB O O O O (B1 O (J8 (ys:=[_,_,_,_,_]) O O O O (J8 (ys:=[_,_,_,_,_]) O O O O (yC (c1) O O (B1 O (B1 O (yW e2' h0c O O (J9 (ys:=[_,_,_,_,_]) O O O ?_)))))))));refine J8 (ys:=[_,_,_,_,_]) O O O O (yC c2 O O (yB O O O O (I6 O O (yQ (B6 ?_)))));rw[t5];rw[t6];refine E0 O (B3 (B1 O (C9 O (yQ (B3 (yB O O O O (B1 O (yQ (B6 ?_)))))))))
      refine⟨i+1,by omega,by omega,rfl,⟨.refl _,.refl _,.refl _,.refl _,.of_eq (by rw[<-hnx,e];rfl),.refl _,.refl _,L6 hw,C8⟩,⟨⟨_,rfl,.refl _,.refl _,.refl _,.refl _,.refl _,C8⟩,C8⟩,C8,rfl⟩
    . have t6:decide (p<p2)=false:=C3 h6
      have e:nx=some c:=by rw[hn,B8 h6]
      refine A7 (A5 (A9 (B4 (B1 O (yW ei (by omega) O O (J9 (ys:=[_,_,_,_,_]) O O O (yZ (cs:=[_,_,_,_,_]) O O (C9 O (yS (cs':=[_,_,_,_,_]) O O O O O ?_)))))))));refine yQ (A5 (A5 ?_));refine G1 Tryz.mixed (by kernel_rfl) ?_;refine B1 O (B1 O (KZ hph O O O (yU O O O (B1 O (D8 O (D7 O O O (D8 O (D7 O O O (K6 O O ?_)))))))));refine I6 O O (B1 O ?_);rw[t1];refine D8 O (D7 O O O (D8 O (D7 O O O (K6 O O (I6 O O (B1 O ?_))))));rw[t2]
      refine D8 O (D7 O O O (D8 O (D7 O O O (K6 O O (I6 O O (B1 O ?_))))));rw[t3];refine J8 (ys:=[_,_,_,_,_]) O O O O (J8 (ys:=[_,_,_,_,_]) O O O O (yC (c1) O O (K7 O O (yB O O O O (I6 O O (yQ (B6 ?_)))))));rw[t4];refine B9 O (A7 (A5 ?_));refine G1 Tryz.mixed (by kernel_rfl) ?_;refine B1 O (yB O O O O (B1 O (J8 (ys:=[_,_,_,_,_]) O O O O (J8 (ys:=[_,_,_,_,_]) O O O O (yC (c1) O O (B1 O (B1 O (yW e2' h0c O O (J9 (ys:=[_,_,_,_,_]) O O O ?_)))))))));refine J8 (ys:=[_,_,_,_,_]) O O O O (yC c2 O O (yB O O O O (I6 O O (yQ (B6 ?_)))));rw[t5];rw[t6];refine B9 O (A7 (B3 (yB O O O O (B1 O (yQ (B6 ?_))))))
      refine⟨i+1,by omega,by omega,rfl,⟨.refl _,.refl _,.refl _,.refl _,.of_eq (by rw[<-hnx,e];rfl),.refl _,.refl _,L6 hw,C8⟩,⟨⟨_,rfl,.refl _,.refl _,.refl _,.refl _,.refl _,C8⟩,C8⟩,C8,rfl⟩
 . simp at h
   have e:o=r:=hend (by omega)
   subst e
   refine F6 (B4 (B1 O (C9 O (yQ (C4 ?_)))))
   exact J2 O O
def phR (xs:List DV) (r:SV):Prop:=∃ m l tk,l.length<=1000∧l.length<=tk.length∧xs=[.agg (dM m),.sl 5 (l.map dM),dF Tryz.prog (phF tk)]∧r=.d (dI (AU (byR l m tk)))
def phC (days:Int) (xs:List DV) (r:SV):Prop:=∃ m l tk,l.length<=1000∧l.length<=tk.length∧vD m.2.1=true∧(∀ x∈l,vD x.2.1=true)∧xs=[.agg (dM m),.sl 5 (l.map dM),dF Tryz.prog (phF tk)]∧r=.d (dI (AU (byC days l m tk)))
theorem wPhR:∀ xs r,phR xs r->PCalls Tryz.prog 70 xs r:=by
 rintro xs r ⟨m,l,tk,h1,h2,rfl,rfl⟩
 exact wByRef m l tk h1 h2
theorem wPhC (days:Int):∀ xs r,phC days xs r->PCalls Tryz.prog 101 (xs++[.ref [dI days]]) r:=by
 rintro xs r ⟨m,l,tk,h1,h2,h3,h4,rfl,rfl⟩
 exact GB days m l tk h1 h2 h3 h4
theorem Hh (days:Int):PCalls Tryz.prog 71 [dI days] (.d (dF Tryz.prog (phC days))):=by
 refine L7 Tryz.func71 O Tryz.ntmps71 Tryz.results71 fun B w0=>?_
 refine B4 (yK (cs:=[_]) O O (C9 O (yQ (B4 (yCm O (yAf O (yQ ?_)))))));refine pw_fn1 2 1 (phC days) (wPhC days) O O O ?_;refine C4 ?_
 exact J2 O O
abbrev Br:=Int×F4×F4×F4
abbrev Kc (x:Br):List DV:=[dI x.1,dS x.2.1,dS x.2.2.1,dS x.2.2.2]
theorem Hi (l:List Br) (x:Br) (hl:l.length<=100000):Md Tryz.prog 44 [.bx 10 0,.d (dI x.1),.d (dS x.2.1),.d (dS x.2.2.1),.d (dS x.2.2.2)] [(10,[.ts (41*100000+10) 4 (l.map Kc)])] [(41*100000+10,(l.map Kc).length)] (.tup []) [(10,[.ts (41*100000+10) 4 ((l++[x]).map Kc)])] [(41*100000+10,((l++[x]).map Kc).length)]:=by
 obtain⟨c,n,o,t⟩:=x
 refine Q3 Tryz.func44 O Tryz.ntmps44 Tryz.results44 (by simp) fun B w0=>?_
 refine B3 (yMb O (yMb O (yNil O (D8 O (yLt O O O (B1 O (B1 O (B1 O (B1 O ?_)))))))));refine yG (ys:=[_,_,_,_]) O O ?_;refine yR (es:=[[_,_,_,_]]) O O O O O ?_;refine yT (es':=(l++[(c,n,o,t)]).map Kc) (m:=((l++[(c,n,o,t)]).map Kc).length) (by simp;omega) (by simp;omega) O O O O O (by simp) (by simp) ?_;refine yNil O (D8 O (ySt (cs':=[_]) O O O O (yQ ?_)))
 exact q_x [] .nil O ⟨rfl,C8⟩ ⟨rfl,C8⟩
theorem U6 (l:List Br) (x:Br) (hl:l.length<=100000):Md Tryz.prog 44 [.bx 9 0,.d (dI x.1),.d (dS x.2.1),.d (dS x.2.2.1),.d (dS x.2.2.2)] [(9,[.ts (41*100000+9) 4 (l.map Kc)])] [(41*100000+9,(l.map Kc).length)] (.tup []) [(9,[.ts (41*100000+9) 4 ((l++[x]).map Kc)])] [(41*100000+9,((l++[x]).map Kc).length)]:=by
 obtain⟨c,n,o,t⟩:=x
 refine Q3 Tryz.func44 O Tryz.ntmps44 Tryz.results44 (by simp) fun B w0=>?_
 refine B3 (yMb O (yMb O (yNil O (D8 O (yLt O O O (B1 O (B1 O (B1 O (B1 O ?_)))))))));refine yG (ys:=[_,_,_,_]) O O ?_;refine yR (es:=[[_,_,_,_]]) O O O O O ?_;refine yT (es':=(l++[(c,n,o,t)]).map Kc) (m:=((l++[(c,n,o,t)]).map Kc).length) (by simp;omega) (by simp;omega) O O O O O (by simp) (by simp) ?_;refine yNil O (D8 O (ySt (cs':=[_]) O O O O (yQ ?_)))
 exact q_x [] .nil O ⟨rfl,C8⟩ ⟨rfl,C8⟩
abbrev pc (l:List (Option Nat)):List SV:=l.map fun o=>SV.d (dI (AU o))
abbrev tc (l:List Bool):List SV:=l.map fun b=>SV.d (dB b)
abbrev zc (l:List Int):List SV:=l.map fun z=>SV.d (dI z)
theorem H3 {l l':List SV} (h:l=l'):Hw l l':=h ▸ O8 l
theorem Aa (f:α->DV) (l:List α):P5 (l.map fun a=>SV.d (f a))=some (l.map f):=by
 induction l with
 | nil=>rfl
 | cons x l ih=>simp[P5,toD,ih]
theorem MA (i:Nat) (f:α->DV) (l:List α):(l.map fun a=>SV.d (f a)).map (SV.kill i)=l.map fun a=>SV.d (f a):=by
 rw[List.map_map];rfl
theorem T6 (f:α->DV) (l:List α):J4 1 l.length (l.map f)=l.map fun a=>[f a]:=by
 induction l with
 | nil=>rfl
 | cons x l ih=>simp[J4,ih]
def ini (n i:Nat):List Int:=List.replicate i (-1)++List.replicate (n-i) 0
theorem ini_set (h:i<n):(zc (ini n i)).set ((i:Int).toNat*1) (.d (.val (.int .i64 (-1))))=zc (ini n (i+1)):=by
 unfold zc ini
 have e:List.replicate (n-i) (0:Int)=0::List.replicate (n-(i+1)) 0:=by
  rw[show n-i=(n-(i+1))+1 by omega];rfl
 rw[e,H6,Nat.mul_one,List.map_append,List.map_replicate,List.map_cons,List.set_append_right _ _ (by simp)]
 simp[List.replicate_succ',E8]
theorem pc_at {l:List (Option Nat)} (h:i<l.length):(pc l)[(i:Int).toNat*1]? = some (.d (dI (AU (l[i]?.getD none)))):=by
 rw[H6,Nat.mul_one,B5,A4 h];rfl
theorem pc_set (l:List (Option Nat)) (i k:Nat):(pc l).set ((i:Int).toNat*1) (.d (.val (.int .i64 (AU (some k)))))=pc (l.set i (some k)):=by
 rw[H6,Nat.mul_one];simp[pc]
theorem tc_set (l:List Bool) (k:Nat):(tc l).set ((AU (some k)).toNat*1) (.d (.val (.bool true)))=tc (l.set k true):=by
 show(tc l).set ((k:Int).toNat*1) _=_
 rw[H6,Nat.mul_one];simp[tc]
def ptS (days:Int) (ms ts:List Mv):Nat->PT
 | 0=>Hn ms ts
 | 1=>pt1 ms ts
 | _=>AR days ms ts
theorem Km (s t:Stm) (days:Int) (hms:s.ms.length<=1000) (hts:t.ms.length<=1000) (hv1:∀ m∈s.ms,vD m.2.1=true) (hv2:∀ m∈t.ms,vD m.2.1=true):
 PCalls Tryz.prog 41 [.agg (DF s),.agg (DF t),dI days] (.tup [dIs ((AR days s.ms t.ms).1.map AU),.sl 1 ((AR days s.ms t.ms).2.map IK)]):=by
 obtain⟨d1,hs1,ms⟩:=s
 obtain⟨d2,hs2,ts⟩:=t
 simp only at hms hts hv1 hv2 ⊢
 have c1:=Hh days
 have hm0:((ms.map dM).length:Int)=(ms.length:Int):=by simp
 have ht0:((ts.map dM).length:Int)=(ts.length:Int):=by simp
 refine L7 Tryz.func41 O Tryz.ntmps41 Tryz.results41 fun B w0=>?_
 refine B4 (yK (cs:=[_,_,_]) O O (yK (cs:=[_,_,_]) O O (C9 O (C9 O (yQ (A5 ?_))))));refine G1 Tryz.mixed (by kernel_rfl) ?_;refine D8 O (D7 O O O (yN O ?_));refine yMk (by omega) (Int.le_refl _) (by simp;omega) (by simp;omega) O O O ?_;refine D8 O (D7 O O O (yN O ?_));refine yMk (by omega) (Int.le_refl _) (by simp;omega) (by simp;omega) O O O ?_;refine yZ (cs:=[_]) O O (En O (ySw (cs':=[_]) O O O O (yQ (A5 (B4 (T7 O (yNb O (B1 O (yQ ?_)))))))));refine A9 ?_;refine G6 (fun i:Nat=>⟨75,[(2,.d (dI days)),(3,.bx 3 0),(4,.bx 4 0),(8,.bs 21 ms.length 3 1),(9,.bx 9 0),(27,.d (dI ms.length)),(28,.d (dI i))],[(3,[.d (dI d1),.d (.sl 2 (hs1.map dH)),.d (.sl 5 (ms.map dM))]),(4,[.d (dI d2),.d (.sl 2 (hs2.map dH)),.d (.sl 5 (ts.map dM))]),(9,[.bs 25 ts.length 4 1]),(21,zc (ini ms.length i)),(25,tc (List.replicate ts.length false))],[]⟩) (fun i=>i<=ms.length) (fun i=>ms.length-i) 0 (D4 _)
  ⟨rfl,⟨.refl _,.refl _,.refl _,.of_eq (H4 (fun n=>SV.bs 21 n 3 1) (by simp)),.refl _,Cs (by simp),.refl _,C8⟩,⟨⟨_,rfl,.refl _,.refl _,.refl _,C8⟩,⟨_,rfl,.refl _,.refl _,.refl _,C8⟩,⟨_,rfl,.of_eq (H4 (fun n=>SV.bs 25 n 4 1) (by simp)),C8⟩,⟨_,rfl,H3 (by simp[zc,ini])⟩,⟨_,rfl,H3 (by simp[tc])⟩,C8⟩,C8,by simp[PS.closed,SV.ok,F8,Nat.beq]⟩ ?_
 intro i hi
 refine B4 (yB O O O O (yQ (A5 ?_)));refine H7 O (fun h=>?_) (fun h=>?_)
 . simp at h
   have hw:=H2 ((i:Int)+1) (by omega)
   have hset:=ini_set h
   refine A7 (A5 (A9 (B4 (B1 O (C9 O (yQ (B3 (T7 O (B1 O ?_)))))))));refine U4 (by omega) (by omega) O O O ?_;refine EK O O O hset ?_ (by show Nat.ble _ _=true;simp[ini];omega);refine yQ (B3 (yB O O O O (B1 O (yQ (B6 ?_)))))
   refine⟨i+1,by omega,by omega,rfl,⟨.refl _,.refl _,.refl _,.refl _,.refl _,.refl _,L6 hw,C8⟩,⟨⟨_,rfl,.refl _,.refl _,.refl _,C8⟩,⟨_,rfl,.refl _,.refl _,.refl _,C8⟩,⟨_,rfl,.refl _,C8⟩,⟨_,rfl,O8 _⟩,⟨_,rfl,O8 _⟩,C8⟩,C8,by simp[PS.closed,SV.ok,F8,Nat.beq]⟩
 simp at h
 obtain rfl:i=ms.length:=by omega
 refine F6 (B4 (yCm O (yAf O (yQ (B4 (B1 O (yC (c1) O O ?_)))))));refine yGf (qs:=[(0,[dF Tryz.prog phR]),(1,[dF Tryz.prog (phC days)])]) (.fn J5 wPhR O (.d O .nil)) O ?_;refine yZ (cs:=[_,_]) O O (yS (cs':=[_,_]) O O O O O (yQ (A5 (B4 (J8 (ys:=[_,_]) O O O O (B1 O (yQ (A9 ?_))))))));refine G6 (fun r:Nat=>⟨75,[(3,.bx 3 0),(4,.bx 4 0),(8,.bs 21 ms.length 3 1),(9,.bx 9 0),(11,.fn 69 [9]),(39,.d (.agg [dF Tryz.prog phR,dF Tryz.prog (phC days)])),(40,.d (dI r))],[(3,[.d (dI d1),.d (.sl 2 (hs1.map dH)),.d (.sl 5 (ms.map dM))]),(4,[.d (dI d2),.d (.sl 2 (hs2.map dH)),.d (.sl 5 (ts.map dM))]),(9,[.bs 25 ts.length 4 1]),(21,pc (ptS days ms ts r).1),(25,tc (ptS days ms ts r).2)],[]⟩) (fun r=>r<=2) (fun r=>2-r) 0 (by omega)
  ⟨rfl,⟨.refl _,.refl _,.refl _,.refl _,.refl _,.refl _,.refl _,C8⟩,⟨⟨_,rfl,.refl _,.refl _,.refl _,C8⟩,⟨_,rfl,.refl _,.refl _,.refl _,C8⟩,⟨_,rfl,.refl _,C8⟩,⟨_,rfl,H3 (by simp[zc,ini,pc,ptS,Hn,AU])⟩,⟨_,rfl,H3 (by simp[tc,ptS,Hn])⟩,C8⟩,C8,by simp[PS.closed,SV.ok,F8,Nat.beq]⟩ ?_
 intro r hr
 refine B4 (yB O O O O (yQ (A5 ?_)));refine H7 O (fun h=>?_) (fun h=>?_)
 . simp at h
   have hwr:=H2 ((r:Int)+1) (by omega)
   obtain⟨φ,f,s0,k1,k2,k3,k4,k5⟩:∃ (φ:List DV->SV->Prop) (f:Mv->List Bool->Option Nat) (s0:PT),[dF Tryz.prog phR,dF Tryz.prog (phC days)][(r:Int).toNat]? = some (dF Tryz.prog φ)∧ptS days ms ts r=s0∧ptS days ms ts (r+1)=S5 f ms s0 ms.length∧(s0.1.length=ms.length∧s0.2.length=ts.length) ∧
    ((∀ m tk k,f m tk=some k->k<ts.length) ∧ ∀ m tk,vD m.2.1=true->tk.length=ts.length->φ [.agg (dM m),.sl 5 (ts.map dM),dF Tryz.prog (phF tk)] (.d (dI (AU (f m tk))))):=by
    have hr2:r=0∨r=1:=by omega
    rcases hr2 with rfl|rfl
    . refine⟨phR,byR ts,Hn ms ts,O,O,O,by simp[Hn],fun m tk k hk=>?_,fun m tk _ hl=>⟨m,ts,tk,hts,by omega,rfl,rfl⟩⟩
      have:=Fk hk
      omega
    . refine⟨phC days,byC days ts,pt1 ms ts,O,O,O,BT ms ts,fun m tk k hk=>(Jc hk).2,fun m tk hvm hl=>⟨m,ts,tk,hts,by omega,hvm,hv2,rfl,rfl⟩⟩
   rw[k2]
   refine A7 (A5 (A9 (B4 (yIa (by omega) (by omega) k1 O O (C9 O (yQ (B4 (D8 O (D7 O O O ?_)))))))));refine yN O (B1 O (yQ (A9 ?_)));refine G6 (fun i:Nat=>⟨75,[(3,.bx 3 0),(4,.bx 4 0),(8,.bs 21 ms.length 3 1),(9,.bx 9 0),(11,.fn 69 [9]),(14,.d (dF Tryz.prog φ)),(39,.d (.agg [dF Tryz.prog phR,dF Tryz.prog (phC days)])),(40,.d (dI r)),(44,.d (.sl 5 (ms.map dM))),(45,.d (dI ms.length)),(46,.d (dI i))],[(3,[.d (dI d1),.d (.sl 2 (hs1.map dH)),.d (.sl 5 (ms.map dM))]),(4,[.d (dI d2),.d (.sl 2 (hs2.map dH)),.d (.sl 5 (ts.map dM))]),(9,[.bs 25 ts.length 4 1]),(21,pc (S5 f ms s0 i).1),(25,tc (S5 f ms s0 i).2)],[]⟩) (fun i=>i<=ms.length) (fun i=>ms.length-i) 0 (D4 _)
    ⟨rfl,⟨.refl _,.refl _,.refl _,.refl _,.refl _,.refl _,.refl _,.refl _,.refl _,Cs (by simp),.refl _,C8⟩,⟨⟨_,rfl,.refl _,.refl _,.refl _,C8⟩,⟨_,rfl,.refl _,.refl _,.refl _,C8⟩,⟨_,rfl,.refl _,C8⟩,⟨_,rfl,O8 _⟩,⟨_,rfl,O8 _⟩,C8⟩,C8,by simp[PS.closed,SV.ok,F8,Nat.beq]⟩ ?_
   intro i hi
   have hlen:=BP f ms s0 i
   rw[k4.1,k4.2]at hlen
   have hnext:∀ m,ms[i]? = some m->S5 f ms s0 (i+1)=if ((S5 f ms s0 i).1[i]?.getD none).isSome then S5 f ms s0 i else match f m (S5 f ms s0 i).2 with
    | none=>S5 f ms s0 i
    | some k=>((S5 f ms s0 i).1.set i (some k),(S5 f ms s0 i).2.set k true):=fun m hm=>by rw[S5,hm];rfl
   have hend:i=ms.length->ptS days ms ts (r+1)=S5 f ms s0 i:=fun e=>by rw[k3,e]
   obtain⟨nx,hnx⟩:=H1 (S5 f ms s0 (i+1))
   obtain⟨⟨pl,tk⟩,hcur⟩:=H1 (S5 f ms s0 i)
   simp only[<-hcur,<-hnx]at hnext hlen hend
   rw[<-hcur]
   simp only
   refine B4 (yB O O O O (yQ (A5 ?_)));refine H7 O (fun h2=>?_) (fun h2=>?_)
   . simp at h2
     obtain⟨⟨x,xd,y,z,v⟩,hx⟩:∃ a,ms[i]? = some a:=⟨_,A4 h2⟩
     have ei:=ix dM ms i i (x,xd,y,z,v) rfl hx
     have hw:=H2 ((i:Int)+1) (by omega)
     have hn:=hnext _ hx
     have hpa:=pc_at (l:=pl) (i:=i) (by omega)
     obtain⟨o,ho⟩:=H1 (pl[i]?.getD none)
     rw[<-ho]at hn hpa
     cases o with
     | some k=>
      have e:nx=(pl,tk):=hn
      have t1:decide (AU (some k) ≥ 0)=true:=C5 (by show(k:Int) ≥ 0;omega)
      refine A7 (A5 (A9 (B4 (B1 O (yW ei (by omega) O O (J9 (ys:=[_,_,_,_,_]) O O O (yZ (cs:=[_,_,_,_,_]) O O (C9 O (yS (cs':=[_,_,_,_,_]) O O O O O ?_)))))))));refine yQ (A5 (B4 (T7 O (B1 O (U4 (by omega) (by omega) O O O (D7 O O hpa (yB O O O O (yQ (E0 O ?_)))))))));refine F6 (B3 (yB O O O O (B1 O (yQ (B6 ?_)))));rw[t1]
      refine⟨i+1,by omega,by omega,rfl,⟨.refl _,.refl _,.refl _,.refl _,.refl _,.refl _,.refl _,.refl _,.refl _,.refl _,L6 hw,C8⟩,⟨⟨_,rfl,.refl _,.refl _,.refl _,C8⟩,⟨_,rfl,.refl _,.refl _,.refl _,C8⟩,⟨_,rfl,.refl _,C8⟩,⟨_,rfl,H3 (by rw[<-hnx,e])⟩,⟨_,rfl,H3 (by rw[<-hnx,e])⟩,C8⟩,C8,by simp[PS.closed,SV.ok,F8,Nat.beq]⟩
     | none=>
      have hφ:=k5.2 (x,xd,y,z,v) tk (hv1 _ (B2 hx)) hlen.2
      have hkl:=k5.1 (x,xd,y,z,v) tk
      have hn2:nx=match f (x,xd,y,z,v) tk with
       | none=>(pl,tk)
       | some k=>(pl.set i (some k),tk.set k true):=hn
      obtain⟨o2,ho2⟩:=H1 (f (x,xd,y,z,v) tk)
      rw[<-ho2]at hφ hkl hn2
      cases o2 with
      | none=>
       have e:nx=(pl,tk):=hn2
       refine A7 (A5 (A9 (B4 (B1 O (yW ei (by omega) O O (J9 (ys:=[_,_,_,_,_]) O O O (yZ (cs:=[_,_,_,_,_]) O O (C9 O (yS (cs':=[_,_,_,_,_]) O O O O O ?_)))))))));refine yQ (A5 (B4 (T7 O (B1 O (U4 (by omega) (by omega) O O O (D7 O O hpa (yB O O O O (yQ (B9 O ?_)))))))));refine A7 (B4 (B1 O (J8 (ys:=[_,_,_,_,_]) O O O O (D8 O (D7 O O O (yMf O ?_))))));refine yCgv hφ O (.d (.d O) (.d (.d O) (.fn J5 (.cons (by omega) O (.cons (.bs (by omega) O (Aa _ _) (by simp[hlen.2]) (by rw[<-hlen.2];exact T6 _ _)) .nil) .nil) (GR tk) .nil))) O ?_;refine C9 O (yQ (B4 (B1 O (yB O O O O (yQ (B9 O (A7 (B3 (yB O O O O ?_)))))))));refine B1 O (yQ (B6 ?_))
       refine⟨i+1,by omega,by omega,rfl,⟨.refl _,.refl _,.refl _,.refl _,.refl _,.refl _,.refl _,.refl _,.refl _,.refl _,L6 hw,C8⟩,⟨⟨_,rfl,.refl _,.refl _,.refl _,C8⟩,⟨_,rfl,.refl _,.refl _,.refl _,C8⟩,⟨_,rfl,.refl _,C8⟩,⟨_,rfl,H3 (by rw[<-hnx,e])⟩,⟨_,rfl,H3 (by rw[<-hnx,e])⟩,C8⟩,C8,by simp[PS.closed,SV.ok,F8,Nat.beq]⟩
      | some k=>
       have e:nx=(pl.set i (some k),tk.set k true):=hn2
       have hk:=hkl k rfl
       have t2:decide (AU (some k) ≥ 0)=true:=C5 (by show(k:Int) ≥ 0;omega)
       have hs1':=pc_set pl i k
       have hs2':=tc_set tk k
       refine A7 (A5 (A9 (B4 (B1 O (yW ei (by omega) O O (J9 (ys:=[_,_,_,_,_]) O O O (yZ (cs:=[_,_,_,_,_]) O O (C9 O (yS (cs':=[_,_,_,_,_]) O O O O O ?_)))))))));refine yQ (A5 (B4 (T7 O (B1 O (U4 (by omega) (by omega) O O O (D7 O O hpa (yB O O O O (yQ (B9 O ?_)))))))));refine A7 (B4 (B1 O (J8 (ys:=[_,_,_,_,_]) O O O O (D8 O (D7 O O O (yMf O ?_))))));refine yCgv hφ O (.d (.d O) (.d (.d O) (.fn J5 (.cons (by omega) O (.cons (.bs (by omega) O (Aa _ _) (by simp[hlen.2]) (by rw[<-hlen.2];exact T6 _ _)) .nil) .nil) (GR tk) .nil))) O ?_;refine C9 O (yQ (B4 (B1 O (yB O O O O (yQ (E0 O ?_))))));refine T8 (id:=18) Tryz.mixed (by kernel_rfl) ?_;refine T7 O (B1 O (yLw O O O (B1 O (B1 O (U4 (by omega) (by omega) O O O ?_)))));refine EK O O O hs1' ?_ (by show Nat.ble _ _=true;simp;omega)
       refine U4 (by show(0:Int)<=k;omega) (by show(k:Int)<_;omega) rfl rfl rfl ?_;refine EK O O O hs2' ?_ (by show Nat.ble _ _=true;simp[AU];omega);refine yQ ?_;refine Px.Sep.mk (by kernel_rfl) ?_;refine B3 (yB O O O O (B1 O (yQ (B6 ?_))));rw[t2]
       refine⟨i+1,by omega,by omega,rfl,⟨.refl _,.refl _,.refl _,.refl _,.refl _,.refl _,.refl _,.refl _,.refl _,.refl _,L6 hw,C8⟩,⟨⟨_,rfl,.refl _,.refl _,.refl _,C8⟩,⟨_,rfl,.refl _,.refl _,.refl _,C8⟩,⟨_,rfl,.refl _,C8⟩,⟨_,rfl,H3 (by rw[<-hnx,e])⟩,⟨_,rfl,H3 (by rw[<-hnx,e])⟩,C8⟩,C8,by simp[PS.closed,SV.ok,F8,Nat.beq]⟩
   . simp at h2
     have e:=hend (by omega)
     refine F6 (B3 (yB O O O O (B1 O (yQ (B6 ?_)))))
     refine⟨r+1,by omega,by omega,rfl,⟨.refl _,.refl _,.refl _,.refl _,.refl _,.refl _,L6 hwr,C8⟩,⟨⟨_,rfl,.refl _,.refl _,.refl _,C8⟩,⟨_,rfl,.refl _,.refl _,.refl _,C8⟩,⟨_,rfl,.refl _,C8⟩,⟨_,rfl,H3 (by rw[e])⟩,⟨_,rfl,H3 (by rw[e])⟩,C8⟩,C8,by simp[PS.closed,SV.ok,F8,Nat.beq]⟩
 . simp at h
   obtain rfl:r=2:=by omega
   have hl:=Cv days ms ts
   have e2:ptS days ms ts 2=AR days ms ts:=rfl
   rw[e2]
   obtain⟨⟨pl,tk⟩,hp⟩:=H1 (AR days ms ts)
   rw[<-hp]at hl ⊢
   simp only at hl ⊢
   refine F6 (A5 ?_);refine G1 Tryz.mixed (by kernel_rfl) ?_;refine T7 O (yLw O O O (En O (En O (yQ ?_))));refine Ag 6 21 (ds:=pl.map fun o=>dI (AU o)) (es:=(pl.map AU).map dZ) (by simp[hl.1]) (by rw[<-hl.1,T6];simp) (Aa _ _) rfl rfl ?_;refine Ag 7 25 (ds:=tk.map fun b=>dB b) (es:=tk.map IK) (by simp[hl.2]) (by rw[<-hl.2];exact T6 _ _) (by show P5 ((tc tk).map (SV.kill 21))=_;rw[MA];exact Aa _ _) O O ?_;refine C4 ?_
   exact Cu O O O
abbrev u64T:Nat:=130
abbrev vG (l:List Nat):List Value:=l.map fun x:Nat=>Value.int .u64 (x:Int)
abbrev cG (l:List Nat):List SV:=(vG l).map fun u=>SV.d (.val u)
theorem Bo {p q:List Nat} {a:Nat} (h:p.length=i):(cG (p++a::q))[((i:Int)).toNat*1]? = some (.d (dU a)):=by
 subst h
 simp[cG,vG]
theorem P3 {p q:List Nat} {a:Nat} (v:Nat) (h:p.length=i):(cG (p++a::q)).set (((i:Int)).toNat*1) (.d (dU v))=cG (p++v::q):=by
 subst h
 simp[cG,vG]
theorem V1 {p q:List Nat} {a:Nat} (h:p.length=i):Nat.blt (((i:Int)).toNat*1) (cG (p++a::q)).length=true:=by
 refine Nat.ble_eq_true_of_le ?_
 simp[cG,vG]
 omega
theorem Ja (l:List Nat):((l.map dU).take (l.length:Int).toNat).map SV.d=cG l:=by
 rw[D9 (by simp),cG,vG,List.map_map,List.map_map]
 rfl
theorem Aj (l:List Nat):P5 (cG l)=some (l.map dU):=by
 rw[cG,Aa (fun u=>DV.val u) (vG l),vG,List.map_map]
 rfl
theorem R8 (l:List Nat) (h:l.length=n):J4 1 n (l.map dU)=l.map dG:=by
 subst h
 exact T6 dU l
theorem Bz (h:n<18446744073709551616):IntKind.u64.wrap (n:Int)=(n:Int):=by
 rw[IntKind.wrap_u64]
 omega
theorem Ek (A B:List Nat) (i:Nat):M5 A B (i+1)=((M5 A B i).1++[(R7 A i+(M5 A B i).2+R7 B i) % 1000000000],(R7 A i+(M5 A B i).2+R7 B i) / 1000000000):=rfl
theorem wPlus (m n:List Nat) (hgm:gok m) (hgn:gok n) (hlm:m.length<=1000000) (hln:n.length<=1000000):PCalls Tryz.prog 83 [.sl 1 (m.map dG),.sl 1 (n.map dG)] (.d (.sl 1 ((Z1 m n).map dG))):=by
 obtain⟨r,hr⟩:=H1 (Z1 m n)
 rw[<-hr]
 by_cases hlt:m.length<n.length
 . have hl:m.length<=n.length:=by omega
   have hr2:r=(M5 n m n.length).1++(if 0<(M5 n m n.length).2 then [(M5 n m n.length).2]else []):=by
    rw[hr,Hp,Z1,Nat.max_eq_left hl]
   have u0:decide (((m.map dG).length:Int)<((n.map dG).length:Int))=true:=by simp;omega
   have hw0:IntKind.i64.wrap (((n.map dG).length:Int)+1)=(n.length:Int)+1:=by rw[D3,H2 _ (by omega)]
   have hle0:((n.map dG).length:Int)=(n.length:Int):=by simp
   clear hr
   refine L7 Tryz.func83 O Tryz.ntmps83 Tryz.results83 fun B w0=>?_
   refine B4 (C9 O (yQ (A5 (B4 (B1 O (yN O (B1 O (yN O (yB O O O O ?_)))))))));refine yQ (B6 ?_);rw[u0];refine E0 O (B3 (B1 O (B1 O (C9 O (C9 O (yQ (B4 (B1 O (yN O ?_)))))))));refine B1 O (yN O (yB O O O O ?_));rw[hw0]
   refine yMk (n:=(n.length:Int)) (c:=(n.length:Int)+1) (by omega) (by omega) (by omega) (by omega) (H4 (fun k:Int=>SV.d (dI k)) hle0) O O ?_;refine En O (yQ (B4 (T7 O (B1 O ?_))));refine yCp (ds:=n.map dU) (by rw[List.map_map];rfl) (by simp) (by omega) rfl rfl (by simp) rfl ?_;refine yQ (B4 (C9 O (yQ (A5 (B4 (T7 O (yNb O (B1 O (yQ ?_)))))))));refine A9 ?_;refine G6 (fun i:Nat=>⟨69,[(1,.d (.sl 1 (m.map dG))),(5,.bs 20 n.length u64T 1),(6,.d (dU (M5 n m i).2)),(25,.d (dI n.length)),(26,.d (dI i))],[(20,cG ((M5 n m i).1++n.drop i))],[]⟩) (fun i=>i<=n.length) (fun i=>n.length-i) 0 (D4 _)
    ⟨rfl,⟨.refl _,.refl _,.refl _,.refl _,.refl _,C8⟩,⟨⟨_,rfl,H3 (Ja n)⟩,C8⟩,C8,by simp[PS.closed,SV.ok,F8,Nat.beq,-List.map_take,-List.map_set,-List.map_append,-List.map_drop]⟩ ?_
   intro i hi
   obtain⟨h1,h2,h3,-⟩:=As hgn hgm i
   have hnx:=Ek n m i
   obtain⟨⟨p,c⟩,hp⟩:=H1 (M5 n m i)
   rw[<-hp]at h1 h2 h3 hnx ⊢
   simp only at h1 h2 h3 hnx ⊢
   rcases G0 i n.length with hi2|hi2
   . have t1:decide ((i:Int)<(n.length:Int))=true:=C5 (by omega)
     obtain⟨a,ha⟩:=Fr hi2
     have hga:=T3 ha
     have ha9:a<1000000000:=hgn a (B2 ha)
     have hdr:n.drop i=a::n.drop (i+1):=by
      obtain⟨q1,q2⟩:=A6.1 ha
      rw[L1 q1,q2]
     obtain⟨q,hq⟩:=H1 (n.drop (i+1))
     rw[hdr,<-hq]
     rw[hga]at hnx
     have hat:=Bo (q:=q) (a:=a) h1
     have hs1:=P3 (q:=q) (a:=a) (a+c) h1
     have hl1:=V1 (q:=q) (a:=a) h1
     have w1:IntKind.u64.wrap ((a:Int)+(c:Int))=((a+c:Nat):Int):=by rw[<-Int.natCast_add];exact Bz (by omega)
     have hat2:=Bo (q:=q) (a:=a+c) h1
     have hwi:=H2 ((i:Int)+1) (by omega)
     rcases G0 i m.length with hj|hj
     . have t2:decide ((i:Int)<((m.map dG).length:Int))=true:=C5 (by rw[D3];omega)
       obtain⟨b,hb⟩:=Fr hj
       have hb9:b<1000000000:=hgm b (B2 hb)
       have eb:=ix dG m (i:Int) i b rfl hb
       have hgb:=T3 hb
       rw[hgb]at hnx
       have w2:IntKind.u64.wrap (((a+c:Nat):Int)+(b:Int))=((a+c+b:Nat):Int):=by rw[<-Int.natCast_add];exact Bz (by omega)
       have hs2:=P3 (q:=q) (a:=a+c) (a+c+b) h1
       have hl2:=V1 (q:=q) (a:=a+c) h1
       have hat3:=Bo (q:=q) (a:=a+c+b) h1
       have hs3:=P3 (q:=q) (a:=a+c+b) ((a+c+b) % 1000000000) h1
       have hl3:=V1 (q:=q) (a:=a+c+b) h1
       have wq:IntKind.u64.wrap (((a+c+b:Nat):Int).tdiv 1000000000)=(((a+c+b) / 1000000000:Nat):Int):=Bz (n:=(a+c+b) / 1000000000) (by omega)
       refine B4 (yB O O O O (yQ (A5 ?_)));rw[t1];refine E0 O (A7 (A5 (A9 (B4 (B1 O (C9 O (yQ (B4 (T7 O ?_)))))))));refine B1 O (U4 (by omega) (by omega) O O O (D7 O O hat (B1 O (yB O O O O (U4 (by omega) (by omega) O O O ?_)))));rw[w1];refine EK O O O hs1 ?_ hl1;refine yQ (A5 (B4 (B1 O (B1 O (yN O (yB O O O O (yQ (B6 ?_))))))));rw[t2];refine E0 O ?_;refine G1 Tryz.mixed (by kernel_rfl) ?_;refine T7 O (B1 O (U4 (by omega) (by omega) O O O (D7 O O hat2 (B1 O (B1 O (yW eb (by omega) O O (K7 O O (yB O O O O (U4 (by omega) (by omega) O O O ?_)))))))));rw[w2];refine EK O O O hs2 ?_ hl2;refine yQ (B4 (T7 O (B1 O (U4 (by omega) (by omega) O O O (D7 O O hat3 (yB O O O O (C9 O (yQ (B3 ?_)))))))));refine T7 O (B1 O (U4 (by omega) (by omega) O O O (D7 O O hat3 (yB O O O O (U4 (by omega) (by omega) O O O ?_)))));refine EK O O O hs3 ?_ hl3;refine yQ (B3 (yB O O O O (B1 O (yQ (B6 ?_)))))
       rw[wq]
       refine⟨i+1,by omega,by omega,rfl,⟨.refl _,.refl _,.of_eq (by rw[hnx];rfl),.refl _,L6 hwi,C8⟩,⟨⟨_,rfl,H3 (by rw[hnx,<-hq,E8];rfl)⟩,C8⟩,C8,by simp[PS.closed,SV.ok,F8,Nat.beq,-List.map_take,-List.map_set,-List.map_append,-List.map_drop]⟩
     . have t2:decide ((i:Int)<((m.map dG).length:Int))=false:=C3 (by rw[D3];omega)
       rw[Fh hj,Nat.add_zero]at hnx
       have hs3:=P3 (q:=q) (a:=a+c) ((a+c) % 1000000000) h1
       have hl3:=V1 (q:=q) (a:=a+c) h1
       have wq:IntKind.u64.wrap (((a+c:Nat):Int).tdiv 1000000000)=(((a+c) / 1000000000:Nat):Int):=Bz (n:=(a+c) / 1000000000) (by omega)
       refine B4 (yB O O O O (yQ (A5 ?_)));rw[t1];refine E0 O (A7 (A5 (A9 (B4 (B1 O (C9 O (yQ (B4 (T7 O ?_)))))))));refine B1 O (U4 (by omega) (by omega) O O O (D7 O O hat (B1 O (yB O O O O (U4 (by omega) (by omega) O O O ?_)))));rw[w1];refine EK O O O hs1 ?_ hl1;refine yQ (A5 (B4 (B1 O (B1 O (yN O (yB O O O O (yQ (B6 ?_))))))));rw[t2];refine B9 O (A7 (B4 (T7 O (B1 O (U4 (by omega) (by omega) O O O (D7 O O hat2 (yB O O O O (C9 O (yQ ?_)))))))));refine B3 (T7 O (B1 O (U4 (by omega) (by omega) O O O (D7 O O hat2 (yB O O O O (U4 (by omega) (by omega) O O O ?_))))));refine EK O O O hs3 ?_ hl3;refine yQ (B3 (yB O O O O (B1 O (yQ (B6 ?_)))));rw[wq]
       refine⟨i+1,by omega,by omega,rfl,⟨.refl _,.refl _,.of_eq (by rw[hnx];rfl),.refl _,L6 hwi,C8⟩,⟨⟨_,rfl,H3 (by rw[hnx,<-hq,E8];rfl)⟩,C8⟩,C8,by simp[PS.closed,SV.ok,F8,Nat.beq,-List.map_take,-List.map_set,-List.map_append,-List.map_drop]⟩
   . have t1:decide ((i:Int)<(n.length:Int))=false:=C3 (by omega)
     obtain rfl:i=n.length:=by omega
     rw[<-hp]at hr2
     simp only at hr2
     rw[List.drop_length,List.append_nil]
     rcases F7 c with hc|hc
     . subst hc
       rw[B8 (by omega),List.append_nil]at hr2
       subst hr2
       refine B4 (yB O O O O (yQ (A5 ?_)));rw[t1];refine B9 O (F6 (A5 (B4 (B1 O (yB O O O O (yQ (B9 O (A7 (B4 ?_)))))))));refine T7 O (En O (yQ ?_));refine Ag 4 20 (es:=r.map dG) (ds:=r.map dU) (by simp;omega) (R8 r h1) (Aj _) O O ?_;refine C4 ?_
       exact J2 O O
     . have t3:decide ((c:Int) > 0)=true:=C5 (by omega)
       rw[C2 hc]at hr2
       have hrl:r.length=n.length+1:=by rw[hr2];simp;omega
       have hrc:(vG p++[Value.int .u64 (c:Int)]).map (fun u=>SV.d (.val u))=cG r:=by rw[hr2];simp[cG,vG]
       refine B4 (yB O O O O (yQ (A5 ?_)));rw[t1];refine B9 O (F6 (A5 (B4 (B1 O (yB O O O O (yQ (B6 ?_)))))));rw[t3];refine E0 O (B3 (T7 O (B1 O ?_)));refine yR (es:=[[_]]) O O O O O ?_;refine yTw (us:=vG p) (vs:=[Value.int .u64 (c:Int)]) (m:=1) (n:=n.length) (by omega) (by omega) (by omega) O O (by simp;omega) O O O ?_;refine En O (yQ (B4 (T7 O (En O (yQ ?_)))));refine Ag 4 20 (es:=r.map dG) (ds:=r.map dU) (by simp;omega) (R8 r hrl) (by rw[hrc];exact Aj _) O O ?_;refine C4 ?_
       exact J2 O O
 . have hl:n.length<=m.length:=by omega
   have hr2:r=(M5 m n m.length).1++(if 0<(M5 m n m.length).2 then [(M5 m n m.length).2]else []):=by
    rw[hr,Z1,Nat.max_eq_left hl]
   have u0:decide (((m.map dG).length:Int)<((n.map dG).length:Int))=false:=by simp;omega
   have hw0:IntKind.i64.wrap (((m.map dG).length:Int)+1)=(m.length:Int)+1:=by rw[D3,H2 _ (by omega)]
   have hle0:((m.map dG).length:Int)=(m.length:Int):=by simp
   clear hr
   refine L7 Tryz.func83 O Tryz.ntmps83 Tryz.results83 fun B w0=>?_
   refine B4 (C9 O (yQ (A5 (B4 (B1 O (yN O (B1 O (yN O (yB O O O O ?_)))))))));refine yQ (B6 ?_);rw[u0];refine B9 O (A7 (B4 (B1 O (yN O (B1 O (yN O (yB O O O O ?_)))))));rw[hw0]
   refine yMk (n:=(m.length:Int)) (c:=(m.length:Int)+1) (by omega) (by omega) (by omega) (by omega) (H4 (fun k:Int=>SV.d (dI k)) hle0) O O ?_;refine En O (yQ (B4 (T7 O (B1 O ?_))));refine yCp (ds:=m.map dU) (by rw[List.map_map];rfl) (by simp) (by omega) rfl rfl (by simp) rfl ?_;refine yQ (B4 (C9 O (yQ (A5 (B4 (T7 O (yNb O (B1 O (yQ ?_)))))))));refine A9 ?_;refine G6 (fun i:Nat=>⟨69,[(1,.d (.sl 1 (n.map dG))),(5,.bs 20 m.length u64T 1),(6,.d (dU (M5 m n i).2)),(25,.d (dI m.length)),(26,.d (dI i))],[(20,cG ((M5 m n i).1++m.drop i))],[]⟩) (fun i=>i<=m.length) (fun i=>m.length-i) 0 (D4 _)
    ⟨rfl,⟨.refl _,.refl _,.refl _,.refl _,.refl _,C8⟩,⟨⟨_,rfl,H3 (Ja m)⟩,C8⟩,C8,by simp[PS.closed,SV.ok,F8,Nat.beq,-List.map_take,-List.map_set,-List.map_append,-List.map_drop]⟩ ?_
   intro i hi
   obtain⟨h1,h2,h3,-⟩:=As hgm hgn i
   have hnx:=Ek m n i
   obtain⟨⟨p,c⟩,hp⟩:=H1 (M5 m n i)
   rw[<-hp]at h1 h2 h3 hnx ⊢
   simp only at h1 h2 h3 hnx ⊢
   rcases G0 i m.length with hi2|hi2
   . have t1:decide ((i:Int)<(m.length:Int))=true:=C5 (by omega)
     obtain⟨a,ha⟩:=Fr hi2
     have hga:=T3 ha
     have ha9:a<1000000000:=hgm a (B2 ha)
     have hdr:m.drop i=a::m.drop (i+1):=by
      obtain⟨q1,q2⟩:=A6.1 ha
      rw[L1 q1,q2]
     obtain⟨q,hq⟩:=H1 (m.drop (i+1))
     rw[hdr,<-hq]
     rw[hga]at hnx
     have hat:=Bo (q:=q) (a:=a) h1
     have hs1:=P3 (q:=q) (a:=a) (a+c) h1
     have hl1:=V1 (q:=q) (a:=a) h1
     have w1:IntKind.u64.wrap ((a:Int)+(c:Int))=((a+c:Nat):Int):=by rw[<-Int.natCast_add];exact Bz (by omega)
     have hat2:=Bo (q:=q) (a:=a+c) h1
     have hwi:=H2 ((i:Int)+1) (by omega)
     rcases G0 i n.length with hj|hj
     . have t2:decide ((i:Int)<((n.map dG).length:Int))=true:=C5 (by rw[D3];omega)
       obtain⟨b,hb⟩:=Fr hj
       have hb9:b<1000000000:=hgn b (B2 hb)
       have eb:=ix dG n (i:Int) i b rfl hb
       have hgb:=T3 hb
       rw[hgb]at hnx
       have w2:IntKind.u64.wrap (((a+c:Nat):Int)+(b:Int))=((a+c+b:Nat):Int):=by rw[<-Int.natCast_add];exact Bz (by omega)
       have hs2:=P3 (q:=q) (a:=a+c) (a+c+b) h1
       have hl2:=V1 (q:=q) (a:=a+c) h1
       have hat3:=Bo (q:=q) (a:=a+c+b) h1
       have hs3:=P3 (q:=q) (a:=a+c+b) ((a+c+b) % 1000000000) h1
       have hl3:=V1 (q:=q) (a:=a+c+b) h1
       have wq:IntKind.u64.wrap (((a+c+b:Nat):Int).tdiv 1000000000)=(((a+c+b) / 1000000000:Nat):Int):=Bz (n:=(a+c+b) / 1000000000) (by omega)
       refine B4 (yB O O O O (yQ (A5 ?_)));rw[t1];refine E0 O (A7 (A5 (A9 (B4 (B1 O (C9 O (yQ (B4 (T7 O ?_)))))))));refine B1 O (U4 (by omega) (by omega) O O O (D7 O O hat (B1 O (yB O O O O (U4 (by omega) (by omega) O O O ?_)))));rw[w1];refine EK O O O hs1 ?_ hl1;refine yQ (A5 (B4 (B1 O (B1 O (yN O (yB O O O O (yQ (B6 ?_))))))));rw[t2];refine E0 O ?_;refine G1 Tryz.mixed (by kernel_rfl) ?_;refine T7 O (B1 O (U4 (by omega) (by omega) O O O (D7 O O hat2 (B1 O (B1 O (yW eb (by omega) O O (K7 O O (yB O O O O (U4 (by omega) (by omega) O O O ?_)))))))));rw[w2];refine EK O O O hs2 ?_ hl2;refine yQ (B4 (T7 O (B1 O (U4 (by omega) (by omega) O O O (D7 O O hat3 (yB O O O O (C9 O (yQ (B3 ?_)))))))));refine T7 O (B1 O (U4 (by omega) (by omega) O O O (D7 O O hat3 (yB O O O O (U4 (by omega) (by omega) O O O ?_)))));refine EK O O O hs3 ?_ hl3;refine yQ (B3 (yB O O O O (B1 O (yQ (B6 ?_)))))
       rw[wq]
       refine⟨i+1,by omega,by omega,rfl,⟨.refl _,.refl _,.of_eq (by rw[hnx];rfl),.refl _,L6 hwi,C8⟩,⟨⟨_,rfl,H3 (by rw[hnx,<-hq,E8];rfl)⟩,C8⟩,C8,by simp[PS.closed,SV.ok,F8,Nat.beq,-List.map_take,-List.map_set,-List.map_append,-List.map_drop]⟩
     . have t2:decide ((i:Int)<((n.map dG).length:Int))=false:=C3 (by rw[D3];omega)
       rw[Fh hj,Nat.add_zero]at hnx
       have hs3:=P3 (q:=q) (a:=a+c) ((a+c) % 1000000000) h1
       have hl3:=V1 (q:=q) (a:=a+c) h1
       have wq:IntKind.u64.wrap (((a+c:Nat):Int).tdiv 1000000000)=(((a+c) / 1000000000:Nat):Int):=Bz (n:=(a+c) / 1000000000) (by omega)
       refine B4 (yB O O O O (yQ (A5 ?_)));rw[t1];refine E0 O (A7 (A5 (A9 (B4 (B1 O (C9 O (yQ (B4 (T7 O ?_)))))))));refine B1 O (U4 (by omega) (by omega) O O O (D7 O O hat (B1 O (yB O O O O (U4 (by omega) (by omega) O O O ?_)))));rw[w1];refine EK O O O hs1 ?_ hl1;refine yQ (A5 (B4 (B1 O (B1 O (yN O (yB O O O O (yQ (B6 ?_))))))));rw[t2];refine B9 O (A7 (B4 (T7 O (B1 O (U4 (by omega) (by omega) O O O (D7 O O hat2 (yB O O O O (C9 O (yQ ?_)))))))));refine B3 (T7 O (B1 O (U4 (by omega) (by omega) O O O (D7 O O hat2 (yB O O O O (U4 (by omega) (by omega) O O O ?_))))));refine EK O O O hs3 ?_ hl3;refine yQ (B3 (yB O O O O (B1 O (yQ (B6 ?_)))));rw[wq]
       refine⟨i+1,by omega,by omega,rfl,⟨.refl _,.refl _,.of_eq (by rw[hnx];rfl),.refl _,L6 hwi,C8⟩,⟨⟨_,rfl,H3 (by rw[hnx,<-hq,E8];rfl)⟩,C8⟩,C8,by simp[PS.closed,SV.ok,F8,Nat.beq,-List.map_take,-List.map_set,-List.map_append,-List.map_drop]⟩
   . have t1:decide ((i:Int)<(m.length:Int))=false:=C3 (by omega)
     obtain rfl:i=m.length:=by omega
     rw[<-hp]at hr2
     simp only at hr2
     rw[List.drop_length,List.append_nil]
     rcases F7 c with hc|hc
     . subst hc
       rw[B8 (by omega),List.append_nil]at hr2
       subst hr2
       refine B4 (yB O O O O (yQ (A5 ?_)));rw[t1];refine B9 O (F6 (A5 (B4 (B1 O (yB O O O O (yQ (B9 O (A7 (B4 ?_)))))))));refine T7 O (En O (yQ ?_));refine Ag 4 20 (es:=r.map dG) (ds:=r.map dU) (by simp;omega) (R8 r h1) (Aj _) O O ?_;refine C4 ?_
       exact J2 O O
     . have t3:decide ((c:Int) > 0)=true:=C5 (by omega)
       rw[C2 hc]at hr2
       have hrl:r.length=m.length+1:=by rw[hr2];simp;omega
       have hrc:(vG p++[Value.int .u64 (c:Int)]).map (fun u=>SV.d (.val u))=cG r:=by rw[hr2];simp[cG,vG]
       refine B4 (yB O O O O (yQ (A5 ?_)));rw[t1];refine B9 O (F6 (A5 (B4 (B1 O (yB O O O O (yQ (B6 ?_)))))));rw[t3];refine E0 O (B3 (T7 O (B1 O ?_)));refine yR (es:=[[_]]) O O O O O ?_;refine yTw (us:=vG p) (vs:=[Value.int .u64 (c:Int)]) (m:=1) (n:=m.length) (by omega) (by omega) (by omega) O O (by simp;omega) O O O ?_;refine En O (yQ (B4 (T7 O (En O (yQ ?_)))));refine Ag 4 20 (es:=r.map dG) (ds:=r.map dU) (by simp;omega) (R8 r hrl) (by rw[hrc];exact Aj _) O O ?_;refine C4 ?_
       exact J2 O O
theorem JU {a:F4} (h:(K4 a).1=[]):(K4 a).2=false:=by
 cases hb:(K4 a).2 with
 | false=>rfl
 | true=>exact F9 h (JV hb)
theorem Kj (a:F4) (ha:a.length<=1000000) (h0:(K4 a).1=[]):PCalls Tryz.prog 54 [dS a] (.d (.agg [dB false,.val (.slice none 0 0)])):=by
 have c1:=Et a (by omega)
 rw[JU h0,h0]at c1
 refine L7 Tryz.func54 O Tryz.ntmps54 Tryz.results54 fun B w0=>?_
 refine B4 (yZ (cs:=[_,_]) O O (yQ (B4 (B1 O (yC (c1) O O (Aw O (yX O O (yX O O (C9 O ?_)))))))));refine C9 O (yQ (B4 (C9 O (yQ (A5 (B4 (B1 O (P4 O (C9 O ?_)))))))));refine yQ (A9 ?_);refine G6 (fun i:Nat=>⟨37,[(2,.bx 2 0),(4,.d (dB false)),(5,.d (.val (.slice none 0 0))),(6,.d (dI 0))],[(2,[.d (dB false),.d (.val (.slice none 0 0))])],[]⟩) (fun i=>i=0) (fun i=>i) 0 O
  ⟨rfl,⟨.refl _,.refl _,.refl _,.refl _,C8⟩,⟨⟨_,rfl,.refl _,.refl _,C8⟩,C8⟩,C8,rfl⟩ ?_
 intro i hi
 refine A5 (B4 (B1 O (yB O O O O (yQ (B9 O (F6 (B4 (B1 O (B1 O ?_)))))))));refine yG (ys:=[_,_]) O O (yS (cs':=[_,_]) O O O O O (yQ (C4 ?_)))
 exact K9 _ (.agg J5 O O O O .nil) O
namespace Px
variable {es:List (List DV)} {x:Operand}
section
variable {P:Program} {sq:Bool} {ops:Array Oper} {K:PS->Prop} {rest:List Oper} {st:PS} {d:Option Nat} {ty:TypeId} {pos:String} {af:Array Edge} {gd:Option (Nat×Bool)}
theorem ls_eqsl (t t':TypeId) (x:Operand) {te k:Nat} (hp:P.underlying t=some (.slice te)) (hx:asSl (st.ev x)=some (k,es)) (h0:0<es.length) (hd:G3 ⟨d,.binOp .eql t x (.const (.slice none 0 0)) t',ty,pos,af,gd⟩ st=true):I7 P ⟨d,.binOp .eql t x (.const (.slice none 0 0)) t',ty,pos,af,gd⟩ st (.d (.val (.bool false))) .no:=fun st2 ha=>
 OpS.value (ha.dst hd) fun _ _ g a w h=>by
  have h1:=h.eval x
  rw[ha.ev x (by simp[Op.operands])]at h1
  obtain⟨A,c,news,hv,-,-,-,-,hcell,-⟩:=DRep.row (h1.asSl hx)
  obtain⟨b,off,rfl,-⟩:=hcell h0
  refine⟨.bool false,w,?_,Below.refl _ _,DRep.val _ O⟩
  have h5:a.eval (.const (.slice none 0 0))=.slice none 0 0:=rfl
  simp only[execOp,hv,h5]
  simp[eqGuard,Lib.run_eql_slice_nil w t te _ _ _ _ _ hp,Result.andThen]
theorem yEn {t t':Nat} {te k:Nat} (hp:P.underlying t=some (.slice te)) (h0:0<es.length) (hx:asSl (st.ev x)=some (k,es)) (h:YR P sq ops K rest (st.put d (.d (.val (.bool false))))) (zz:zk ops st ⟨d,.binOp .eql t x (.const (.slice none 0 0)) t',ty,pos,af,gd⟩ .no=true:=by kernel_rfl):
 YR P sq ops K (⟨d,.binOp .eql t x (.const (.slice none 0 0)) t',ty,pos,af,gd⟩::rest) st:=I1 (ls_eqsl t t' x hp hx h0 (zd zz)) (zo zz) (zw zz) h
theorem yEz {t t':Nat} {te:Nat} (hp:P.underlying t=some (.slice te)) (hx:st.ev x=.d (.val (.slice none 0 0))) (h:YR P sq ops K rest (st.put d (.d (.val (.bool true))))) (zz:zk ops st ⟨d,.binOp .eql t x (.const (.slice none 0 0)) t',ty,pos,af,gd⟩ .no=true:=by kernel_rfl):
 YR P sq ops K (⟨d,.binOp .eql t x (.const (.slice none 0 0)) t',ty,pos,af,gd⟩::rest) st:=I1 (AF .eql t t' x (.const (.slice none 0 0)) hx rfl (fun w=>by
  have e:(eqGuard .eql t x (.const (.slice none 0 0)) (.slice none 0 0) (.slice none 0 0) >>= fun _=>binOp .eql t (.slice none 0 0) (.slice none 0 0))=binOp .eql t (.slice none 0 0) (.slice none 0 0):=rfl
  rw[e]
  exact Lib.run_eql_slice_nil w t te none 0 0 0 0 hp) O (zd zz)) (zo zz) (zw zz) h
theorem yBw {t t':Nat} {y:Operand} {k:IntKind} {a b c:Int} (hw2:k.wrap (a+b)=c) (hx:st.ev x=.d (.val (.int k a))) (hy:st.ev y=.d (.val (.int k b))) (h:YR P sq ops K rest (st.put d (.d (.val (.int k c))))) (zz:zk ops st ⟨d,.binOp .add t x y t',ty,pos,af,gd⟩ .no=true:=by kernel_rfl):
 YR P sq ops K (⟨d,.binOp .add t x y t',ty,pos,af,gd⟩::rest) st:=by
 subst hw2
 exact yB hx hy (by cases k<;>rfl) rfl h zz
end
theorem Ju {st:PS} {t i:Nat} {cs:List SV} (hb:st.b=[(i,cs)]) (hs:(st.s.all fun p=>p.2.noTs t)=true) (hc:(cs.all fun x=>x.noTs t)=true):st.noTs t=true:=by
 unfold PS.noTs
 rw[hb,hs]
 simp only[List.all_cons,List.all_nil,hc,Bool.and_self]
theorem PCalls.mono_args {P:Program} {f:Nat} {xs ys:List DV} {r:SV} (h:PCalls P f xs r) (hl:ys.length=xs.length) (hi:∀ (i:Nat) x y,ys[i]? = some x->xs[i]? = some y->∀ F w v,DRep F w v x->DRep F w v y):PCalls P f ys r:=fun F w vals hvl hv hg=>
 h F w vals (hvl.trans hl) (fun i v y hvi hy=>by
  obtain⟨x,hx⟩:∃ x,ys[i]? = some x:=⟨_,A4 (by rw[hl];exact(A6.1 hy).1)⟩
  exact hi i x y hx hy F w v (hv i v x hvi hx)) hg
end Px
variable {f:Nat} {r:SV}
theorem noTs_cG (l:List Nat) (t:Nat):((cG l).all fun x=>x.noTs t)=true:=by
 rw[E7]
 intro x hx
 simp only[cG,vG,H5]at hx
 obtain⟨u,-,rfl⟩:=hx
 rfl
def JX:List Nat->DV
 | []=>.val (.slice none 0 0)
 | x::l=>.sl 1 ((x::l).map dG)
theorem IJ {F:Nat->Nat->Prop} {w:World} {v:Value} {l:List Nat} (h:DRep F w v (JX l)):DRep F w v (.sl 1 (l.map dG)):=by
 cases l with
 | nil=>
  have:=DRep.val_eq h
  subst this
  exact DRep.nil
 | cons x l=>exact h
theorem mg1 {m:List Nat} (h:PCalls Tryz.prog f [.sl 1 (m.map dG)] r):PCalls Tryz.prog f [JX m] r:=h.mono_args rfl fun i x y hx hy F w v hv=>by
 match i,hx,hy with
 | 0,hx,hy=>cases hx;cases hy;exact IJ hv
 | i+1,hx,hy=>simp at hx
theorem mg2 {m n:List Nat} (h:PCalls Tryz.prog f [.sl 1 (m.map dG),.sl 1 (n.map dG)] r):PCalls Tryz.prog f [JX m,JX n] r:=h.mono_args rfl fun i x y hx hy F w v hv=>by
 match i,hx,hy with
 | 0,hx,hy=>cases hx;cases hy;exact IJ hv
 | 1,hx,hy=>cases hx;cases hy;exact IJ hv
 | i+2,hx,hy=>simp at hx
abbrev dNm (b:Bool) (l:List Nat):List DV:=[dB b,JX l]
theorem Ep (a:F4) (ha:a.length<=1000000):PCalls Tryz.prog 54 [dS a] (.d (.agg (dNm (K4 a).2 (Dz (K4 a).1)))):=by
 by_cases h:(K4 a).1=[]
 . have:=Kj a ha h
   rw[JU h,h,Ct]
   exact this
 . have:=wRead a ha
   rw[BQ h]at this ⊢
   exact this
theorem Jg:PCalls Tryz.prog 116 [.val (.slice none 0 0)] (.d (.val (.slice none 0 0))):=by
 refine L7 Tryz.func116 O Tryz.ntmps116 Tryz.results116 fun B w0=>?_
 refine B4 (C9 O (yQ (A5 (B4 (B1 O (yEz Tryz.underlying91 O (yQ (E0 O (B4 ?_)))))))));refine C9 O (yQ (C4 (A8 ?_)))
 exact J2 O O
theorem wClone (l:List Nat) (h0:0<l.length) (hl:l.length<=1000000):Ia Tryz.prog 116 [.sl 1 (l.map dG)] u64T 1 (l.map dG):=by
 refine BC (t:=130*100000+5) Tryz.func116 O Tryz.ntmps116 Tryz.results116 (by simp) O fun B w0=>?_
 refine B4 (C9 O (yQ (A5 (B4 (B1 O ?_)))));refine yEn Tryz.underlying91 (by simp;omega) O ?_;refine yQ (B9 O (A7 (B4 (yEb O (B1 O ?_)))));refine yTw (us:=[]) (vs:=vG l) (m:=l.length) (n:=0) h0 (by omega) (by omega) (by rw[vG,List.map_map];exact R8 l O) (by simp) O O O O ?_;refine En O (yQ ?_);refine pw_tkb 2 5 (130*100000+5) (n:=0+l.length) (es:=l.map dG) (ds:=l.map dU) (by simp) (R8 l (by simp)) (Aj _) O O O O (Ju (i:=5) (cs:=cG l) O O (noTs_cG l _)) ?_;refine C4 ?_
 exact LT O (H4 some (by simp))
theorem Jk (m n:List Nat) (i:Nat):N1 m n (i+1)=if R7 m i<(N1 m n i).2+R7 n i then ((N1 m n i).1++[R7 m i+1000000000-((N1 m n i).2+R7 n i)],1)else ((N1 m n i).1++[R7 m i-((N1 m n i).2+R7 n i)],0):=rfl
theorem wMinusP (m n:List Nat) (hgm:gok m) (hgn:gok n) (h0:0<m.length) (hlm:m.length<=1000000):PCalls Tryz.prog 85 [.sl 1 (m.map dG),.sl 1 (n.map dG)] (.d (.sl 1 ((N4 (N1 m n m.length).1).map dG))):=by
 have c1:=wClone m h0 hlm
 obtain⟨z,hz⟩:=H1 ((N1 m n m.length).1)
 have hzl:z.length=m.length:=by rw[hz];exact(Y0 hgm hgn m.length).1
 have c2:=wCut z (by omega)
 rw[<-hz]
 obtain⟨r,hr⟩:=H1 (N4 z)
 rw[<-hr]at c2 ⊢
 refine L7 Tryz.func85 O Tryz.ntmps85 Tryz.results85 fun B w0=>?_
 refine B4 (C9 O (yQ (B4 (B1 O ?_))));refine yCob (vs:=vG m) c1 (by simp;omega) (by rw[vG,List.map_map];simp only[D3];exact R8 m O) (by simp) O O ?_;refine En O (yQ (B4 (C9 O (yQ (A5 (B4 (T7 O (yNb O (B1 O ?_)))))))));refine yQ (A9 ?_);refine G6 (fun i:Nat=>⟨49,[(1,.d (.sl 1 (n.map dG))),(5,.bs 10 (m.map dG).length u64T 1),(6,.d (dU (N1 m n i).2)),(12,.d (dI (m.map dG).length)),(13,.d (dI i))],[(10,cG ((N1 m n i).1++m.drop i))],[]⟩) (fun i=>i<=m.length) (fun i=>m.length-i) 0 (D4 _)
  ⟨rfl,⟨.refl _,.refl _,.refl _,.refl _,.refl _,C8⟩,⟨⟨_,rfl,H3 rfl⟩,C8⟩,C8,by simp[PS.closed,SV.ok,F8,Nat.beq,-List.map_take,-List.map_set,-List.map_append,-List.map_drop]⟩ ?_
 intro i hi
 obtain⟨h1,h2,h3,-⟩:=Y0 hgm hgn i
 have hnx:=Jk m n i
 obtain⟨⟨p,c⟩,hp⟩:=H1 (N1 m n i)
 rw[<-hp]at h1 h2 h3 hnx ⊢
 simp only at h1 h2 h3 hnx ⊢
 rcases G0 i m.length with hi2|hi2
 . have t1:decide ((i:Int)<((m.map dG).length:Int))=true:=C5 (by rw[D3];omega)
   obtain⟨a,ha⟩:=Fr hi2
   have hga:=T3 ha
   have ha9:a<1000000000:=hgm a (B2 ha)
   have hdr:m.drop i=a::m.drop (i+1):=by
    obtain⟨q1,q2⟩:=A6.1 ha
    rw[L1 q1,q2]
   obtain⟨q,hq⟩:=H1 (m.drop (i+1))
   rw[hdr,<-hq]
   rw[hga]at hnx
   have hat:=Bo (q:=q) (a:=a) h1
   have hwi:=H2 ((i:Int)+1) (by omega)
   have hml:(i:Int)<((m.map dG).length:Int):=by rw[D3];omega
   rcases G0 i n.length with hj|hj
   . have t2:decide ((i:Int)<((n.map dG).length:Int))=true:=C5 (by rw[D3];omega)
     obtain⟨b,hb⟩:=Fr hj
     have hb9:b<1000000000:=hgn b (B2 hb)
     have eb:=ix dG n (i:Int) i b rfl hb
     have hgb:=T3 hb
     rw[hgb]at hnx
     have w1:IntKind.u64.wrap ((c:Int)+(b:Int))=((c+b:Nat):Int):=by rw[<-Int.natCast_add];exact Bz (by omega)
     by_cases hlt:a<c+b
     . have t3:decide ((a:Int)<(((c+b):Nat):Int))=true:=C5 (by omega)
       rw[C2 hlt]at hnx
       obtain⟨a2,ha2⟩:=H1 (a+1000000000)
       rw[<-ha2]at hnx
       have w2:IntKind.u64.wrap ((a:Int)+1000000000)=(a2:Int):=by rw[IntKind.wrap_u64];omega
       have hs1:=P3 (q:=q) (a:=a) a2 h1
       have hl1:=V1 (q:=q) (a:=a) h1
       have hat2:=Bo (q:=q) (a:=a2) h1
       have w3:IntKind.u64.wrap ((a2:Int)-(((c+b):Nat):Int))=((a2-(c+b):Nat):Int):=by rw[<-Int.natCast_sub (by omega)];exact Bz (by omega)
       have hs2:=P3 (q:=q) (a:=a2) (a2-(c+b)) h1
       have hl2:=V1 (q:=q) (a:=a2) h1
       refine B4 (yB O O O O (yQ (A5 ?_)));rw[t1];refine E0 O (A7 (A5 (A9 (B4 (B1 O (C9 O (yQ (B4 (B1 O ?_)))))))));refine C9 O (yQ (A5 (B4 (B1 O (B1 O (yN O (yB O O O O (yQ (B6 ?_)))))))));rw[t2];refine E0 O (B3 (B1 O (B1 O (B1 O (yW eb (by omega) O O (K7 O O (yB O O O O (C9 O (yQ ?_)))))))));refine B4 (C9 O (yQ (A5 (B4 (T7 O (B1 O (U4 (by omega) (by omega) O O O (D7 O O hat (B1 O ?_)))))))));refine yB O O O O (yQ (B6 ?_));rw[w1];rw[t3]
       refine E0 O (B4 (T7 O (B1 O (U4 (by omega) (by omega) O O O (D7 O O hat (yBw w2 O O (U4 (by omega) (by omega) O O O ?_)))))));refine EK O O O hs1 ?_ hl1;refine yQ (B3 (C9 O (yQ (B3 (T7 O (B1 O (U4 (by omega) (by omega) O O O (D7 O O hat2 (B1 O ?_)))))))));refine yB O O O O (U4 (by omega) (by omega) O O O ?_);rw[w3];refine EK O O O hs2 ?_ hl2;refine yQ (B3 (yB O O O O (B1 O (yQ (B6 ?_)))))
       refine⟨i+1,by omega,by omega,rfl,⟨.refl _,.refl _,.of_eq (by rw[hnx];rfl),.refl _,L6 hwi,C8⟩,⟨⟨_,rfl,H3 (by rw[hnx,<-hq,E8];rfl)⟩,C8⟩,C8,by simp[PS.closed,SV.ok,F8,Nat.beq,-List.map_take,-List.map_set,-List.map_append,-List.map_drop]⟩
     . have t3:decide ((a:Int)<(((c+b):Nat):Int))=false:=C3 (by omega)
       rw[B8 hlt]at hnx
       have w3:IntKind.u64.wrap ((a:Int)-(((c+b):Nat):Int))=((a-(c+b):Nat):Int):=by rw[<-Int.natCast_sub (by omega)];exact Bz (by omega)
       have hs2:=P3 (q:=q) (a:=a) (a-(c+b)) h1
       have hl2:=V1 (q:=q) (a:=a) h1
       refine B4 (yB O O O O (yQ (A5 ?_)));rw[t1];refine E0 O (A7 (A5 (A9 (B4 (B1 O (C9 O (yQ (B4 (B1 O ?_)))))))));refine C9 O (yQ (A5 (B4 (B1 O (B1 O (yN O (yB O O O O (yQ (B6 ?_)))))))));rw[t2];refine E0 O (B3 (B1 O (B1 O (B1 O (yW eb (by omega) O O (K7 O O (yB O O O O (C9 O (yQ ?_)))))))));refine B4 (C9 O (yQ (A5 (B4 (T7 O (B1 O (U4 (by omega) (by omega) O O O (D7 O O hat (B1 O ?_)))))))));refine yB O O O O (yQ (B6 ?_));rw[w1];rw[t3]
       refine B9 O (A7 (B3 (T7 O (B1 O (U4 (by omega) (by omega) O O O (D7 O O hat (B1 O (yB O O O O (U4 (by omega) (by omega) O O O ?_)))))))));rw[w3];refine EK O O O hs2 ?_ hl2;refine yQ (B3 (yB O O O O (B1 O (yQ (B6 ?_)))))
       refine⟨i+1,by omega,by omega,rfl,⟨.refl _,.refl _,.of_eq (by rw[hnx];rfl),.refl _,L6 hwi,C8⟩,⟨⟨_,rfl,H3 (by rw[hnx,<-hq,E8];rfl)⟩,C8⟩,C8,by simp[PS.closed,SV.ok,F8,Nat.beq,-List.map_take,-List.map_set,-List.map_append,-List.map_drop]⟩
   . have t2:decide ((i:Int)<((n.map dG).length:Int))=false:=C3 (by rw[D3];omega)
     simp only[Fh hj,Nat.add_zero]at hnx
     by_cases hlt:a<c
     . have t3:decide ((a:Int)<((c:Nat):Int))=true:=C5 (by omega)
       rw[C2 hlt]at hnx
       obtain⟨a2,ha2⟩:=H1 (a+1000000000)
       rw[<-ha2]at hnx
       have w2:IntKind.u64.wrap ((a:Int)+1000000000)=(a2:Int):=by rw[IntKind.wrap_u64];omega
       have hs1:=P3 (q:=q) (a:=a) a2 h1
       have hl1:=V1 (q:=q) (a:=a) h1
       have hat2:=Bo (q:=q) (a:=a2) h1
       have w3:IntKind.u64.wrap ((a2:Int)-((c:Nat):Int))=((a2-c:Nat):Int):=by rw[<-Int.natCast_sub (by omega)];exact Bz (by omega)
       have hs2:=P3 (q:=q) (a:=a2) (a2-c) h1
       have hl2:=V1 (q:=q) (a:=a2) h1
       refine B4 (yB O O O O (yQ (A5 ?_)));rw[t1];refine E0 O (A7 (A5 (A9 (B4 (B1 O (C9 O (yQ (B4 (B1 O ?_)))))))));refine C9 O (yQ (A5 (B4 (B1 O (B1 O (yN O (yB O O O O (yQ (B6 ?_)))))))));rw[t2];refine B9 O (A7 (B4 (C9 O (yQ (A5 (B4 (T7 O (B1 O (U4 (by omega) (by omega) O O O ?_)))))))));refine D7 O O hat (B1 O (yB O O O O (yQ (B6 ?_))));rw[t3];refine E0 O (B4 (T7 O (B1 O (U4 (by omega) (by omega) O O O (D7 O O hat (yBw w2 O O (U4 (by omega) (by omega) O O O ?_)))))));refine EK O O O hs1 ?_ hl1;refine yQ (B3 (C9 O (yQ (B3 (T7 O (B1 O (U4 (by omega) (by omega) O O O (D7 O O hat2 (B1 O ?_)))))))));refine yB O O O O (U4 (by omega) (by omega) O O O ?_);rw[w3];refine EK O O O hs2 ?_ hl2;refine yQ (B3 (yB O O O O (B1 O (yQ (B6 ?_)))))
       refine⟨i+1,by omega,by omega,rfl,⟨.refl _,.refl _,.of_eq (by rw[hnx];rfl),.refl _,L6 hwi,C8⟩,⟨⟨_,rfl,H3 (by rw[hnx,<-hq,E8];rfl)⟩,C8⟩,C8,by simp[PS.closed,SV.ok,F8,Nat.beq,-List.map_take,-List.map_set,-List.map_append,-List.map_drop]⟩
     . have t3:decide ((a:Int)<((c:Nat):Int))=false:=C3 (by omega)
       rw[B8 hlt]at hnx
       have w3:IntKind.u64.wrap ((a:Int)-((c:Nat):Int))=((a-c:Nat):Int):=by rw[<-Int.natCast_sub (by omega)];exact Bz (by omega)
       have hs2:=P3 (q:=q) (a:=a) (a-c) h1
       have hl2:=V1 (q:=q) (a:=a) h1
       refine B4 (yB O O O O (yQ (A5 ?_)));rw[t1];refine E0 O (A7 (A5 (A9 (B4 (B1 O (C9 O (yQ (B4 (B1 O ?_)))))))));refine C9 O (yQ (A5 (B4 (B1 O (B1 O (yN O (yB O O O O (yQ (B6 ?_)))))))));rw[t2];refine B9 O (A7 (B4 (C9 O (yQ (A5 (B4 (T7 O (B1 O (U4 (by omega) (by omega) O O O ?_)))))))));refine D7 O O hat (B1 O (yB O O O O (yQ (B6 ?_))));rw[t3];refine B9 O (A7 (B3 (T7 O (B1 O (U4 (by omega) (by omega) O O O (D7 O O hat (B1 O (yB O O O O (U4 (by omega) (by omega) O O O ?_)))))))));rw[w3];refine EK O O O hs2 ?_ hl2;refine yQ (B3 (yB O O O O (B1 O (yQ (B6 ?_)))))
       refine⟨i+1,by omega,by omega,rfl,⟨.refl _,.refl _,.of_eq (by rw[hnx];rfl),.refl _,L6 hwi,C8⟩,⟨⟨_,rfl,H3 (by rw[hnx,<-hq,E8];rfl)⟩,C8⟩,C8,by simp[PS.closed,SV.ok,F8,Nat.beq,-List.map_take,-List.map_set,-List.map_append,-List.map_drop]⟩
 . have t1:decide ((i:Int)<((m.map dG).length:Int))=false:=C3 (by rw[D3];omega)
   obtain rfl:i=m.length:=by omega
   rw[<-hp]at hz
   simp only at hz
   rw[List.drop_length,List.append_nil,<-hz]
   refine Ag 5 10 (n:=(m.map dG).length) (es:=z.map dG) (ds:=z.map dU) (by simp;omega) (R8 z (by simp;omega)) (Aj _) O O ?_;refine B4 (yB O O O O (yQ (A5 ?_)));rw[t1];refine B9 O (F6 (B4 (B1 O (yC (c2) O O (C9 O (yQ (C4 ?_)))))))
   exact J2 O O
end Go.Proofs.YtdkpmnefoobipaaGreatDoor
namespace Go.Proofs.YtdkpmnefoobipaaGreatDoor.Px
open Go.RowKit Go.Shelf
variable {g:Gh}
theorem Ai (w:World) (a:Addr) (n b:Nat) (h:b≠a.block):(w.freeze a n).heap[b]? = w.heap[b]?:=by
 unfold World.freeze
 split
 . rfl
 . simp only[Array.getElem?_modify]
   rw[B8 (fun e=>h e.symm)]
theorem Gn (w:World) (a:Addr) (n:Nat):(w.freeze a n).heap.size=w.heap.size:=by
 unfold World.freeze
 split
 . rfl
 . simp
theorem frz_see (w:World) (a:Addr) (n b o:Nat):AB (w.freeze a n) b o=AB w b o:=by
 by_cases h:b=a.block
 . subst h
   unfold World.freeze
   split
   . rfl
   . unfold AB
     simp only[Array.getElem?_modify,if_true]
     cases w.heap[a.block]? with
     | none=>rfl
     | some x=>cases x<;>rfl
 . exact I2 (Ai w a n b h) o
theorem EX (w:World) (a:Addr) (n b:Nat):(w.freeze a n).shape? b=w.shape? b:=by
 by_cases h:b=a.block
 . subst h
   unfold World.freeze
   split
   . rfl
   . unfold World.shape?
     simp only[Array.getElem?_modify,if_true]
     cases w.heap[a.block]? with
     | none=>rfl
     | some x=>cases x<;>rfl
 . exact G5 (Ai w a n b h)
def PS.tdel (st:PS) (t:Nat):PS:={ st with t:=st.t.filter fun p=>!Nat.beq p.1 t }
theorem GE (st:PS) (t j:Nat):(st.tdel t).tget j=if j=t then none else st.tget j:=Cg st.t t j
def Gh.delt (g:Gh) (t:Nat):Gh:={ g with tk:=fun j=>if j=t then none else g.tk j }
theorem Gh.delt_tk {t j:Nat} {T:Tk} (h:(g.delt t).tk j=some T):g.tk j=some T∧j≠t:=by
 simp only[Gh.delt]at h
 split at h
 . cases h
 . rename_i e;exact⟨h,e⟩
theorem FP {w w':World} {base E k n:Nat} {v:Value} {xs:List Value} (h:w.ownsRow base E k v n xs) (hh:∀ b,v.ownBlock=some b->w'.heap[b]? = w.heap[b]?):w'.ownsRow base E k v n xs:=by
 refine⟨h.1,?_⟩
 rcases h.2 with h1|⟨g,cap,cur,h1,h2,h3,h4⟩
 . exact .inl h1
 . exact .inr ⟨g,cap,cur,h1,h2,(hh g (by rw[h1];rfl)).trans h3,h4⟩
theorem Rep.frz {B:Nat} {w0:Cx} {st:PS} {a:Act} {w:World} (h:Rep B w0 g st a w) {t gb n c:Nat} {T:Tk} (hT:g.tk t=some T) (hv:T.v=.slice (some ⟨gb,0,none⟩) n c) (m:Nat):Rep B w0 (g.delt t) (st.tdel t) a (w.freeze ⟨gb,0,none⟩ m):=by
 have hob:T.v.ownBlock=some gb:=by rw[hv];rfl
 have ev:Evo g w (g.delt t) (w.freeze ⟨gb,0,none⟩ m):=⟨Lib.below_freeze (Below.refl 0 w) (D4 _) m,rfl,fun b o hf _=>⟨⟨hf.1,hf.2.1,fun t' T' n' c' q1 q2=>hf.2.2 t' T' n' c' (Gh.delt_tk q1).1 q2⟩,frz_see _ _ _ _ _⟩,fun b hb=>Ai _ _ _ _ fun e=>hb (.inr (.inr ⟨t,T,hT,by rw[hob,e]⟩)),fun _ _ h=>.inl h,fun _ T' h'=>.inl ⟨T',(Gh.delt_tk h').1,.inl rfl⟩,fun t' T' _ h' hb=>.inr (.inr ⟨t',T',(Gh.delt_tk h').1,hb⟩),fun _ _ _ _ _=>EX _ _ _ _⟩
 have srep:∀ v x,SRep g w v x->SRep (g.delt t) (w.freeze ⟨gb,0,none⟩ m) v x:=fun v x hx=>
  hx.extp ev.fx (fun _ _ _ h=>h) (fun t' k es _ T' hT'=>⟨T',(Gh.delt_tk hT').1,.inl rfl⟩) fun _ _ _ _=>EX _ _ _ _
 have hne:∀ i b,g.bl i=some b->(w.freeze ⟨gb,0,none⟩ m).heap[b]? = w.heap[b]?:=fun i b hi=>Ai _ _ _ _ fun e=>(h.toks t T hT).2 i gb hob (by rw[hi,e])
 refine { h with evo:=h.evo.trans ev,defers:=h.defers.evo ev,base:=by rw[Gn];exact h.base,f0:=h.f0,lim:=h.lim,size:=h.size,slots:=fun j=>srep _ _ (h.slots j),glob:=fun q cs hq=>srep _ (.rd cs) (h.glob q cs hq),boxes:=fun j cs hj hlt=>?_,maps:=fun j ms hj hge=>?_,blk:=fun j b hj=>⟨(h.blk j b hj).1,by rw[Gn];exact(h.blk j b hj).2⟩,dom:=h.dom,inj:=h.inj,toks:=fun t' T' hT'=>?_,tf0:=fun t' T' b o hT' hb=>h.tf0 t' T' b o (Gh.delt_tk hT').1 hb,telt:=fun t' T' hT'=>h.telt t' T' (Gh.delt_tk hT').1,tdis:=fun t1 t2 T1 T2 b h1 h2=>h.tdis t1 t2 T1 T2 b (Gh.delt_tk h1).1 (Gh.delt_tk h2).1,tdom:=fun t' T' hT'=>?_,tlen:=fun t' n' ht'=>?_ }
 . obtain⟨b,xs,T0,h2,h3,h4,h5,h6⟩:=h.boxes j cs hj hlt
   refine⟨b,xs,T0,h2,(hne j b h2).trans h3,h4,fun q c0 hq=>?_,h6⟩
   obtain⟨x,h8,h9⟩:=h5 q c0 hq
   exact⟨x,h8,srep _ _ h9⟩
 . obtain⟨b,es,c0,h4,h5,h6⟩:=h.maps j ms hj hge
   exact⟨b,es,c0,h4,(hne j b h4).trans h5,h6.mono ev.fx⟩
 . obtain⟨h1,h2⟩:=Gh.delt_tk hT'
   obtain⟨⟨n',xs,h3⟩,h4⟩:=h.toks t' T' h1
   exact⟨⟨n',xs,FP h3 fun b hb=>Ai _ _ _ _ fun e=>h2 (h.tdis t' t T' T gb h1 hT (by rw[hb,e]) hob)⟩,h4⟩
 . obtain⟨h1,h2⟩:=Gh.delt_tk hT'
   rw[GE,B8 h2]
   exact h.tdom t' T' h1
 . rw[GE]at ht'
   split at ht'
   . cases ht'
   . rename_i e
     obtain⟨T',A,c0,h1,h2⟩:=h.tlen t' n' ht'
     exact⟨T',A,c0,by simp only[Gh.delt];rw[B8 e];exact h1,h2⟩
set_option maxRecDepth 100000 in
theorem str_raw {P:Program} {ρ:Ren} (L:Lays.n169 P ρ) (X:Builder.Extra P ρ) (b g cap cells:Nat) (l:List UInt8) (w:World) (h0:l≠[]) (c0:w.cell? ⟨b,1,none⟩=some (.slice (some ⟨g,0,none⟩) l.length cap)) (hsh:w.shape? g=some (ρ.t 5,cells)) (hn:l.length<=cells) (hcap:l.length<=cap) (hm:l.length<=9223372036854775807)
 (hcell:∀ (j:Nat) x,l[j]? = some x->w.cell? ((⟨g,0,none⟩:Addr).add j)=some (.int .u8 x.toNat)):
 Calls P (ρ.f 169) #[.pointer (some ⟨b,0,none⟩)] w fun e w'=>e=.returned (.string ⟨l.toArray⟩)∧w'=w.drew.freeze ⟨g,0,none⟩ l.length:=by
 have hl0:l.length≠0:=by simpa using h0
 have c1:w.drew.cell? ⟨b,1,none⟩=some (.slice (some ⟨g,0,none⟩) l.length cap):=c0
 have hSD:(Builtin.unsafeSliceData_ #[(ρ.t 37)] (ρ.t 127) #[.slice (some ⟨g,0,none⟩) l.length cap]).run P w.drew=.ok (.pointer (some ⟨g,0,none⟩)) w.drew:=
  Lib.run_unsafeSliceData_row _ _ _ _ _ _ (by omega)
 have hUS:(Builtin.unsafeString_ #[(ρ.t 127),(ρ.t 3)] (ρ.t 9) #[.pointer (some ⟨g,0,none⟩),.int .i64 l.length]).run P w.drew=.ok (.string ⟨l.toArray⟩) (w.drew.freeze ⟨g,0,none⟩ l.length):=
  Lib.run_unsafeString_row w.drew (ρ.t 127) (ρ.t 3) (ρ.t 9) (ρ.t 5) L.t127 X.cellsByte g cells hsh l h0 hn hm hcell
 have mixed:=L.mixed
 have t72:=L.t72;have a72:=L.a72;have z72:=L.z72;have v72:=L.v72;have u72:=run_underlying L.t72
 have t70:=L.t70;have a70:=L.a70;have z70:=L.z70;have v70:=L.v70;have u70:=run_underlying L.t70
 have t37:=L.t37;have a37:=L.a37;have z37:=L.z37;have v37:=L.v37;have u37:=run_underlying L.t37
 have t127:=L.t127;have a127:=L.a127;have z127:=L.z127;have v127:=L.v127;have u127:=run_underlying L.t127
 have t3:=L.t3;have a3:=L.a3;have z3:=L.z3;have v3:=L.v3;have u3:=run_underlying L.t3
 have t9:=L.t9;have a9:=L.a9;have z9:=L.z9;have v9:=L.v9;have u9:=run_underlying L.t9
 have t5:=X.t5;have a5:=X.a5;have z5:=X.z5;have v5:=X.v5;have u5:=run_underlying X.t5
 go_enter L.f169,Body.n169_ntmps ρ
 go_wp2
 go_region_o
 all_goals (go_wp2;go_ret;exact⟨rfl,O⟩)
section
variable {P:Program} {ops:Array Oper} {K:PS->Prop} {rest:List Oper} {st:PS} {d:Option Nat} {ty:TypeId} {pos:String} {af:Array Edge} {gd:Option (Nat×Bool)}
theorem yStr {f e t:Nat} {l:List UInt8} {es:List (List DV)} {x:Operand} {x0:SV} {ts:Array TypeId} {ρ:Ren} [hB:HasBody P f] (L:Lays.n169 P ρ) (X:Builder.Extra P ρ) (hf:ρ.f 169=f) (hE:t / 100000=ρ.t 5) (h0:l≠[]) (hes:es=l.map fun c=>[DV.val (.int .u8 c.toNat)]) (hx:st.ev x=.bx e 0) (hi:st.bget e=some [x0,.ts t 1 es]) (ht:st.tget t=some es.length)
 (h:YR P true ops K rest (((st.kill e).tdel t).put d (.d (dS l)))) (hlt:Nat.blt e 500000=true:=by rfl) (hd:G3 ⟨d,.call { callee:=.value (.func f),args:=#[x],argTypes:=ts },ty,pos,af,gd⟩ st=true:=by kernel_rfl) (hw:st.want ops ⟨d,.call { callee:=.value (.func f),args:=#[x],argTypes:=ts },ty,pos,af,gd⟩=some true:=by rfl):
 YR P true ops K (⟨d,.call { callee:=.value (.func f),args:=#[x],argTypes:=ts },ty,pos,af,gd⟩::rest) st:=by
 subst hf
 refine .any O fun B w0 Q hQ g a w hr=>?_
 have h1:=hr.eval x
 rw[hx]at h1
 obtain⟨b,hb,hax⟩:=h1
 obtain⟨b',xs,T0,q1,q2,q3,q4,q5⟩:=hr.boxes e _ hi (B0 hlt)
 rw[hb]at q1
 cases q1
 obtain⟨x1,q6,q7,q8⟩:=q4 1 (.ts t 1 es) rfl
 obtain⟨T,A,c,r1,r2⟩:=hr.tlen t _ ht
 obtain⟨hk,hT⟩:=q8 T r1
 have hx1:x1=T.v:=(hT A _ c r2).2 rfl
 obtain⟨⟨n',xs',-,hown⟩,-⟩:=hr.toks t T r1
 have hlen:es.length=l.length:=by rw[hes,D3]
 have hl0:0<l.length:=List.length_pos_iff.2 h0
 rcases hown with⟨hv,h00⟩|⟨gb,cap,cur,hv,-,hg,hnc,hcm,hcs,-⟩
 . rw[r2]at hv
   have:=(Value.slice.inj hv).2.1
   omega
 have hv2:T.v=.slice (some ⟨gb,0,none⟩) n' cap:=hv
 rw[r2]at hv
 have hn':es.length=n':=(Value.slice.inj hv).2.1
 obtain⟨A2,c2,news,s1,-,s3,-,s5,s6,-,s8⟩:=DRep.row q7
 obtain⟨b2,off2,s9,s10⟩:=s6 (by omega)
 rw[hx1,hv2,s9]at s1
 have hbo:gb=b2∧0=off2:=by
  have:=G4 (Value.slice.inj s1).1
  cases this
  exact⟨rfl,O⟩
 obtain⟨rfl,rfl⟩:=hbo
 have hcell:∀ (j:Nat) y,l[j]? = some y->w.cell? ((⟨gb,0,none⟩:Addr).add j)=some (.int .u8 y.toNat):=fun j y hj=>by
  obtain⟨u,u1,u2⟩:=s8 j 0 [DV.val (.int .u8 y.toNat)] _ (by rw[hes,B5,hj];rfl) rfl
  rw[Nat.mul_one,Nat.add_zero]at u1
  have:=(s10 j u u1).1
  rw[DRep.val_eq u2]at this
  rw[Addr.add_lit]
  exact this
 have hc1:w.cell? ⟨b,1,none⟩=some (.slice (some ⟨gb,0,none⟩) l.length cap):=by
  have:x1=.slice (some ⟨gb,0,none⟩) l.length cap:=by rw[hx1,hv2,<-hn',hlen]
  rw[<-this]
  simp only[World.cell?,q2,Option.isSome_none,Bool.false_eq_true,if_false]
  exact q6
 have hsh:w.shape? gb=some (ρ.t 5,cur.size):=by
  rw[<-hE,<-hr.telt t T r1]
  simp[World.shape?,hg]
 have M3:=str_raw L X b gb cap cur.size l w h0 hc1 hsh (by rw[hcs,hk];omega) (by omega) (by unfold maxLen at hcm;omega) hcell
 have hrun:(execOp a.eval ⟨d,.call { callee:=.value (.func (ρ.f 169)),args:=#[x],argTypes:=ts },ty,pos,af,gd⟩).run P w=.ok (.enter (ρ.f 169) #[.pointer (some ⟨b,0,none⟩)]) w:=by
  simp only[execOp,resolve,Act.eval,Deferred.ofValue,Sem.run_bind,Sem.run_pure,C1,invoke]
  rw[hB.run]
  simp[hax]
 unfold wpList
 rw[C2 (H9 hr hw)]
 refine .inl ?_
 unfold Oper.wp
 rw[hrun]
 show Calls P (ρ.f 169) _ w _
 refine M3.mono ?_
 rintro en w' ⟨rfl,rfl⟩
 have r3:Rep B w0 g st a w.drew:=hr.grow (Below.drew (Below.refl _ _))
 have r4:=(r3.kill e).2
 have r5:=r4.frz (t:=t) (T:=T) r1 hv2 l.length
 exact h.sound hQ (r5.put (x:=.d (dS l)) (DRep.val _ O) _ (F5 (st:=st) hd))
end
open Go.RowKit
variable {x y:Operand} {T i n te:Nat} {zs:List Value} {l:List UInt8}
section
variable {P:Program} {B:Nat} {w0:Cx} {Q:Exit->PS->Prop} {st:PS} {c:Code}
theorem pw_tx (s:Nat) (hs:st.get s=.tx i T n) (h:PW P B w0 c Q (st.put (some s) (.bx i 0))):PW P B w0 c Q st:=fun g a w hr=>by
 have hv:=hr.slots s
 rw[hs]at hv
 obtain⟨b,h1,h2,-⟩:=hv
 refine h g a w { hr with lim:=hr.lim,size:=hr.size,boxes:=hr.boxes,maps:=hr.maps,dom:=hr.dom,tdom:=hr.tdom,tlen:=hr.tlen,glob:=hr.glob,slots:=fun j=>?_ }
 rw[O5]
 by_cases e:j=s
 . rw[C2 e,e];exact⟨b,h1,h2⟩
 . rw[B8 e];exact hr.slots j
end
section
variable {P:Program} {sq:Bool} {ops:Array Oper} {K:PS->Prop} {rest:List Oper} {st:PS} {d:Option Nat} {ty:TypeId} {pos:String} {af:Array Edge} {gd:Option (Nat×Bool)}
theorem KH (T:TypeId) {e:Nat} [hz:ZeroOf P T zs] (hi:st.bget e=none) (hd:G3 ⟨some e,.alloc T,ty,pos,af,gd⟩ st=true):
 I7 P ⟨some e,.alloc T,ty,pos,af,gd⟩ st (.tx e T zs.length) (.box e (zs.map fun z=>.d (.val z))):=fun st2 ha=>by
 intro B w0 g a w K Q hr hK
 obtain⟨z,h1,h2⟩:=hz.run w
 have hrun:(execOp a.eval ⟨some e,.alloc T,ty,pos,af,gd⟩).run P w=.ok (.value (.pointer (some ⟨w.heap.size,0,none⟩))) (w.alloc (.cells zs.toArray T)):=by
  rw[<-h2]
  simp[execOp,Instr.alloc,newVar,newRow,go_sem,h1]
 have hin:e<st2.n:=F5 (ha.dst hd) e rfl
 have hlim:st2.n<=10000:=hr.lim
 have hrep:=hr.newb e T (ha.fresh rfl e rfl e (U0 (by omega)) hi) hin zs.toArray (zs.map fun z=>.d (.val z)) (by simp) (fun j c hj=>by
  rw[B5,B7]at hj
  obtain⟨y,h3,rfl⟩:=hj
  exact⟨y,by simpa using h3,DRep.val y (hz.one y (B2 h3))⟩) (fun u hu=>hz.one u (by simpa using hu))
 unfold Oper.wp
 rw[hrun]
 refine hK _ _ _ (hrep.put (x:=.tx e T zs.length) ?_ _ (F5 (st:=st2.bput e _) (ha.dst hd)))
 refine⟨w.heap.size,by simp[Gh.addb],rfl,?_⟩
 unfold World.shape?
 rw[heap_alloc_new]
 simp
theorem yQa {e:Nat} [hz:ZeroOf P T zs] (hi:st.bget e=none)
 (h:YR P sq ops K rest ((st.bput e (zs.map fun z=>.d (.val z))).put (some e) (.tx e T zs.length))) (zz:zk ops st ⟨some e,.alloc T,ty,pos,af,gd⟩ (.box e (zs.map fun z=>.d (.val z)))=true:=by kernel_rfl):
 YR P sq ops K (⟨some e,.alloc T,ty,pos,af,gd⟩::rest) st:=Bv (KH T hi (zd zz)) (zo zz) (zw zz) h
theorem HW (hx:st.ev y=.tx i T n) (h:YR P sq ops K rest (st.put d (.tx i T n))) (zz:zk ops st ⟨d,.move y,ty,pos,af,gd⟩ .no=true:=by kernel_rfl):YR P sq ops K (⟨d,.move y,ty,pos,af,gd⟩::rest) st:=I1 (lm (x:=.tx i T n) hx (zd zz)) (zo zz) (zw zz) h
theorem yQl {i' T' n':Nat} {off:Nat} {cs:List SV} [AggOf P T false 1] (hx:st.ev y=.bx i off) (hi:st.bget i=some cs) (hc:cs[off]? = some (.tx i' T' n')) (h:YR P sq ops K rest (st.put d (.tx i' T' n'))) (zz:zk ops st ⟨d,.load T y,ty,pos,af,gd⟩ .no=true:=by kernel_rfl) (h5:Nat.blt i 500000=true:=by rfl):YR P sq ops K (⟨d,.load T y,ty,pos,af,gd⟩::rest) st:=I1 (Cw T y (B0 h5) hx hi hc (zd zz)) (zo zz) (zw zz) h
theorem yQs {i' T' n':Nat} {z:Operand} {off:Nat} {cs cs':List SV} [AggOf P T false 1] (hz:st.ev z=.bx i off) (hi:st.bget i=some cs) (hy:st.ev y=.tx i' T' n') (hcs:cs.set off (.tx i' T' n')=cs') (h:YR P sq ops K rest ((st.bput i cs').put d .any)) (hle:Nat.blt off cs.length=true:=by kernel_rfl) (zz:zk ops st ⟨d,.store T z y,ty,pos,af,gd⟩ (.box i cs')=true:=by kernel_rfl) (h5:Nat.blt i 500000=true:=by rfl):YR P sq ops K (⟨d,.store T z y,ty,pos,af,gd⟩::rest) st:=by subst hcs;exact Bv (DO (x:=.tx i' T' n') (B0 h5) hz hi hy O (B0 hle) (zd zz)) (zo zz) (zw zz) h
theorem ls_nilT (x:Operand) (hx:st.ev x=.tx i T n) (hd:G3 ⟨d,.nilCheck x,ty,pos,af,gd⟩ st=true):I7 P ⟨d,.nilCheck x,ty,pos,af,gd⟩ st (.bx i 0) .no:=fun st2 ha=>
 OpS.value (ha.dst hd) fun _ _ g a w h=>by
  have h1:=h.eval x
  rw[ha.ev x (by simp[Op.operands]),hx]at h1
  obtain⟨b,h2,h3,-⟩:=h1
  refine⟨.pointer (some ⟨b,0,none⟩),w,?_,Below.refl _ _,b,h2,O⟩
  simp[execOp,h3]
theorem yQN (hx:st.ev x=.tx i T n) (h:YR P sq ops K rest (st.put d (.bx i 0))) (zz:zk ops st ⟨d,.nilCheck x,ty,pos,af,gd⟩ .no=true:=by kernel_rfl):
 YR P sq ops K (⟨d,.nilCheck x,ty,pos,af,gd⟩::rest) st:=I1 (ls_nilT x hx (zd zz)) (zo zz) (zw zz) h
theorem ls_toU (S D:TypeId) (x:Operand) {t:Nat} {j:TypeInfo} (hs:P.underlying S=some (.pointer t)) (hD:P.underlying D=some .unsafePointer) (ht:P.info? t=some j) (hj:j.size≠0) (hn:0<n) (hx:st.ev x=.tx i T n) (hd:G3 ⟨d,.convert S D x,ty,pos,af,gd⟩ st=true):I7 P ⟨d,.convert S D x,ty,pos,af,gd⟩ st (.tx i T n) .no:=fun st2 ha=>
 OpS.value (ha.dst hd) fun _ _ g a w h=>by
  have h1:=h.eval x
  rw[ha.ev x (by simp[Op.operands]),hx]at h1
  obtain⟨b,h2,h3,h4⟩:=h1
  refine⟨.pointer (some ⟨b,0,none⟩),w,?_,Below.refl _ _,b,h2,O,h4⟩
  simp[execOp,h3,Lib.run_to_unsafe w ⟨b,0,none⟩ hs hD ht hj h4 hn,Result.andThen]
theorem yQu {S D:Nat} {t:Nat} {j:TypeInfo} (hs:P.underlying S=some (.pointer t)) (hD:P.underlying D=some .unsafePointer) (ht:P.info? t=some j) (hj:j.size≠0) (hn:0<n) (hx:st.ev x=.tx i T n) (h:YR P sq ops K rest (st.put d (.tx i T n))) (zz:zk ops st ⟨d,.convert S D x,ty,pos,af,gd⟩ .no=true:=by kernel_rfl):
 YR P sq ops K (⟨d,.convert S D x,ty,pos,af,gd⟩::rest) st:=I1 (ls_toU S D x hs hD ht hj hn hx (zd zz)) (zo zz) (zw zz) h
theorem ls_ofU (S D:TypeId) (x:Operand) {u:Nat} {j:TypeInfo} (hs:P.underlying S=some .unsafePointer) (hD:P.underlying D=some (.pointer u)) (hu:P.info? u=some j) (hl:liesAt P P.depth T (n / P.cellsOf T) 0 u 1=true) (hx:st.ev x=.tx i T n) (hd:G3 ⟨d,.convert S D x,ty,pos,af,gd⟩ st=true):I7 P ⟨d,.convert S D x,ty,pos,af,gd⟩ st (.tx i T n) .no:=fun st2 ha=>
 OpS.value (ha.dst hd) fun _ _ g a w h=>by
  have h1:=h.eval x
  rw[ha.ev x (by simp[Op.operands]),hx]at h1
  obtain⟨b,h2,h3,h4⟩:=h1
  refine⟨.pointer (some ⟨b,0,none⟩),w,?_,Below.refl _ _,b,h2,O,h4⟩
  simp[execOp,h3,Lib.run_from_unsafe w ⟨b,0,none⟩ hs hD hu h4 hl,Result.andThen]
theorem yQc {S D:Nat} {u:Nat} {j:TypeInfo} (hs:P.underlying S=some .unsafePointer) (hD:P.underlying D=some (.pointer u)) (hu:P.info? u=some j) (hl:liesAt P P.depth T (n / P.cellsOf T) 0 u 1=true) (hx:st.ev x=.tx i T n) (h:YR P sq ops K rest (st.put d (.tx i T n))) (zz:zk ops st ⟨d,.convert S D x,ty,pos,af,gd⟩ .no=true:=by kernel_rfl):
 YR P sq ops K (⟨d,.convert S D x,ty,pos,af,gd⟩::rest) st:=I1 (ls_ofU S D x hs hD hu hl hx (zd zz)) (zo zz) (zw zz) h
theorem ls_same (f:Nat) (x:Operand) (ts:Array TypeId) (hf:∀ v w,(callFunc f #[v]).run P w=.ok (.value v) w) (hx:st.ev x=.tx i T n) (hd:G3 ⟨d,.call { callee:=.value (.func f),args:=#[x],argTypes:=ts },ty,pos,af,gd⟩ st=true):I7 P ⟨d,.call { callee:=.value (.func f),args:=#[x],argTypes:=ts },ty,pos,af,gd⟩ st (.tx i T n) .no:=fun st2 ha=>
 OpS.value (ha.dst hd) fun _ _ g a w h=>by
  have h1:=h.eval x
  rw[ha.ev x (by simp[Op.operands,Call.operands]),hx]at h1
  obtain⟨b,h2,h3,h4⟩:=h1
  refine⟨.pointer (some ⟨b,0,none⟩),w,?_,Below.refl _ _,b,h2,O,h4⟩
  simp only[execOp,resolve,Act.eval,Deferred.ofValue,Sem.run_bind,Sem.run_pure,C1,invoke]
  simp[h3,hf]
theorem yQn {f:Nat} {ts:Array TypeId} (hf:∀ v w,(callFunc f #[v]).run P w=.ok (.value v) w) (hx:st.ev x=.tx i T n) (h:YR P sq ops K rest (st.put d (.tx i T n))) (zz:zk ops st ⟨d,.call { callee:=.value (.func f),args:=#[x],argTypes:=ts },ty,pos,af,gd⟩ .no=true:=by kernel_rfl):
 YR P sq ops K (⟨d,.call { callee:=.value (.func f),args:=#[x],argTypes:=ts },ty,pos,af,gd⟩::rest) st:=I1 (ls_same f x ts hf hx (zd zz)) (zo zz) (zw zz) h
theorem Ck {tp te:TypeId} (w:World) (a:Addr) (hp:P.underlying tp=some (.pointer te)):(binOp .eql tp (.pointer (some a)) (.pointer none)).run P w=.ok (.bool false) w:=by
 have h:∀ d:Nat,(Op.equalIn (d+1) tp (.pointer (some a)) (.pointer none)).run P w=.ok false w:=fun d=>by
  simp[Op.equalIn,run_underlying hp]
 simp only[binOp]
 simp[Op.equal,Op.maxDepth,h 9999]
theorem Cl {tp te:TypeId} (w:World) (hp:P.underlying tp=some (.pointer te)):(binOp .eql tp (.pointer none) (.pointer none)).run P w=.ok (.bool true) w:=by
 have h:∀ d:Nat,(Op.equalIn (d+1) tp (.pointer none) (.pointer none)).run P w=.ok true w:=fun d=>by
  simp[Op.equalIn,run_underlying hp]
 simp only[binOp]
 simp[Op.equal,Op.maxDepth,h 9999]
theorem ls_eqn (t t':TypeId) (x:Operand) (hp:P.underlying t=some (.pointer te)) (hx:st.ev x=.tx i T n) (hd:G3 ⟨d,.binOp .eql t x (.const (.pointer none)) t',ty,pos,af,gd⟩ st=true):I7 P ⟨d,.binOp .eql t x (.const (.pointer none)) t',ty,pos,af,gd⟩ st (.d (.val (.bool false))) .no:=fun st2 ha=>
 OpS.value (ha.dst hd) fun _ _ g a w h=>by
  have h1:=h.eval x
  rw[ha.ev x (by simp[Op.operands]),hx]at h1
  obtain⟨b,h2,h3,h4⟩:=h1
  refine⟨.bool false,w,?_,Below.refl _ _,DRep.val _ O⟩
  have h5:a.eval (.const (.pointer none))=.pointer none:=rfl
  simp only[execOp,h3,h5]
  simp[eqGuard,Ck w _ hp,Result.andThen]
theorem yQe {t t':Nat} (hp:P.underlying t=some (.pointer te)) (hx:st.ev x=.tx i T n) (h:YR P sq ops K rest (st.put d (.d (.val (.bool false))))) (zz:zk ops st ⟨d,.binOp .eql t x (.const (.pointer none)) t',ty,pos,af,gd⟩ .no=true:=by kernel_rfl):
 YR P sq ops K (⟨d,.binOp .eql t x (.const (.pointer none)) t',ty,pos,af,gd⟩::rest) st:=I1 (ls_eqn t t' x hp hx (zd zz)) (zo zz) (zw zz) h
theorem yQz {t t':Nat} (hp:P.underlying t=some (.pointer te)) (hx:st.ev x=.d (.val (.pointer none))) (h:YR P sq ops K rest (st.put d (.d (.val (.bool true))))) (zz:zk ops st ⟨d,.binOp .eql t x (.const (.pointer none)) t',ty,pos,af,gd⟩ .no=true:=by kernel_rfl):
 YR P sq ops K (⟨d,.binOp .eql t x (.const (.pointer none)) t',ty,pos,af,gd⟩::rest) st:=I1 (AF .eql t t' x (.const (.pointer none)) hx rfl (fun w=>by
  have e:(eqGuard .eql t x (.const (.pointer none)) (.pointer none) (.pointer none) >>= fun _=>binOp .eql t (.pointer none) (.pointer none))=binOp .eql t (.pointer none) (.pointer none):=rfl
  rw[e]
  exact Cl w hp) O (zd zz)) (zo zz) (zw zz) h
theorem ls_nes (t t':TypeId) (x y:Operand) {j:TypeInfo} (hp:P.underlying t=some (.pointer te)) (hte:P.info? te=some j) (hx:st.ev x=.tx i T n) (hy:st.ev y=.tx i T n) (hd:G3 ⟨d,.binOp .neq t x y t',ty,pos,af,gd⟩ st=true):I7 P ⟨d,.binOp .neq t x y t',ty,pos,af,gd⟩ st (.d (.val (.bool false))) .no:=fun st2 ha=>
 OpS.value (ha.dst hd) fun _ _ g a w h=>by
  have h1:=h.eval x
  rw[ha.ev x (by simp[Op.operands]),hx]at h1
  obtain⟨b,h2,h3,-⟩:=h1
  have h5:=h.eval y
  rw[ha.ev y (by simp[Op.operands]),hy]at h5
  obtain⟨b',h6,h7,-⟩:=h5
  rw[h2]at h6
  cases h6
  refine⟨.bool false,w,?_,Below.refl _ _,DRep.val _ O⟩
  simp only[execOp,h3,h7]
  simp[eqGuard,Lib.run_neq_ptr_same w _ hp hte,Result.andThen]
theorem yQq {t t':Nat} {j:TypeInfo} (hp:P.underlying t=some (.pointer te)) (hte:P.info? te=some j) (hx:st.ev x=.tx i T n) (hy:st.ev y=.tx i T n) (h:YR P sq ops K rest (st.put d (.d (.val (.bool false))))) (zz:zk ops st ⟨d,.binOp .neq t x y t',ty,pos,af,gd⟩ .no=true:=by kernel_rfl):
 YR P sq ops K (⟨d,.binOp .neq t x y t',ty,pos,af,gd⟩::rest) st:=I1 (ls_nes t t' x y hp hte hx hy (zd zz)) (zo zz) (zw zz) h
end
theorem GM {P:Program} (w:World) (base:Nat) (t u ty e:TypeId) (i:TypeInfo) (ht:P.underlying t=some (.slice e)) (hu:P.underlying u=some .string) (hi:P.info? e=some i) (hz:i.zero=some (.int .u8 0))
 (hsize:i.size=1) (hby:i.bytes=1) (v:Value) (n:Nat) (xs:List Value) (hown:w.ownsRow base e 1 v n xs) (s:ByteArray)
 (h63:n+s.size<=maxLen) (hbytes:n+s.size<=140737488355328) (hbase:base<=w.heap.size) (hs0:0<s.size):
 ∃ v' w',(Builtin.append_ #[t,u] ty #[v,.string s]).run P w=.ok v' w'∧w'.ownsRow base e 1 v' (n+s.size) (xs++Lib.strCells s)∧Below 0 w w' ∧
  (∀ b,b<w.heap.size->v.ownBlock≠some b->w'.heap[b]? = w.heap[b]?)∧(∀ b o,b<w.heap.size->v.ownBlock=some b->o<n->w'.cell? ⟨b,o,none⟩=w.cell? ⟨b,o,none⟩) ∧
  (v'.ownBlock=v.ownBlock∨v'.ownBlock=some w.heap.size):=by
 have hsmall:n+s.size<=9223372036854775807:=by simp only[maxLen]at h63;omega
 have hxl:xs.length=n:=by simpa using hown.1
 have hlen:(xs++Lib.strCells s).length=(n+s.size)*1:=by rw[D1,hxl,Lib.strCells_length,Nat.mul_one]
 have grown:∀ (old:Nat),old<n+s.size →
  (w.drew.alloc (.cells (xs.toArray++(Lib.strCells s).toArray++Builtin.zeroCells (Value.int .u8 0).cells (grownCap w (n+s.size) old e-(n+s.size))) e)).ownsRow base e 1
   (.slice (some ⟨w.heap.size,0,none⟩) (n+s.size) (grownCap w (n+s.size) old e)) (n+s.size) (xs++Lib.strCells s):=by
  intro old ho
  have hge:=grownCap_ge w (n+s.size) old e
  have hcm:grownCap w (n+s.size) old e<=maxLen:=grownCap_le_maxLen w (n+s.size) old e h63
  refine⟨hlen,.inr ⟨w.heap.size,_,_,O,hbase,heap_alloc_new w.drew _,hge,hcm,?_,?_⟩⟩
  . have hz1:(Value.int IntKind.u8 0).cells.size=1:=rfl
    simp only[Array.size_append,List.size_toArray,size_zeroCells,hz1,hxl,Lib.strCells_length]
    omega
  . simp only[Array.toList_append,E8]
    rw[<-E8,<-hlen]
    exact List.take_left
 have hold:∀ o b,b<w.heap.size->(w.drew.alloc o).heap[b]? = w.heap[b]?:=fun o b hb=>Below.heap_alloc w.drew o b hb
 have hbel:∀ o,Below 0 w (w.drew.alloc o):=fun o=>⟨rfl,rfl,rfl,by simp,fun k hk=>by omega⟩
 rcases hown.2 with⟨rfl,rfl⟩|⟨gb,cap,cur,rfl,hbg,hg,hnc,hcm,hcs,htake⟩
 . have hx:xs=[]:=List.eq_nil_of_length_eq_zero hxl
   subst hx
   have hr:=run_append_nil_string (P:=P) w t u ty e i (.int .u8 0) ht hu hi hz s (by omega) (by omega) (by rw[hby];omega)
   have hgr:=grown 0 (by omega)
   simp only[D0,List.nil_append,Array.empty_append]at hgr ⊢
   have e1:(s.data.map fun b=>Value.int .u8 b.toNat)=(Lib.strCells s).toArray:=by
    apply Array.ext'
    simp[Lib.strCells]
   rw[e1]at hr
   exact⟨_,_,hr,hgr,hbel _,fun b hb _=>hold _ b hb,fun b o hb h=>by simp[Value.ownBlock]at h,.inr rfl⟩
 . have hcs':cur.size=cap:=by simpa using hcs
   by_cases hroom:n+s.size<=cap
   . have hr:=Lib.run_append_room_string (P:=P) w t u ty e i ht hu hi hsize gb n cap cur hg s hroom (by omega)
     refine⟨_,_,hr,⟨hlen,.inr ⟨gb,cap,_,O,hbg,setRow_heap w gb cur _ e _ hg,hroom,hcm,?_,?_⟩⟩,⟨rfl,O,O,by simp[World.setRow],fun k hk=>by omega⟩,fun b _ hb=>setRow_other w gb b _ (fun e=>hb (by simp[Value.ownBlock,e])),fun b o _ hb ho=>?_,.inl rfl⟩
     . simp only[List.size_toArray,D1,F3,M9,Array.length_toList,Lib.strCells_length]
       omega
     . have ht':cur.toList.take n=xs:=by simpa using htake
       rw[ht',<-hlen]
       exact List.take_left
     . obtain rfl:gb=b:=by simpa[Value.ownBlock]using hb
       have h2:=setRow_heap w gb cur (cur.toList.take n++Lib.strCells s++cur.toList.drop (n+s.size)).toArray e _ hg
       simp only[World.cell?,h2,hg,Option.isSome_none,Bool.false_eq_true,if_false]
       rw[List.getElem?_toArray,E8,E4 (by simp;omega),C7 ho]
       simp
   . have holds:∀ j u,xs[j]? = some u->w.cell? ((⟨gb,0,none⟩:Addr).add j)=some u:=hown.cells (g:=gb) rfl
     have hr:=Lib.run_append_grow_string (P:=P) w t u ty e i (.int .u8 0) ht hu hi hz ⟨gb,0,none⟩ n cap xs (by rw[hsize];simpa using hxl) holds s (by omega) (by omega) (by rw[hby];exact growslice_fits (by omega) (by omega))
     exact⟨_,_,hr,grown cap (by omega),hbel _,fun b hb _=>hold _ b hb,fun b o hb _ _=>by simp only[World.cell?,hold _ b hb],.inr rfl⟩
section
variable {P:Program} {st:PS} {d:Option Nat} {ty:TypeId} {pos:String} {af:Array Edge} {gd:Option (Nat×Bool)}
theorem KF (T U:TypeId) (s x:Operand) {E t:Nat} {es es2:List (List DV)} [hA:AppOf P T E 1 1] (hz0:(P.info? E).bind (·.zero)=some (.int .u8 0)) (hU:P.underlying U=some .string) (h0l:0<l.length) (hes2:es2=l.map fun c=>[DV.val (.int .u8 c.toNat)]) (hs:st.ev s=.ts t 1 es) (ht:st.tget t=some n) (hn:n=es.length) (hx:st.ev x=.d (dS l)) (hE:t / 100000=E)
 (hl:es.length+es2.length<=140737488351232) (hd:G3 ⟨d,.call { callee:=.builtin .append,args:=#[s,x],argTypes:=#[T,U] },ty,pos,af,gd⟩ st=true):
 I7 P ⟨d,.call { callee:=.builtin .append,args:=#[s,x],argTypes:=#[T,U] },ty,pos,af,gd⟩ st (.ts t 1 (es++es2)) (.tok t (es.length+es2.length)):=fun st2 ha=>by
 subst hn
 intro B w0 g a w K Q hr hK
 have h1:=hr.eval s
 rw[ha.ev s (by simp[Op.operands,Call.operands]),hs]at h1
 obtain⟨h1,h2⟩:=h1
 obtain⟨A1,c1,ys,hv1,hc1,hm1,hk1,hl1,hcell1,hone1,hrep1⟩:=DRep.row h1
 have h3:=hr.eval x
 rw[ha.ev x (by simp[Op.operands,Call.operands]),hx]at h3
 have hv2:a.eval x=.string ⟨l.toArray⟩:=DRep.val_eq h3
 obtain⟨news,hnews⟩:=H1 (Lib.strCells ⟨l.toArray⟩)
 have hnl:news=l.map fun c=>Value.int .u8 c.toNat:=by rw[hnews];simp[Lib.strCells]
 have hsz:(⟨l.toArray⟩:ByteArray).size=es2.length:=by rw[hes2,D3];simp[ByteArray.size]
 have hl2:news.length=es2.length*1:=by rw[hnl,hes2];simp
 have hone2:∀ u∈news,u.oneCell'=true:=by rw[hnews];exact Lib.strCells_oneCell _
 have hk2:∀ e∈es2,e.length=1:=fun e he=>by
  rw[hes2,H5]at he
  obtain⟨c,-,rfl⟩:=he
  rfl
 have hrep2:∀ (i j:Nat) e y,es2[i]? = some e->e[j]? = some y->∃ u,news[i*1+j]? = some u∧DRep (Fx g) w u y:=fun i j e y he hy=>by
  rw[hes2,B5,B7]at he
  obtain⟨c,hc,rfl⟩:=he
  match j,hy with
  | 0,hy=>
   cases hy
   exact⟨.int .u8 c.toNat,by rw[hnl,Nat.mul_one,Nat.add_zero,B5,hc];rfl,DRep.val _ rfl⟩
  | j+1,hy=>simp at hy
 have hl20:0<es2.length:=by rw[hes2,D3];exact h0l
 obtain⟨T',A,c,h4,h5⟩:=hr.tlen t es.length ((ha.tk rfl s (by simp[Op.operands,Call.operands]) t 1 es hs).trans ht)
 obtain⟨h6,h7⟩:=h2 T' h4
 have h8:a.eval s=T'.v:=(h7 A es.length c h5).2 rfl
 obtain⟨⟨n',xs,h9⟩,h10⟩:=hr.toks t T' h4
 obtain rfl:es.length=n':=AD h9 h5
 have hTE:T'.E=E:=(hr.telt t T' h4).trans hE
 obtain⟨i,z,q1,q2,q3,q4,q5⟩:=hA.inf
 rw[hTE,h6]at h9
 have hz1:z=.int .u8 0:=by
  rw[q1,Option.bind_some,q2]at hz0
  exact G4 hz0
 subst hz1
 obtain⟨v',w',r1,r2,r3,r4,r5,r6⟩:=GM (P:=P) w 0 T U ty E i hA.und hU q1 q2 q3 q4 T'.v es.length xs h9 ⟨l.toArray⟩ (by unfold maxLen;omega) (by omega) (D4 _) (by omega)
 rw[hsz,<-hnews]at r2
 have hxs:xs=ys:=by
  apply List.ext_getElem?
  intro j
  have hlx:=h9.1
  by_cases hj:j<es.length*1
  . have h0:0<es.length:=by
     rcases F7 es.length with h0|h0
     . rw[h0]at hj;simp at hj
     . exact h0
    obtain⟨b,off,hA1,hcell⟩:=hcell1 h0
    obtain⟨u,hu⟩:∃ u,ys[j]? = some u:=⟨_,A4 (by omega)⟩
    obtain⟨u',hu'⟩:∃ u,xs[j]? = some u:=⟨_,A4 (by omega)⟩
    have e1:T'.v=.slice (some ⟨b,off,none⟩) es.length c1:=by rw[<-h8,hv1,hA1]
    have e2:=T9 h9 (b:=b) (by rw[e1];rfl) j u' hu'
    obtain⟨A3,c3,e3,-,e4⟩:=O0 h9
    have e5:=e4 b (by rw[e1];rfl)
    have e6:off=0:=by
     have:=e1.symm.trans e5
     have:=(Value.slice.inj this).1
     simpa using this
    have e7:=(hcell j u hu).1
    rw[e6,D0,e2]at e7
    rw[hu,hu',G4 e7]
  . rw[E9 (by omega),E9 (by omega)]
 subst hxs
 obtain⟨fx,hrep'⟩:=hr.app t es.length es2.length T' h4 xs news v' (by rw[hTE,h6];exact h9) (by rw[hTE,h6];exact r2) r3 (fun b hb hne=>r4 b hb hne) (fun b o hb hb' ho=>r5 b o hb hb' (by rw[h6]at ho;omega)) r6 (fun h=>by omega)
 have hrun:(execOp a.eval ⟨d,.call { callee:=.builtin .append,args:=#[s,x],argTypes:=#[T,U] },ty,pos,af,gd⟩).run P w=.ok (.value v') w':=by
  simp only[execOp,resolve,invoke,builtin,Sem.run_bind,Sem.run_pure,C1,List.map_toArray,List.map_cons,List.map_nil,h8,hv2,r1]
 unfold Oper.wp
 rw[hrun]
 refine hK _ _ _ (hrep'.put (v:=v') (x:=.ts t 1 (es++es2)) ⟨?_,fun T2 hT2=>?_⟩ _ (F5 (st:=st2.tput t _) (ha.dst hd)))
 . obtain⟨A3,c3,e3,e4,e5⟩:=O0 r2
   have e3':v'=.slice A3 (es++es2).length c3:=by rw[D1];exact e3
   refine(H4 (fun q=>DRep (Fx (g.sett t ⟨v',T'.E,T'.k⟩)) w' q (.sl 1 (es++es2))) e3').mpr ?_
   refine DRep.of_row (xs:=xs++news) (by rw[D1];exact e4) (by rw[D1];exact E3 hl (by decide)) (fun e he=>?_) (fun h0=>?_) (fun u hu=>?_) fun i j e y he hy=>?_
   . rcases List.mem_append.1 he with he|he
     . exact hk1 e he
     . exact hk2 e he
   . rcases r2.2 with⟨e6,e7⟩|⟨gb,cap,cur,e6,e7,e8,-⟩
     . rw[D1]at h0;omega
     . have e9:A3=some ⟨gb,0,none⟩:=(Value.slice.inj (e3.symm.trans e6)).1
       refine⟨gb,0,e9,fun j u hj=>⟨?_,?_⟩⟩
       . rw[D0];exact T9 r2 (by rw[e6];rfl) j u hj
       . refine⟨hrep'.tf0 t ⟨v',T'.E,T'.k⟩ gb _ (by simp[Gh.sett]) (by show v'.ownBlock=_;rw[e6];rfl),fun i' hi'=>?_,fun t2 T2 n2 c2' hT2 hv2'=>?_⟩
         . exact(hrep'.toks t ⟨v',T'.E,T'.k⟩ (by simp[Gh.sett])).2 i' gb (by rw[show(⟨v',T'.E,T'.k⟩:Tk).v=v' from rfl,e6];rfl) hi'
         . have htt:t2=t:=hrep'.tdis t2 t T2 ⟨v',T'.E,T'.k⟩ gb hT2 (by simp[Gh.sett]) (by rw[hv2'];rfl) (by rw[show(⟨v',T'.E,T'.k⟩:Tk).v=v' from rfl,e6];rfl)
           subst htt
           simp only[Gh.sett,C2]at hT2
           cases hT2
           have e10:n2=es.length+es2.length:=(Value.slice.inj ((show v'=_ from hv2').symm.trans e6)).2.1
           have hlt:=(A6.1 hj).1
           rw[r2.1]at hlt
           show 0+j<n2*T'.k
           rw[e10,h6,D0]
           exact hlt
   . rcases List.mem_append.1 hu with hu|hu
     . exact hone1 u hu
     . exact hone2 u hu
   . by_cases hi:i<es.length
     . rw[E4 hi]at he
       obtain⟨u,e6,e7⟩:=hrep1 i j e y he hy
       refine⟨u,?_,e7.mono fx⟩
       rw[E4 (A6.1 e6).1]
       exact e6
     . rw[E6 (by omega)]at he
       obtain⟨u,e6,e7⟩:=hrep2 (i-es.length) j e y he hy
       refine⟨u,?_,e7.mono fx⟩
       have:i*1+j-xs.length=(i-es.length)*1+j:=by
        rw[h9.1,Nat.sub_mul]
        have:=Nat.mul_le_mul_right 1 (show es.length<=i by omega)
        omega
       rw[E6 (by rw[h9.1];have:=Nat.mul_le_mul_right 1 (show es.length<=i by omega);omega),this]
       exact e6
 . simp only[Gh.sett,C2]at hT2
   cases hT2
   refine⟨h6,fun A3 n3 c3 e3=>?_⟩
   have e4:n3=es.length+es2.length:=AD r2 e3
   rw[D1]
   exact⟨by omega,fun _=>rfl⟩
variable {sq:Bool} {ops:Array Oper} {K:PS->Prop} {rest:List Oper}
theorem yTs {U E t m:Nat} {es es2 es':List (List DV)} [hA:AppOf P T E 1 1] (hz0:(P.info? E).bind (·.zero)=some (.int .u8 0)) (hU:P.underlying U=some .string) (h0l:0<l.length) (hes2:es2=l.map fun c=>[DV.val (.int .u8 c.toNat)]) (hl:es.length+es2.length<=140737488351232) (hs:st.ev x=.ts t 1 es) (ht:st.tget t=some n) (hn:n=es.length) (hx:st.ev y=.d (dS l)) (hE:t / 100000=E) (he:es++es2=es') (hm:es.length+es2.length=m) (h:YR P sq ops K rest ((st.tput t m).put d (.ts t 1 es'))) (zz:zk ops st ⟨d,.call { callee:=.builtin .append,args:=#[x,y],argTypes:=#[T,U] },ty,pos,af,gd⟩ (.tok t m)=true:=by kernel_rfl):YR P sq ops K (⟨d,.call { callee:=.builtin .append,args:=#[x,y],argTypes:=#[T,U] },ty,pos,af,gd⟩::rest) st:=by subst he hm;exact yr_t (KF T U x y hz0 hU h0l hes2 hs ht hn hx hE hl (zd zz)) (zo zz) (zw zz) h
end
end Go.Proofs.YtdkpmnefoobipaaGreatDoor.Px
namespace Go.Proofs.YtdkpmnefoobipaaGreatDoor
open Go.RowKit Px
abbrev bT:Nat:=139
abbrev uT:Nat:=5*100000+4
abbrev uT2:Nat:=5*100000+10004
abbrev dY (c:UInt8):List DV:=[DV.val (.int .u8 c.toNat)]
theorem hU139:∃ j,Tryz.prog.info? 139=some j∧j.size≠0:=by
 have h:(Tryz.prog.info? 139).map (·.size)=some 2:=by kernel_rfl
 obtain⟨j,h1,h2⟩:=B7.1 h
 exact⟨j,h1,by omega⟩
theorem hNoEsc (v:Value) (w:World):(callFunc 164 #[v]).run Tryz.prog w=.ok (.value v) w:=by
 rw[run_callFunc_extern Tryz.func164 (by kernel_rfl) (by kernel_rfl) (by kernel_rfl) (e:=Extern.AbiNoEscape.same) (by kernel_rfl),Lib.run_noEscape]
 rfl
theorem hLies:liesAt Tryz.prog Tryz.prog.depth 139 (2 / Tryz.prog.cellsOf 139) 0 139 1=true:=by kernel_rfl
theorem wCcF (l:List UInt8):Md Tryz.prog 122 [.tx 10004 bT 2] [(10004,[.d (.val (.pointer none)),.ts uT2 1 (l.map dY)])] [(uT2,(l.map dY).length)] (.tup []) [(10004,[.tx 10004 bT 2,.ts uT2 1 (l.map dY)])] [(uT2,(l.map dY).length)]:=by
 obtain⟨j,hj,hj0⟩:=hU139
 refine Q3 Tryz.func122 O Tryz.ntmps122 Tryz.results122 (by simp) fun B w0=>?_
 refine B4 (HW O (yQN O (D8 O (D7 O O O (yQz Tryz.underlying136 O (yQ (E0 O (B3 (HW O ?_)))))))));refine HW O ?_;refine yQu Tryz.underlying136 Tryz.underlying201 hj hj0 (by decide) O ?_;refine yQn hNoEsc O (yQc Tryz.underlying201 Tryz.underlying136 hj hLies O (yQN O (D8 O (yQs (cs':=[_,_]) O O O O (yQ ?_)))))
 exact q_xe [] .nil O ⟨rfl,C8⟩ ⟨rfl,C8⟩
theorem wCcU (l:List UInt8):Md Tryz.prog 122 [.tx 10004 bT 2] [(10004,[.tx 10004 bT 2,.ts uT2 1 (l.map dY)])] [(uT2,(l.map dY).length)] (.tup []) [(10004,[.tx 10004 bT 2,.ts uT2 1 (l.map dY)])] [(uT2,(l.map dY).length)]:=by
 obtain⟨j,hj,hj0⟩:=hU139
 refine Q3 Tryz.func122 O Tryz.ntmps122 Tryz.results122 (by simp) fun B w0=>?_
 refine B4 (HW O (yQN O (D8 O (yQl O O O (yQe Tryz.underlying136 O (yQ (B9 O (B4 (HW O ?_)))))))));refine yQN O (D8 O (yQl O O O (HW O (yQq Tryz.underlying136 hj O O (yQ (B9 O (A7 ?_)))))))
 exact q_xe [] .nil O ⟨rfl,C8⟩ ⟨rfl,C8⟩
theorem wWbF (l:List UInt8) (c:UInt8) (hl:l.length<=100000000):Md Tryz.prog 89 [.tx 4 bT 2,.d (.val (.int .u8 c.toNat))] [(4,[.d (.val (.pointer none)),.ts uT 1 (l.map dY)])] [(uT,(l.map dY).length)] (.d (.val .nilIface)) [(4,[.tx 4 bT 2,.ts uT 1 ((l++[c]).map dY)])] [(uT,((l++[c]).map dY).length)]:=by
 refine Q3 Tryz.func89 O Tryz.ntmps89 Tryz.results89 (by simp) fun B w0=>?_
 refine B4 (C9 O (yQ (B4 (HW O ?_))));refine yCx (wCcF l) O ⟨rfl,C8⟩ ⟨rfl,C8⟩ ?_ (hfit:=by kernel_rfl);refine yQ (B4 (HW O (HW O (yQN O (D8 O (yLt O O O (B1 O ?_)))))));refine yR (es:=[[_]]) O O O O O ?_;refine yT (es':=(l++[c]).map dY) (m:=((l++[c]).map dY).length) (by simp;omega) (by simp;omega) O O O O O (by simp) (by simp) ?_;refine yQN O (D8 O (ySt (cs':=[_,_]) O O O O (yQ (B4 (C9 O (yQ (C4 ?_)))))))
 exact q_x _ (.tmp O .nil) O ⟨rfl,C8⟩ ⟨rfl,C8⟩
theorem wWsF (l s:List UInt8) (hl:l.length<=100000000) (hs:s.length<=100000000) (h0:0<s.length):Md Tryz.prog 90 [.tx 4 bT 2,.d (dS s)] [(4,[.d (.val (.pointer none)),.ts uT 1 (l.map dY)])] [(uT,(l.map dY).length)] (.tup [dI s.length,.val .nilIface]) [(4,[.tx 4 bT 2,.ts uT 1 ((l++s).map dY)])] [(uT,((l++s).map dY).length)]:=by
 refine Q3 Tryz.func90 O Tryz.ntmps90 Tryz.results90 (by simp) fun B w0=>?_
 refine B4 (C9 O (C9 O (yQ (B4 (HW O ?_)))));refine yCx (wCcF l) O ⟨rfl,C8⟩ ⟨rfl,C8⟩ ?_ (hfit:=by kernel_rfl)
 refine yQ (B4 (HW O (HW O (yQN O (D8 O (yLt O O O (B1 O ?_)))))));refine yTs (es2:=s.map dY) (es':=(l++s).map dY) (m:=((l++s).map dY).length) (by kernel_rfl) Tryz.underlying9 h0 O (by simp;omega) O O O O O (by simp) (by simp) ?_;refine yQN O (D8 O (ySt (cs':=[_,_]) O O O O (yQ (B4 (B1 O (P4 O (C9 O (C9 O (yQ ?_)))))))));refine C4 ?_
 exact q_x _ (.tmp O (.tmp O .nil)) O ⟨rfl,C8⟩ ⟨rfl,C8⟩
theorem wWsU (l s:List UInt8) (hl:l.length<=100000000) (hs:s.length<=100000000) (h0:0<s.length):Md Tryz.prog 90 [.tx 4 bT 2,.d (dS s)] [(4,[.tx 4 bT 2,.ts uT 1 (l.map dY)])] [(uT,(l.map dY).length)] (.tup [dI s.length,.val .nilIface]) [(4,[.tx 4 bT 2,.ts uT 1 ((l++s).map dY)])] [(uT,((l++s).map dY).length)]:=by
 refine Q3 Tryz.func90 O Tryz.ntmps90 Tryz.results90 (by simp) fun B w0=>?_
 refine B4 (C9 O (C9 O (yQ (B4 (HW O ?_)))));refine yCx (wCcU l) O ⟨rfl,C8⟩ ⟨rfl,C8⟩ ?_ (hfit:=by kernel_rfl)
 refine yQ (B4 (HW O (HW O (yQN O (D8 O (yLt O O O (B1 O ?_)))))));refine yTs (es2:=s.map dY) (es':=(l++s).map dY) (m:=((l++s).map dY).length) (by kernel_rfl) Tryz.underlying9 h0 O (by simp;omega) O O O O O (by simp) (by simp) ?_;refine yQN O (D8 O (ySt (cs':=[_,_]) O O O O (yQ (B4 (B1 O (P4 O (C9 O (C9 O (yQ ?_)))))))));refine C4 ?_
 exact q_x _ (.tmp O (.tmp O .nil)) O ⟨rfl,C8⟩ ⟨rfl,C8⟩
open Go.RowKit Go.Sort Go.Lib Go.Shelf
variable {l:List Nat}
set_option maxRecDepth 100000 in
theorem IA (i:Nat) (hi:i<100) (w:World):
 Calls Tryz.prog 123 #[.int .u64 i,.int .i64 10] w fun e w'=>e=.returned (.string ⟨(Lib.decDigits i).toArray⟩)∧w'=w:=by
 have hc:∀ W,Calls Tryz.prog 165 #[.int .i64 i] W fun e w'=>e=.returned (.string ⟨(Lib.decDigits i).toArray⟩)∧w'=W:=fun W=>
  Any.internal_strconv_small (ρ:=Tryz.itoa_ren) { Tryz.itoa with } i hi W
 have iu:(i:Int)<100:=by omega
 go_enter Tryz.func123,Tryz.ntmps123
 go_wp2_with fail
 refine(hc _).mono ?_
 rintro e w' ⟨rfl,rfl⟩
 go_wp2_with fail
 go_ret
 exact⟨rfl,O⟩
set_option maxRecDepth 100000 in
theorem MN (u:Nat) (hu:100<=u) (hu64:u<18446744073709551616) (w:World) (htab:Lib.TabIs Tryz.prog w "internal/strconv.uint64pow10" .u64 Lib.pow10Tab):
 Calls Tryz.prog 123 #[.int .u64 u,.int .i64 10] w fun e w'=>e=.returned (.string ⟨(Lib.decDigits u).toArray⟩)∧Below w.heap.size w w':=by
 have L:=Tryz.itoa
 have hu1:1<=u:=by omega
 have iu:(100:Int)<=(u:Int):=by omega
 have hnd20:Lib.nDigits u<=20:=by have:=Lib.numDigits_eq u hu1 hu64;split at this<;>omega
 have hal:Tryz.prog.arrayLen 203=24:=by kernel_rfl
 have hsl:∀ W,(Instr.sliceAt 203 (.pointer (some ⟨w.heap.size,0,none⟩)) none (some (.int .i64 (Lib.nDigits u:Int))) none).run Tryz.prog W=.ok (.slice (some ⟨w.heap.size,0,none⟩) (Lib.nDigits u) 24) W:=fun W=>by
  rw[run_sliceAt_array_h W 203 ⟨w.heap.size,0,none⟩ (by simp[Program.arrayLen,Program.elem,Tryz.underlying203]) .i64 (Lib.nDigits u:Int) (by omega) (by rw[hal];omega)]
  go_simp
 have hH0:=Lib.holds_zero0 w 203 (Lib.nDigits u) (by omega)
 have hfmt:Calls Tryz.prog 167 _ _ _:=Any.internal_strconv_formatBase10 (ρ:=Tryz.itoa_ren) { L with } w.heap.size 0 24 u (Array.replicate (Lib.nDigits u) 0) (w.alloc (.cells Lib.zeros24 203)) hH0 (by rw[Array.size_replicate];exact Lib.lt_pow_nDigits u) hu64 (by rw[Array.size_replicate];omega)
 rw[Array.size_replicate]at hfmt
 have hnd:∀ W,Lib.TabIs Tryz.prog W "internal/strconv.uint64pow10" .u64 Lib.pow10Tab->Calls Tryz.prog 166 #[.int .u64 u] W fun e w'=>e=.returned (.int .i64 (Lib.nDigits u))∧w'=W:=fun W h=>Any.internal_strconv_numDigits (ρ:=Tryz.itoa_ren) { L with } u hu1 hu64 W h
 have HH0:=Lib.hid hH0
 clear hH0 hal
 go_enter Tryz.func123,Tryz.ntmps123
 go_wp2_with fail
 refine(hnd _ (Lib.tabIs_alloc htab _)).mono ?_
 rintro e w' ⟨rfl,rfl⟩
 go_wp2_with fail
 refine hfmt.mono ?_
 rintro e w' ⟨rfl,k,v',dk,rfl,hF⟩
 have hcv:(convert 137 9 (.slice (some ⟨w.heap.size,0,none⟩) (Lib.nDigits u) 24)).run Tryz.prog ((putRow (fun(b:UInt8)=>Value.int .u8 (b.toNat:Int)) (w.alloc (.cells Lib.zeros24 203)) w.heap.size 0 dk).drewN k)=.ok (.string ⟨(Lib.decDigits u).toArray⟩) ((putRow (fun(b:UInt8)=>Value.int .u8 (b.toNat:Int)) (w.alloc (.cells Lib.zeros24 203)) w.heap.size 0 dk).drewN k):=by
  have h:=run_convert_bytes_back (P:=Tryz.prog) ((putRow (fun(b:UInt8)=>Value.int .u8 (b.toNat:Int)) (w.alloc (.cells Lib.zeros24 203)) w.heap.size 0 dk).drewN k) 137 9 5 ⟨w.heap.size,0,none⟩ 24 (Lib.decDigits u) Tryz.underlying137 Tryz.underlying5 Tryz.underlying9 (fun j hj=>by
   rw[Lib.row_is_numeral hF j hj,Lib.add_plain,World.cell?_drewN]
   exact cell?_putRow (fun(b:UInt8)=>Value.int .u8 (b.toNat:Int)) _ w.heap.size 0 _ dk HH0.out (by rw[hF.size,Array.size_replicate]) j (by rw[hF.size];rw[Lib.decDigits_length]at hj;exact hj))
  rw[Lib.decDigits_length]at h
  exact h
 have hbel:Below w.heap.size w ((putRow (fun(b:UInt8)=>Value.int .u8 (b.toNat:Int)) (w.alloc (.cells Lib.zeros24 203)) w.heap.size 0 dk).drewN k):=by
  obtain⟨os,eo⟩:=Lib.fin_at w (.cells Lib.zeros24 203) dk k 0
  rw[eo]
  exact Lib.below_grow _ w (D6 _) k os
 go_wp2
 go_ret
 exact⟨rfl,hbel⟩
theorem LH {F:Nat->Nat->Prop} {w:World} (hg:GlobOk F w):Lib.TabIs Tryz.prog w "internal/strconv.uint64pow10" .u64 Lib.pow10Tab:=by
 obtain⟨-,vs,h1,T,z,h2⟩:=hg (2) ((Lib.pow10Tab.map fun z=>Value.int .u64 z).map DV.val) (by kernel_rfl)
 have e:vs=Lib.pow10Tab.map fun z=>Value.int .u64 z:=((List.map_inj_right (fun a b h=>by cases h;rfl)).1 h1).symm
 have hn:Program.globalNamed Tryz.prog "internal/strconv.uint64pow10" = some (2):=by kernel_rfl
 show World.var? _ _ _=_
 unfold World.var?
 rw[hn,Option.bind_some,h2,e]
theorem wItoa (n:Int) (h0:-9223372036854775808<=n) (h1:n<=9223372036854775807):PCalls Tryz.prog 74 [dI n] (.d (dS (Lib.itoa n))):=
 PCalls.of_any (us:=[vS (Lib.itoa n)]) rfl (BX _ rfl) fun F w vals hl hr hg=>by
  obtain rfl:vals=[.int .i64 n]:=BL (us:=[.int .i64 n]) hl hr
  refine(Any.strconv_Itoa Tryz.itoa n h0 h1 w (LH hg)).mono ?_
  rintro e w' ⟨rfl,k,os,rfl⟩
  exact⟨rfl,Lib.below_grow _ w (D6 _) k os⟩
theorem wOf (n:Int) (h0:-9223372036854775808<=n) (h1:n<=9223372036854775807):PCalls Tryz.prog 45 [dI n] (.d (dS (G8 n))):=by
 have c1:=wItoa n h0 h1
 have c2:=DK (Lib.itoa n) (by have:=MB h0 h1;omega)
 rw[Kz]at c2
 refine L7 Tryz.func45 O Tryz.ntmps45 Tryz.results45 fun B w0=>?_
 refine B4 (C9 O (yQ (B4 (B1 O (yC (c1) O O (yC (c2) O O (C9 O (yQ (C4 ?_)))))))))
 exact J2 O O
theorem EE (n:Nat):Lib.decDigits n=fmt n:=by
 unfold fmt
 by_cases h:n=0
 . rw[C2 h,h,Lib.decDigits,dif_pos (by decide)]
   decide
 . rw[B8 h]
   exact Q9 h
theorem wFmtUi (u:Nat) (hu:u<18446744073709551616):PCalls Tryz.prog 123 [dU u,dI 10] (.d (dS (fmt u))):=
 PCalls.of_any (us:=[vS (fmt u)]) rfl (BX _ rfl) fun F w vals hl hr hg=>by
  obtain rfl:vals=[.int .u64 u,.int .i64 10]:=BL (us:=[.int .u64 u,.int .i64 10]) hl hr
  rw[<-EE]
  by_cases h:u<100
  . refine(IA u h w).mono ?_
    rintro e w' ⟨rfl,rfl⟩
    exact⟨rfl,Below.refl _ _⟩
  . refine(MN u (by omega) hu w (LH hg)).mono ?_
    rintro e w' ⟨rfl,h⟩
    exact⟨rfl,h⟩
theorem Ks (u:Nat) (hu:u<18446744073709551616):PCalls Tryz.prog 91 [dU u,dI 10] (.d (dS (fmt u))):=by
 have c1:=wFmtUi u hu
 refine L7 Tryz.func91 O Tryz.ntmps91 Tryz.results91 fun B w0=>?_
 refine B4 (C9 O (yQ (B4 (B1 O (B1 O (yC (c1) O O (C9 O (yQ (C4 ?_)))))))))
 exact J2 O O
theorem bExtraR:Builder.Extra Tryz.prog Tryz.repeat_ren:={ sizeBuilder:=by kernel_rfl,liesBuilder:=by kernel_rfl,t5:=by kernel_rfl,a5:=fun _=>by kernel_rfl,z5:=fun _=>by kernel_rfl,v5:=fun _=>by kernel_rfl,infoByte:=by kernel_rfl,cellsByte:=by kernel_rfl,sizeByte:=by kernel_rfl,neB5:=by decide }
theorem Je:Builder.Extra Tryz.prog Tryz.bst_ren:={ sizeBuilder:=by kernel_rfl,liesBuilder:=by kernel_rfl,t5:=by kernel_rfl,a5:=fun _=>by kernel_rfl,z5:=fun _=>by kernel_rfl,v5:=fun _=>by kernel_rfl,infoByte:=by kernel_rfl,cellsByte:=by kernel_rfl,sizeByte:=by kernel_rfl,neB5:=by decide }
theorem Ig (k:Nat) (hk:k<=9):PCalls Tryz.prog 92 [dS [48],dI k] (.d (dS (List.replicate k 48))):=
 PCalls.of_any (us:=[vS (List.replicate k 48)]) rfl (BX _ rfl) fun F w vals hl hr hg=>by
  obtain rfl:vals=[vS [48],.int .i64 k]:=BL (us:=[vS [48],.int .i64 k]) hl hr
  have e:Lib.repeatL [48] k=List.replicate k 48:=by
   have:=Lib.repeatL_replicate 48 1 k
   rwa [Nat.mul_one]at this
  refine(Any.strings_Repeat Tryz.repeat bExtraR ⟨#[48]⟩ k w (by omega) (by show 1*k<=_;omega)).mono ?_
  rintro en w' ⟨rfl,h⟩
  refine⟨?_,h⟩
  show Ending.returned (.string ⟨(Lib.repeatL [48] k).toArray⟩)=_
  rw[e]
theorem LG {x:Nat} (hg:gok (l++[x])) (hx:x≠0) (b:Bool):G8 (sg b (J0 (l++[x])))=(if b then [45]else [])++fmt x++R6 l:=by
 have h1:=IG (Di.1 hg).1 hx
 have h2:J0 (l++[x])≠0:=by
  rw[Z4]
  have:0<1000000000 ^ l.length*x:=Nat.mul_pos (Nat.pow_pos (by decide)) (by omega)
  omega
 have h3:fmt x=AP x:=by unfold fmt;rw[B8 hx]
 unfold G8 sg
 cases b with
 | true=>
  simp only[if_true]
  rw[C2 (by omega),Int.natAbs_neg,Int.natAbs_natCast,h1,h3]
  rfl
 | false=>
  simp only[Bool.false_eq_true,if_false]
  rw[B8 (by omega),Int.natAbs_natCast,h1,h3]
  rfl
theorem Ji (h:N4 l=[]) (b:Bool):G8 (sg b (J0 l))=[]:=by
 rw[<-CQ,h]
 cases b<;>exact BI
theorem fmt_pos (n:Nat):0<(fmt n).length:=by
 unfold fmt
 split
 . decide
 . rename_i h
   rcases F7 (AP n).length with e|e
   . have:=CH n
     rw[List.length_eq_zero_iff.1 e]at this
     exact F9 this.symm h
   . exact e
theorem ER {j y:Nat} (h:l[j]? = some y):R6 (l.drop j)=R6 (l.drop (j+1))++CF 9 y:=by
 obtain⟨h1,h2⟩:=A6.1 h
 rw[L1 h1,h2,R6]
theorem Dq (l:List Nat):(N4 l).length<=l.length:=by
 induction l with
 | nil=>simp[N4]
 | cons x l ih=>
  rw[N4]
  split
  . simp
  . simp only[List.length_cons];omega
theorem wText (b:Bool) (l:List Nat) (hg:gok l) (hl:l.length<=1000000):PCalls Tryz.prog 55 [.agg (MQ b l)] (.d (dS (G8 (sg b (J0 l))))):=by
 have c1:=wCut l hl
 have hcl:=Dq l
 have hcg:=Gy hg
 obtain⟨r,hr⟩:=H1 (G8 (sg b (J0 l)))
 rw[<-hr]
 rcases List.eq_nil_or_concat (N4 l)with h0|⟨l',x,h0⟩
 . have hr0:r=[]:=by rw[hr,Ji h0]
   subst hr0
   rw[h0]at c1
   refine L7 Tryz.func55 O Tryz.ntmps55 Tryz.results55 fun B w0=>?_
   refine B4 (yK (cs:=[_,_]) O O (C9 O (yQ (B4 (D8 O (D7 O O O (yC (c1) O O (C9 O (yQ ?_)))))))));refine A5 (B4 (B1 O (yN O (yB O O O O (yQ (E0 O (B4 (C9 O (yQ ?_)))))))));refine C4 (A8 ?_)
   exact J2 O O
 have hlast:=KR l
 have hgv:=CQ l
 rw[List.concat_eq_append]at h0
 rw[h0]at c1 hcl hcg hlast hgv
 have hx0:x≠0:=by rintro rfl;simp at hlast
 have hx9:x<1000000000:=hcg x (by simp)
 have hy9:∀ j y,l'[j]? = some y->y<1000000000:=fun j y hy=>hcg y (List.mem_append_left _ (B2 hy))
 have htp:=LG hcg hx0 b
 rw[hgv,<-hr]at htp
 obtain⟨m,hm⟩:=H1 (l'++[x])
 have hml:m.length=l'.length+1:=by rw[hm];simp
 have hmx:m[l'.length]? = some x:=by rw[hm];simp
 have hmi:∀ i y,l'[i]? = some y->m[i]? = some y:=fun i y hy=>by rw[hm,E4 (A6.1 hy).1];exact hy
 rw[<-hm]at c1
 have hll:l'.length<=1000000:=by simp at hcl;omega
 clear hr h0 hlast hgv hcg hm
 obtain⟨s,hs⟩:=H1 (fmt x)
 have hs0:0<s.length:=by rw[hs];exact fmt_pos x
 have hs9:s.length<=9:=by rw[hs];exact Fj (k:=9) (by omega) (by decide)
 have c2:=Ks x (by omega)
 rw[<-hs]at c2 htp
 clear hs
 have u1:(((m.map dG).length:Int)==0)=false:=by rw[D3,hml];simp;omega
 have hw1:IntKind.i64.wrap (((m.map dG).length:Int)-1)=(l'.length:Int):=by rw[D3,H2 _ (by omega)];omega
 have hw2:IntKind.i64.wrap (((m.map dG).length:Int)-2)=(l'.length:Int)-1:=by rw[D3,H2 _ (by omega)];omega
 have ex:=ix dG m (l'.length:Int) l'.length x rfl hmx
 cases b with
 | true=>
  have hrl:r=[45]++s++R6 l':=by rw[htp];rfl
  refine L7 Tryz.func55 O Tryz.ntmps55 Tryz.results55 fun B w0=>?_
  refine B4 (yK (cs:=[_,_]) O O (C9 O (yQ (B4 (D8 O (D7 O O O (yC (c1) O O (C9 O (yQ ?_)))))))));refine A5 (B4 (B1 O (yN O (yB O O O O (yQ (B6 ?_))))));rw[u1];refine B9 O (A7 (B4 (yQa O (yQ ?_))));refine BR 4 1 uT 1 O O O O ?_;refine A5 (B4 (D8 O (D7 O O O (yQ (E0 O (B3 ?_))))));refine yCx (wWbF [] 45 (by simp)) O ⟨rfl,C8⟩ ⟨rfl,C8⟩ ?_ (hfit:=by kernel_rfl);refine yQ (B4 (B1 O (B1 O (yN O (yB O O O O ?_)))));rw[hw1];refine yW ex (by omega) O O (K7 O O (yC (c2) O O ?_));refine yCx (wWsU [45] s (by simp) (by omega) hs0) O ⟨rfl,C8⟩ ⟨rfl,C8⟩ ?_ (hfit:=by kernel_rfl);refine yQ (A5 (B4 (B1 O (yN O (yB O O O O (C9 O (yQ (A9 ?_))))))));rw[hw2]
  refine G6 (fun j:Nat=>⟨44,[(3,.d (.sl 1 (m.map dG))),(4,.tx 4 bT 2),(5,.d (dI ((j:Int)-1)))],[(4,[.tx 4 bT 2,.ts uT 1 (([45]++s++R6 (l'.drop j)).map dY)])],[(uT,(([45]++s++R6 (l'.drop j)).map dY).length)]⟩) (fun j=>j<=l'.length) (fun j=>j) l'.length (D6 _)
   ⟨rfl,⟨.refl _,.refl _,.refl _,C8⟩,⟨⟨_,rfl,.refl _,.of_eq (by simp[R6]),C8⟩,C8⟩,⟨(by first|(simp[R6];done)|(simp[R6];rfl)),C8⟩,rfl⟩ ?_
  intro j hj
  rcases F7 j with h0|h0
  . subst h0
    have u2:decide (((0:Nat):Int)-1 ≥ 0)=false:=C3 (by omega)
    rw[List.drop_zero,<-hrl]
    have hr0:r≠[]:=by rw[hrl];intro e;have:=H4 List.length e;rw[D1,D1]at this;simp only[List.length_nil]at this;omega
    refine pw_tx 4 O ?_;refine A5 (B4 (B1 O (yB O O O O (yQ (B9 O (F6 (B4 (yStr (l:=r) Tryz.bst Je O O hr0 O O O O (C9 O ?_)))))))));refine yQ (C4 ?_);rw[u2]
    exact J2 O O
  obtain⟨i,rfl⟩:∃ i,j=i+1:=⟨j-1,by omega⟩
  have u2:decide (((i+1:Nat):Int)-1 ≥ 0)=true:=C5 (by omega)
  obtain⟨y,hy⟩:∃ y,l'[i]? = some y:=⟨_,A4 (by omega)⟩
  have ey:=ix dG m (((i+1:Nat):Int)-1) i y (by omega) (hmi i y hy)
  have hyl:=hy9 i y hy
  have hnx:=ER hy
  have hfp:=Fi (k:=9) (n:=y) (by omega) (by decide)
  have hfl:=Fj (k:=9) (n:=y) (by omega) (by decide)
  have c3:=Ks y (by omega)
  obtain⟨t,ht⟩:=H1 (fmt y)
  rw[<-ht]at c3 hfp hfl
  have c4:=Ig (9-t.length) (by omega)
  obtain⟨z,hz⟩:=H1 (List.replicate (9-t.length) (48:UInt8))
  have hzl:z.length=9-t.length:=by rw[hz];simp
  rw[<-hz]at c4 hfp
  have hw3:IntKind.i64.wrap (9-(t.length:Int))=((9-t.length:Nat):Int):=by rw[H2 _ (by omega)];omega
  have hw4:IntKind.i64.wrap (((i+1:Nat):Int)-1-1)=(i:Int)-1:=by rw[H2 _ (by omega)];omega
  have hpl:(R6 (l'.drop (i+1))).length<=9000000:=by rw[CZ,M9];omega
  obtain⟨p,hp⟩:=H1 (R6 (l'.drop (i+1)))
  rw[<-hp]at hnx hpl ⊢
  refine A5 (B4 (B1 O (yB O O O O (yQ (B6 ?_)))));rw[u2];refine E0 O (A7 (A5 (A9 (B4 (B1 O (B1 O (yW ey (by omega) O O (K7 O O (yC (c3) O O ?_)))))))));refine C9 O (yQ (B3 (B1 O (P4 O (yB O O O O ?_)))));rw[hw3];refine yC (c4) O O (B1 O (yBsa (l1:=z) (l2:=t) (by omega) O O ?_));refine yCx (wWsU ([45]++s++p) (z++t) (by simp;omega) (by simp;omega) (by simp;omega)) O ⟨rfl,C8⟩ ⟨rfl,C8⟩ ?_ (hfit:=by kernel_rfl);refine yQ (B3 (B1 O (yB O O O O (C9 O (yQ (B6 ?_))))));rw[hw4]
  refine⟨i,by omega,by omega,rfl,⟨.refl _,.refl _,.refl _,C8⟩,⟨⟨_,rfl,.refl _,.of_eq ?_,C8⟩,C8⟩,⟨?_,C8⟩,rfl⟩
  . rw[hnx,hfp,E8 ([45]++s) p]
  . rw[hnx,hfp,E8 ([45]++s) p];rfl
 | false=>
  have hrl:r=([]:F4)++s++R6 l':=by rw[htp];rfl
  refine L7 Tryz.func55 O Tryz.ntmps55 Tryz.results55 fun B w0=>?_
  refine B4 (yK (cs:=[_,_]) O O (C9 O (yQ (B4 (D8 O (D7 O O O (yC (c1) O O (C9 O (yQ ?_)))))))));refine A5 (B4 (B1 O (yN O (yB O O O O (yQ (B6 ?_))))));rw[u1];refine B9 O (A7 (B4 (yQa O (yQ ?_))));refine BR 4 1 uT 1 O O O O ?_;refine A5 (B4 (D8 O (D7 O O O (yQ (B9 O (A7 (B4 (B1 O (B1 O ?_)))))))));refine yN O (yB O O O O ?_);rw[hw1]
  refine yW ex (by omega) O O (K7 O O (yC (c2) O O ?_));refine yCx (wWsF [] s (by simp) (by omega) hs0) O ⟨rfl,C8⟩ ⟨rfl,C8⟩ ?_ (hfit:=by kernel_rfl);refine yQ (A5 (B4 (B1 O (yN O (yB O O O O (C9 O (yQ (A9 ?_))))))));rw[hw2]
  refine G6 (fun j:Nat=>⟨44,[(3,.d (.sl 1 (m.map dG))),(4,.tx 4 bT 2),(5,.d (dI ((j:Int)-1)))],[(4,[.tx 4 bT 2,.ts uT 1 ((([]:F4)++s++R6 (l'.drop j)).map dY)])],[(uT,((([]:F4)++s++R6 (l'.drop j)).map dY).length)]⟩) (fun j=>j<=l'.length) (fun j=>j) l'.length (D6 _)
   ⟨rfl,⟨.refl _,.refl _,.refl _,C8⟩,⟨⟨_,rfl,.refl _,.of_eq (by simp[R6]),C8⟩,C8⟩,⟨(by first|(simp[R6];done)|(simp[R6];rfl)),C8⟩,rfl⟩ ?_
  intro j hj
  rcases F7 j with h0|h0
  . subst h0
    have u2:decide (((0:Nat):Int)-1 ≥ 0)=false:=C3 (by omega)
    rw[List.drop_zero,<-hrl]
    have hr0:r≠[]:=by rw[hrl];intro e;have:=H4 List.length e;rw[D1,D1]at this;simp only[List.length_nil]at this;omega
    refine pw_tx 4 O ?_;refine A5 (B4 (B1 O (yB O O O O (yQ (B9 O (F6 (B4 (yStr (l:=r) Tryz.bst Je O O hr0 O O O O (C9 O ?_)))))))));refine yQ (C4 ?_);rw[u2]
    exact J2 O O
  obtain⟨i,rfl⟩:∃ i,j=i+1:=⟨j-1,by omega⟩
  have u2:decide (((i+1:Nat):Int)-1 ≥ 0)=true:=C5 (by omega)
  obtain⟨y,hy⟩:∃ y,l'[i]? = some y:=⟨_,A4 (by omega)⟩
  have ey:=ix dG m (((i+1:Nat):Int)-1) i y (by omega) (hmi i y hy)
  have hyl:=hy9 i y hy
  have hnx:=ER hy
  have hfp:=Fi (k:=9) (n:=y) (by omega) (by decide)
  have hfl:=Fj (k:=9) (n:=y) (by omega) (by decide)
  have c3:=Ks y (by omega)
  obtain⟨t,ht⟩:=H1 (fmt y)
  rw[<-ht]at c3 hfp hfl
  have c4:=Ig (9-t.length) (by omega)
  obtain⟨z,hz⟩:=H1 (List.replicate (9-t.length) (48:UInt8))
  have hzl:z.length=9-t.length:=by rw[hz];simp
  rw[<-hz]at c4 hfp
  have hw3:IntKind.i64.wrap (9-(t.length:Int))=((9-t.length:Nat):Int):=by rw[H2 _ (by omega)];omega
  have hw4:IntKind.i64.wrap (((i+1:Nat):Int)-1-1)=(i:Int)-1:=by rw[H2 _ (by omega)];omega
  have hpl:(R6 (l'.drop (i+1))).length<=9000000:=by rw[CZ,M9];omega
  obtain⟨p,hp⟩:=H1 (R6 (l'.drop (i+1)))
  rw[<-hp]at hnx hpl ⊢
  refine A5 (B4 (B1 O (yB O O O O (yQ (B6 ?_)))));rw[u2];refine E0 O (A7 (A5 (A9 (B4 (B1 O (B1 O (yW ey (by omega) O O (K7 O O (yC (c3) O O ?_)))))))));refine C9 O (yQ (B3 (B1 O (P4 O (yB O O O O ?_)))));rw[hw3];refine yC (c4) O O (B1 O (yBsa (l1:=z) (l2:=t) (by omega) O O ?_));refine yCx (wWsU (([]:F4)++s++p) (z++t) (by simp;omega) (by simp;omega) (by simp;omega)) O ⟨rfl,C8⟩ ⟨rfl,C8⟩ ?_ (hfit:=by kernel_rfl);refine yQ (B3 (B1 O (yB O O O O (C9 O (yQ (B6 ?_))))));rw[hw4]
  refine⟨i,by omega,by omega,rfl,⟨.refl _,.refl _,.refl _,C8⟩,⟨⟨_,rfl,.refl _,.of_eq ?_,C8⟩,C8⟩,⟨?_,C8⟩,rfl⟩
  . rw[hnx,hfp,E8 (([]:F4)++s) p]
  . rw[hnx,hfp,E8 (([]:F4)++s) p];rfl
namespace Px
section
variable {P:Program} {sq:Bool} {ops:Array Oper} {K:PS->Prop} {rest:List Oper} {st:PS} {d:Option Nat} {ty:TypeId} {pos:String} {af:Array Edge} {gd:Option (Nat×Bool)}
theorem FF (t:Nat) (o1 o2:Operand) (a b:Bool) (hp:P.underlying t=some .bool) (w:World):(eqGuard .eql t o1 o2 (.bool a) (.bool b) >>= fun _=>binOp .eql t (.bool a) (.bool b)).run P w=.ok (.bool (a==b)) w:=by
 simp[eqGuard,binOp,go_sem,run_equal_bool w t a b hp]
theorem yBb {t t':Nat} {x y:Operand} {a b c:Bool} (hp:P.underlying t=some .bool) (hc:(a==b)=c) (hx:st.ev x=.d (.val (.bool a))) (hy:st.ev y=.d (.val (.bool b))) (h:YR P sq ops K rest (st.put d (.d (.val (.bool c))))) (zz:zk ops st ⟨d,.binOp .eql t x y t',ty,pos,af,gd⟩ .no=true:=by kernel_rfl):
 YR P sq ops K (⟨d,.binOp .eql t x y t',ty,pos,af,gd⟩::rest) st:=by
 subst hc
 exact I1 (AF .eql t t' x y hx hy (FF t x y a b hp) O (zd zz)) (zo zz) (zw zz) h
end
end Px
theorem wMinusN:PCalls Tryz.prog 85 [.val (.slice none 0 0),.val (.slice none 0 0)] (.d (.sl 1 [])):=by
 have c1:=Jg
 have c2:PCalls Tryz.prog 88 [.val (.slice none 0 0)] (.d (.sl 1 [])):=mg1 (m:=[]) (wCut [] (by simp))
 refine L7 Tryz.func85 O Tryz.ntmps85 Tryz.results85 fun B w0=>?_
 refine B4 (C9 O (yQ (B4 (B1 O (yC (c1) O O (C9 O (yQ (B4 (C9 O ?_)))))))));refine yQ (A5 (B4 (B1 O (yNl O (B1 O (yQ (A9 ?_)))))));refine G6 (fun i:Nat=>⟨49,[(5,.d (.val (.slice none 0 0))),(12,.d (dI 0)),(13,.d (dI 0))],[],[]⟩) (fun i=>i=0) (fun i=>i) 0 O ⟨rfl,⟨.refl _,.refl _,.refl _,C8⟩,C8,C8,O⟩ ?_
 intro i hi
 refine B4 (yB O O O O (yQ (A5 (B9 O (F6 (B4 (B1 O (yC (c2) O O (C9 O ?_)))))))));refine yQ (C4 ?_)
 exact J2 O O
theorem Kq (m n:List Nat) (hgm:gok m) (hgn:gok n) (hle:n.length<=m.length) (hlm:m.length<=1000000):PCalls Tryz.prog 85 [JX m,JX n] (.d (.sl 1 ((N4 (N1 m n m.length).1).map dG))):=by
 cases m with
 | nil=>
  have hn:n=[]:=List.length_eq_zero_iff.1 (Nat.le_zero.1 hle)
  subst hn
  exact wMinusN
 | cons x m=>exact mg2 (wMinusP (x::m) n hgm hgn (by simp) hlm)
def Du (b1:Bool) (l1:List Nat) (b2:Bool) (l2:List Nat):Bool×List Nat:=
 if b1=b2 then (b1,Z1 l1 l2)else if EH l1 l2<0 then (b2,N4 (N1 l2 l1 l2.length).1)else (b1,N4 (N1 l1 l2 l1.length).1)
theorem BG {x y:Nat} (h:x<=y):(L5 x).length<=(L5 y).length:=by
 rcases G0 (L5 y).length (L5 x).length with h1|h1
 . have:=X8 h1
   omega
 . exact h1
theorem Ik {x y:Nat} (h:y<=x):gok (N4 (N1 (L5 x) (L5 y) (L5 x).length).1)∧J0 (N4 (N1 (L5 x) (L5 y) (L5 x).length).1)=x-y:=by
 have h1:=LI (L0 x) (L0 y) (BG h) (by rw[O2,O2];exact h)
 rw[O2,O2]at h1
 exact⟨Gy h1.1,by rw[CQ];exact h1.2⟩
theorem Em (b1 b2:Bool) (x y:Nat):gok (Du b1 (L5 x) b2 (L5 y)).2∧sg (Du b1 (L5 x) b2 (L5 y)).1 (J0 (Du b1 (L5 x) b2 (L5 y)).2)=sg b1 x+sg b2 y:=by
 unfold Du
 by_cases h:b1=b2
 . rw[C2 h]
   subst h
   obtain⟨h1,h2⟩:=Ho (L0 x) (L0 y)
   refine⟨h1,?_⟩
   rw[h2,O2,O2]
   cases b1<;>simp[sg]<;>omega
 . rw[B8 h]
   have hc:=(Ed x y).1
   by_cases hlt:EH (L5 x) (L5 y)<0
   . rw[C2 hlt]
     have hxy:=hc.1 hlt
     obtain⟨h1,h2⟩:=Ik (Nat.le_of_lt hxy)
     refine⟨h1,?_⟩
     show sg b2 (J0 _)=_
     rw[h2]
     cases b1<;>cases b2<;>simp[sg]at h ⊢ <;> omega
   . rw[B8 hlt]
     have hxy:y<=x:=by
      rcases G0 x y with h3|h3
      . exact F9 (hc.2 h3) hlt
      . exact h3
     obtain⟨h1,h2⟩:=Ik hxy
     refine⟨h1,?_⟩
     show sg b1 (J0 _)=_
     rw[h2]
     cases b1<;>cases b2<;>simp[sg]at h ⊢ <;> omega
theorem HO (b1 b2:Bool) {l1 l2:List Nat} (h1:gok l1) (h2:gok l2):(Du b1 l1 b2 l2).2.length<=l1.length+l2.length+1:=by
 unfold Du
 split
 . have:=(As h1 h2 (max l1.length l2.length)).1
   unfold Z1
   show List.length (_++_)<=_
   rw[D1,this]
   split<;>simp<;>omega
 . split
   . have:=Dq (N1 l2 l1 l2.length).1
     have h3:=(Y0 h2 h1 l2.length).1
     show List.length (N4 _)<=_
     omega
   . have:=Dq (N1 l1 l2 l1.length).1
     have h3:=(Y0 h1 h2 l1.length).1
     show List.length (N4 _)<=_
     omega
theorem wNAdd (b1 b2:Bool) (x y:Nat) (h1:(L5 x).length<=1000000) (h2:(L5 y).length<=1000000):PCalls Tryz.prog 53 [.agg (dNm b1 (L5 x)),.agg (dNm b2 (L5 y))] (.d (.agg (MQ (Du b1 (L5 x) b2 (L5 y)).1 (Du b1 (L5 x) b2 (L5 y)).2))):=by
 have c1:=mg2 (wPlus (L5 x) (L5 y) (L0 x) (L0 y) h1 h2)
 have c2:=mg2 (Kv (L5 x) (L5 y) h1 h2)
 have hc:=(Ed x y).1
 have c3:¬ EH (L5 x) (L5 y)<0->PCalls Tryz.prog 85 [JX (L5 x),JX (L5 y)] _:=fun h=>Kq (L5 x) (L5 y) (L0 x) (L0 y) (BG (by
  rcases G0 x y with h3|h3
  . exact F9 (hc.2 h3) h
  . exact h3)) h1
 have c4:EH (L5 x) (L5 y)<0->PCalls Tryz.prog 85 [JX (L5 y),JX (L5 x)] _:=fun h=>Kq (L5 y) (L5 x) (L0 y) (L0 x) (BG (Nat.le_of_lt (hc.1 h))) h2
 unfold Du
 obtain⟨z1,hz1⟩:=H1 (Z1 (L5 x) (L5 y))
 obtain⟨z2,hz2⟩:=H1 (N4 (N1 (L5 y) (L5 x) (L5 y).length).1)
 obtain⟨z3,hz3⟩:=H1 (N4 (N1 (L5 x) (L5 y) (L5 x).length).1)
 rw[<-hz1]at c1
 rw[<-hz2]at c4
 rw[<-hz3]at c3
 rw[<-hz1,<-hz2,<-hz3]
 obtain⟨k,hk⟩:=H1 (EH (L5 x) (L5 y))
 rw[<-hk]at c2 c3 c4 ⊢
 obtain⟨dx,hdx⟩:=H1 (JX (L5 x))
 obtain⟨dy,hdy⟩:=H1 (JX (L5 y))
 rw[<-hdx,<-hdy]at c1 c2 c3 c4
 rw[dNm,dNm,<-hdx,<-hdy]
 clear hz1 hz2 hz3 hk hdx hdy hc
 cases b1<;>cases b2
 . rw[C2 rfl]
   refine L7 Tryz.func53 O Tryz.ntmps53 Tryz.results53 fun B w0=>?_
   refine B4 (yK (cs:=[_,_]) O O (yK (cs:=[_,_]) O O (yZ (cs:=[_,_]) O O (yQ (A5 (B4 (D8 O (D7 O O O (D8 O ?_)))))))));refine D7 O O O (yBb (c:=true) Tryz.underlying4 O O O (yQ (E0 O (A5 ?_))));refine T8 (id:=2) Tryz.mixed (by kernel_rfl) ?_;refine D8 O (D7 O O O (D8 O (D7 O O O (D8 O (D7 O O O (yC (c1) O O (yG (ys:=[_,_]) O O (yS (cs':=[_,_]) O O O O O (yQ ?_)))))))));refine Px.Sep.mk (by kernel_rfl) ?_;refine C4 (A8 ?_)
   exact K9 _ (.agg J5 O O O O .nil) O
 . rw[B8 (by decide)]
   by_cases hk:k<0
   . rw[C2 hk]
     have c4:=c4 hk
     have u:decide (k<0)=true:=C5 hk
     refine L7 Tryz.func53 O Tryz.ntmps53 Tryz.results53 fun B w0=>?_
     refine B4 (yK (cs:=[_,_]) O O (yK (cs:=[_,_]) O O (yZ (cs:=[_,_]) O O (yQ (A5 (B4 (D8 O (D7 O O O (D8 O ?_)))))))));refine D7 O O O (yBb (c:=false) Tryz.underlying4 O O O (yQ (B9 O (A7 (A5 (B4 (D8 O (D7 O O O (D8 O ?_)))))))));refine D7 O O O (yC (c2) O O (yB O O O O (yQ (B6 ?_))));rw[u]
     refine E0 O (B3 (J8 (ys:=[_,_]) O O O O (J8 (ys:=[_,_]) O O O O (yS (cs':=[_,_]) O O O O O (yS (cs':=[_,_]) O O O O O (yQ (A5 ?_)))))));refine T8 (id:=5) Tryz.mixed (by kernel_rfl) ?_;refine D8 O (D7 O O O (D8 O (D7 O O O (D8 O (D7 O O O (yC (c4) O O (yG (ys:=[_,_]) O O (yS (cs':=[_,_]) O O O O O (yQ ?_)))))))));refine Px.Sep.mk (by kernel_rfl) ?_;refine C4 ?_
     exact K9 _ (.agg J5 O O O O .nil) O
   . rw[B8 hk]
     have c3:=c3 hk
     have u:decide (k<0)=false:=C3 hk
     refine L7 Tryz.func53 O Tryz.ntmps53 Tryz.results53 fun B w0=>?_
     refine B4 (yK (cs:=[_,_]) O O (yK (cs:=[_,_]) O O (yZ (cs:=[_,_]) O O (yQ (A5 (B4 (D8 O (D7 O O O (D8 O ?_)))))))));refine D7 O O O (yBb (c:=false) Tryz.underlying4 O O O (yQ (B9 O (A7 (A5 (B4 (D8 O (D7 O O O (D8 O ?_)))))))));refine D7 O O O (yC (c2) O O (yB O O O O (yQ (B6 ?_))));rw[u]
     refine B9 O (A7 (A5 ?_));refine T8 (id:=5) Tryz.mixed (by kernel_rfl) ?_;refine D8 O (D7 O O O (D8 O (D7 O O O (D8 O (D7 O O O (yC (c3) O O (yG (ys:=[_,_]) O O (yS (cs':=[_,_]) O O O O O (yQ ?_)))))))));refine Px.Sep.mk (by kernel_rfl) ?_;refine C4 ?_
     exact K9 _ (.agg J5 O O O O .nil) O
 . rw[B8 (by decide)]
   by_cases hk:k<0
   . rw[C2 hk]
     have c4:=c4 hk
     have u:decide (k<0)=true:=C5 hk
     refine L7 Tryz.func53 O Tryz.ntmps53 Tryz.results53 fun B w0=>?_
     refine B4 (yK (cs:=[_,_]) O O (yK (cs:=[_,_]) O O (yZ (cs:=[_,_]) O O (yQ (A5 (B4 (D8 O (D7 O O O (D8 O ?_)))))))));refine D7 O O O (yBb (c:=false) Tryz.underlying4 O O O (yQ (B9 O (A7 (A5 (B4 (D8 O (D7 O O O (D8 O ?_)))))))));refine D7 O O O (yC (c2) O O (yB O O O O (yQ (B6 ?_))));rw[u]
     refine E0 O (B3 (J8 (ys:=[_,_]) O O O O (J8 (ys:=[_,_]) O O O O (yS (cs':=[_,_]) O O O O O (yS (cs':=[_,_]) O O O O O (yQ (A5 ?_)))))));refine T8 (id:=5) Tryz.mixed (by kernel_rfl) ?_;refine D8 O (D7 O O O (D8 O (D7 O O O (D8 O (D7 O O O (yC (c4) O O (yG (ys:=[_,_]) O O (yS (cs':=[_,_]) O O O O O (yQ ?_)))))))));refine Px.Sep.mk (by kernel_rfl) ?_;refine C4 ?_
     exact K9 _ (.agg J5 O O O O .nil) O
   . rw[B8 hk]
     have c3:=c3 hk
     have u:decide (k<0)=false:=C3 hk
     refine L7 Tryz.func53 O Tryz.ntmps53 Tryz.results53 fun B w0=>?_
     refine B4 (yK (cs:=[_,_]) O O (yK (cs:=[_,_]) O O (yZ (cs:=[_,_]) O O (yQ (A5 (B4 (D8 O (D7 O O O (D8 O ?_)))))))));refine D7 O O O (yBb (c:=false) Tryz.underlying4 O O O (yQ (B9 O (A7 (A5 (B4 (D8 O (D7 O O O (D8 O ?_)))))))));refine D7 O O O (yC (c2) O O (yB O O O O (yQ (B6 ?_))));rw[u]
     refine B9 O (A7 (A5 ?_));refine T8 (id:=5) Tryz.mixed (by kernel_rfl) ?_;refine D8 O (D7 O O O (D8 O (D7 O O O (D8 O (D7 O O O (yC (c3) O O (yG (ys:=[_,_]) O O (yS (cs':=[_,_]) O O O O O (yQ ?_)))))))));refine Px.Sep.mk (by kernel_rfl) ?_;refine C4 ?_
     exact K9 _ (.agg J5 O O O O .nil) O
 . rw[C2 rfl]
   refine L7 Tryz.func53 O Tryz.ntmps53 Tryz.results53 fun B w0=>?_
   refine B4 (yK (cs:=[_,_]) O O (yK (cs:=[_,_]) O O (yZ (cs:=[_,_]) O O (yQ (A5 (B4 (D8 O (D7 O O O (D8 O ?_)))))))));refine D7 O O O (yBb (c:=true) Tryz.underlying4 O O O (yQ (E0 O (A5 ?_))));refine T8 (id:=2) Tryz.mixed (by kernel_rfl) ?_;refine D8 O (D7 O O O (D8 O (D7 O O O (D8 O (D7 O O O (yC (c1) O O (yG (ys:=[_,_]) O O (yS (cs':=[_,_]) O O O O O (yQ ?_)))))))));refine Px.Sep.mk (by kernel_rfl) ?_;refine C4 (A8 ?_)
   exact K9 _ (.agg J5 O O O O .nil) O
theorem Ev (a:F4):val a=sg (K4 a).2 (H0 (K4 a).1):=by
 unfold val sg
 rfl
theorem Is (a:F4):Dz (K4 a).1=L5 (H0 (K4 a).1):=rdG_grp (Bn a) (Dp a)
theorem sg_not (b:Bool) (n:Nat):sg (!b) n=- sg b n:=by
 cases b<;>simp[sg]
theorem Ky (a b:F4) (ha:a.length<=100000) (hb:b.length<=100000):PCalls Tryz.prog 26 [dS a,dS b] (.d (dS (G8 (val a+val b)))):=by
 have c1:=Ep a (by omega)
 have c2:=Ep b (by omega)
 have h1:=E3 (Af (K4 a).1) (Bm a)
 have h2:=E3 (Af (K4 b).1) (Bm b)
 rw[Is]at c1 c2 h1 h2
 have c3:=wNAdd (K4 a).2 (K4 b).2 (H0 (K4 a).1) (H0 (K4 b).1) (by omega) (by omega)
 obtain⟨s1,s2⟩:=Em (K4 a).2 (K4 b).2 (H0 (K4 a).1) (H0 (K4 b).1)
 have s3:=HO (K4 a).2 (K4 b).2 (L0 (H0 (K4 a).1)) (L0 (H0 (K4 b).1))
 rw[<-Ev,<-Ev]at s2
 obtain⟨z,hz⟩:=H1 (Du (K4 a).2 (L5 (H0 (K4 a).1)) (K4 b).2 (L5 (H0 (K4 b).1)))
 rw[<-hz]at c3 s1 s2 s3
 have c4:=wText z.1 z.2 s1 (by omega)
 rw[s2]at c4
 obtain⟨r,hr⟩:=H1 (G8 (val a+val b))
 rw[<-hr]at c4 ⊢
 obtain⟨n1,hn1⟩:=H1 (dNm (K4 a).2 (L5 (H0 (K4 a).1)))
 obtain⟨n2,hn2⟩:=H1 (dNm (K4 b).2 (L5 (H0 (K4 b).1)))
 obtain⟨n3,hn3⟩:=H1 (MQ z.1 z.2)
 rw[<-hn1]at c1 c3
 rw[<-hn2]at c2 c3
 rw[<-hn3]at c3 c4
 clear hn1 hn2 hn3 hz s1 s2 s3
 refine L7 Tryz.func26 O Tryz.ntmps26 Tryz.results26 fun B w0=>?_
 refine B4 (C9 O (yQ (B4 (B1 O (yC (c1) O O (B1 O (yC (c2) O O (yC (c3) O O (yC (c4) O O ?_)))))))));refine C9 O (yQ (C4 ?_))
 exact J2 O O
theorem Kh (a b:F4) (ha:a.length<=100000) (hb:b.length<=100000):PCalls Tryz.prog 62 [dS a,dS b] (.d (dS (G8 (val a-val b)))):=by
 have c1:=Ep a (by omega)
 have c2:=Ep b (by omega)
 have h1:=E3 (Af (K4 a).1) (Bm a)
 have h2:=E3 (Af (K4 b).1) (Bm b)
 rw[Is]at c1 c2 h1 h2
 have c3:=wNAdd (K4 a).2 (!(K4 b).2) (H0 (K4 a).1) (H0 (K4 b).1) (by omega) (by omega)
 obtain⟨s1,s2⟩:=Em (K4 a).2 (!(K4 b).2) (H0 (K4 a).1) (H0 (K4 b).1)
 have s3:=HO (K4 a).2 (!(K4 b).2) (L0 (H0 (K4 a).1)) (L0 (H0 (K4 b).1))
 rw[sg_not,<-Ev,<-Ev,<-Int.sub_eq_add_neg]at s2
 obtain⟨z,hz⟩:=H1 (Du (K4 a).2 (L5 (H0 (K4 a).1)) (!(K4 b).2) (L5 (H0 (K4 b).1)))
 rw[<-hz]at c3 s1 s2 s3
 have c4:=wText z.1 z.2 s1 (by omega)
 rw[s2]at c4
 obtain⟨r,hr⟩:=H1 (G8 (val a-val b))
 rw[<-hr]at c4 ⊢
 obtain⟨n1,hn1⟩:=H1 (dNm (K4 a).2 (L5 (H0 (K4 a).1)))
 obtain⟨n2,hn2⟩:=H1 (JX (L5 (H0 (K4 b).1)))
 obtain⟨n3,hn3⟩:=H1 (MQ z.1 z.2)
 rw[<-hn1]at c1 c3
 rw[dNm,<-hn2]at c2 c3
 rw[<-hn3]at c3 c4
 obtain⟨t,ht⟩:=H1 ((K4 b).2)
 rw[<-ht]at c2 c3
 clear hn1 hn2 hn3 hz s1 s2 s3 ht
 refine L7 Tryz.func62 O Tryz.ntmps62 Tryz.results62 fun B w0=>?_
 refine B4 (C9 O (yQ (B4 (B1 O (yC (c2) O O (yZ (cs:=[_,_]) O O (yS (cs':=[_,_]) O O O O O (yQ (B4 ?_)))))))));refine D8 O (D7 O O O (yU O O O (D8 O (EK (cs':=[_,_]) O O O O (yQ (A5 ?_))))));refine G1 Tryz.mixed (by kernel_rfl) ?_;refine B1 O (yC (c1) O O (J8 (ys:=[_,_]) O O O O (yC (c3) O O (yC (c4) O O (C9 O (yQ (C4 ?_)))))))
 exact J2 O O
open Go.RowKit Px
abbrev AK (x:Bk):List DV:=[dI x.1,dS x.2.1,dS x.2.2.1,dS x.2.2.2]
theorem vD_b {d:Int} (h:vD d=true):-9223372036854775808<=d∧d<=9223372036854775807:=by
 simp[vD]at h
 omega
def bst (k:Nat):Bool->Option Nat
 | true=>some (k-1)
 | false=>none
def tkb (tk:List Bool) (k:Nat):Bool->List Bool
 | true=>tk.set (k-1) true
 | false=>tk
theorem ixs' {l:List (Option Nat)} {i:Nat} (h:i<l.length):((l.map AU).map dZ)[(i:Int).toNat]? = some (dZ (AU (l[i]?.getD none))):=by
 rw[H6]
 simp[A4 h]
end Go.Proofs.YtdkpmnefoobipaaGreatDoor