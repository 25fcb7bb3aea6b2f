/- Walks: sizes, the example of the chapter, the law on movements. -/
import Derived.Test.YtdkpmnefoobipaaGreatDoorB6
set_option maxHeartbeats 16000000
set_option maxRecDepth 20000
namespace Go.Proofs.YtdkpmnefoobipaaGreatDoor
open Go.RowKit Px
variable {α:Type} {i:Nat}
def DW (x y:DV):Prop:=∀ (F:Nat->Nat->Prop) (w:World) (v:Value),DRep F w v x->DRep F w v y
def DWs:List DV->List DV->Prop
 | [],[]=>True
 | x::l,y::r=>DW x y∧DWs l r
 | _,_=>False
theorem Bl (x:DV):DW x x:=fun _ _ _ h=>h
theorem dw_nil (k:Nat):DW (.val (.slice none 0 0)) (.sl k []):=fun _ _ _ h=>by
 rw[show _=_ from DRep.val_eq h];exact DRep.nil
theorem JS {l r:List DV} (h:DWs l r):l.length=r.length ∧ ∀ (i:Nat) x y,l[i]? = some x->r[i]? = some y->DW x y:=by
 induction l generalizing r with
 | nil=>cases r with
  | nil=>exact⟨rfl,fun i x y h=>by simp at h⟩
  | cons=>cases h
 | cons x l ih=>
  cases r with
  | nil=>cases h
  | cons y r=>
   obtain⟨h1,h2⟩:=ih h.2
   refine⟨by simp[h1],fun i a b ha hb=>?_⟩
   cases i with
   | zero=>simp at ha hb;subst ha hb;exact h.1
   | succ i=>exact h2 i a b (by simpa using ha) (by simpa using hb)
theorem dw_agg {l r:List DV} (h:DWs l r):DW (.agg l) (.agg r):=fun F w v hd=>by
 obtain⟨h1,h2⟩:=JS h
 generalize e:DV.agg l=q at hd
 cases hd with
 | agg hl h1' hh=>
  cases e
  refine .agg (hl.trans h1) h1' fun i x c hx hc=>?_
  obtain⟨c',hc'⟩:∃ c',l[i]? = some c':=⟨_,A4 (by rw[h1];exact(A6.1 hc).1)⟩
  exact h2 i c' c hc' hc F w x (hh i x c' hx hc')
 | _=>cases e
theorem PCalls.args {P:Program} {f:FuncId} {l r:List DV} {q:SV} (h:PCalls P f r q) (hd:DWs l r):PCalls P f l q:=fun F w vals hl hr hg=>by
 obtain⟨h1,h2⟩:=JS hd
 refine h F w vals (hl.trans h1) (fun i v x hv hx=>?_) hg
 obtain⟨x',hx'⟩:∃ x',l[i]? = some x':=⟨_,A4 (by rw[h1];exact(A6.1 hx).1)⟩
 exact h2 i x' x hx' hx F w v (hr i v x' hv hx')
theorem He (a:F4):PCalls Tryz.prog 67 [dS a] (.d (dB (decide ((a.length:Int) > 13)))):=by
 refine L7 Tryz.func67 O Tryz.ntmps67 Tryz.results67 fun B w0=>?_
 refine B4 (C9 O (yQ (B4 (B1 O (P4 O (yB O O O O (C9 O (yQ (C4 ?_)))))))))
 exact J2 O O
def ED (h:Hd):Bool:=decide ((h.1.length:Int) > 40)||decide ((h.2.length:Int) > 13)
def Cn (m:Mv):Bool:=decide ((m.1.length:Int) > 40)||(decide ((m.2.2.1.length:Int) > 40)||(decide ((m.2.2.2.1.length:Int) > 13)||decide ((m.2.2.2.2.length:Int) > 13)))
def Be (s:Stm):Bool:=decide ((s.hs.length:Int) > 6)||(decide ((s.ms.length:Int) > 8)||(s.hs.any ED||s.ms.any Cn))
theorem Ma {p:α->Bool} {l:List α} {x:α} (h:(l.take i).any p=false) (hx:l[i]? = some x):(l.take (i+1)).any p=p x:=by
 rw[G7,List.any_append,h,hx];simp
theorem MZ {p:α->Bool} {l:List α} (h:(l.take i).any p=true):l.any p=true:=by
 rw[List.any_eq_true]at h ⊢
 obtain⟨x,h1,h2⟩:=h
 exact⟨x,List.mem_of_mem_take h1,h2⟩
theorem Dl {s:Stm} (h:Be s=false):fitS s∧s.hs.length<=6∧s.ms.length<=8∧(∀ x∈s.hs,ED x=false) ∧ ∀ x∈s.ms,Cn x=false:=by
 unfold Be at h
 rw[Bool.or_eq_false_iff,Bool.or_eq_false_iff,Bool.or_eq_false_iff]at h
 obtain⟨h1,h2,h3,h4⟩:=h
 have h1:=of_decide_eq_false h1
 have h2:=of_decide_eq_false h2
 rw[List.any_eq_false]at h3 h4
 refine⟨⟨by omega,by omega,fun x hx=>?_,fun x hx=>?_⟩,by omega,by omega,fun x hx=>by simpa using h3 x hx,fun x hx=>by simpa using h4 x hx⟩
 . have:=h3 x hx
   simp[ED]at this
   exact⟨by omega,by omega⟩
 . have:=h4 x hx
   simp[Cn]at this
   exact⟨by omega,by omega,by omega,by omega⟩
theorem Ii (s:Stm):PCalls Tryz.prog 38 [.agg (DF s)] (.d (dB (Be s))):=by
 obtain⟨d,hs,ms⟩:=s
 obtain⟨r,hr⟩:=H1 (Be ⟨d,hs,ms⟩)
 rw[<-hr]
 unfold Be at hr
 simp only at hr
 have em:((hs.map dH).length:Int)=hs.length:=by simp
 have em2:((ms.map dM).length:Int)=ms.length:=by simp
 refine L7 Tryz.func38 O Tryz.ntmps38 Tryz.results38 fun B w0=>?_
 cases t1:decide (((hs.map dH).length:Int) > 6) with
 | true=>
  rw[<-em,t1]at hr
  rw[hr,Bool.true_or]
  refine B4 (yK (cs:=[_,_,_]) O O (C9 O (yQ (A5 (B4 (D8 O (D7 O O O (yN O (yB O O O O ?_)))))))));refine B1 O ?_;rw[t1];refine yO O (yO O (yO O (yO O (J7 O O (yQ (E0 O (B4 (C9 O (yQ ?_)))))))));refine C4 (A8 ?_)
  exact J2 O O
 | false=>
 cases t2:decide (((ms.map dM).length:Int) > 8) with
 | true=>
  rw[<-em,<-em2,t1,t2]at hr
  rw[hr,Bool.true_or,Bool.or_true]
  refine B4 (yK (cs:=[_,_,_]) O O (C9 O (yQ (A5 (B4 (D8 O (D7 O O O (yN O (yB O O O O ?_)))))))));refine B1 O ?_;rw[t1];refine D8 O (D7 O O O (yN O (yB O O O O (I6 O O (yQ (B6 ?_))))));rw[t2]
  refine E0 O (B4 (C9 O (yQ (C4 (A8 ?_)))))
  exact J2 O O
 | false=>
 have b1:=of_decide_eq_false t1
 have b2:=of_decide_eq_false t2
 rw[<-em,<-em2,t1,t2,Bool.false_or,Bool.false_or]at hr
 rw[em]at b1
 rw[em2]at b2
 refine B4 (yK (cs:=[_,_,_]) O O (C9 O (yQ (A5 (B4 (D8 O (D7 O O O (yN O (yB O O O O ?_)))))))));refine B1 O ?_;rw[t1];refine D8 O (D7 O O O (yN O (yB O O O O (I6 O O (yQ (B6 ?_))))));rw[t2]
 refine B9 O (A7 (A5 (B4 (C9 O (yQ (A9 ?_))))));refine G6 (fun i:Nat=>⟨72,[(1,.bx 1 0),(3,.d (dI i))],[(1,[.d (dI d),.d (.sl 2 (hs.map dH)),.d (.sl 5 (ms.map dM))])],[]⟩) (fun i=>i<=hs.length∧(hs.take i).any ED=false) (fun i=>hs.length-i) 0 ⟨D4 _,O⟩ ⟨rfl,⟨D2,D2,C8⟩,⟨⟨_,O,D2,D2,D2,C8⟩,C8⟩,C8,O⟩ ?_
 rintro i ⟨hi,h0⟩
 refine A5 (B4 (B1 O (D8 O (D7 O O O (yN O (yB O O O O (yQ (B6 ?_))))))));refine H7 O (fun h=>?_) (fun h=>?_)
 . simp at h
   obtain⟨⟨x0,x1⟩,hx⟩:∃ a,hs[i]? = some a:=⟨_,A4 h⟩
   have ei:=ix dH hs i i (x0,x1) rfl hx
   have hw:=H2 ((i:Int)+1) (by omega)
   have c1:=He x1
   have hat:=Ma h0 hx
   have hup:=MZ (p:=ED) (l:=hs) (i:=i+1)
   rw[hat]at hup
   cases t3:decide ((x0.length:Int) > 40) with
   | true=>
    rw[hup (by simp[ED,t3]),Bool.true_or]at hr
    subst hr
    refine A7 (A5 (A9 (B4 (D8 O (D7 O O O (B1 O (yW ei (by omega) O O (Ie O O (K7 O O ?_)))))))));refine P4 O (yB O O O O (B1 O ?_));rw[t3];refine yO O (yO O (yO O (yO O (yO O (yO O (yO O (J7 O O (yQ (E0 O ?_)))))))));refine B4 (C9 O (yQ (C4 (C0 (A8 (A8 (C0 (A8 ?_))))))))
    exact J2 O O
   | false=>
   cases t4:decide ((x1.length:Int) > 13) with
   | true=>
    rw[hup (by simp[ED,t3,t4]),Bool.true_or]at hr
    subst hr
    rw[t4]at c1
    refine A7 (A5 (A9 (B4 (D8 O (D7 O O O (B1 O (yW ei (by omega) O O (Ie O O (K7 O O ?_)))))))));refine P4 O (yB O O O O (B1 O ?_));rw[t3];refine D8 O (D7 O O O (B1 O (yW ei (by omega) O O (Ie O O (K7 O O (yC (c1) O O (I6 O O (yQ (E0 O ?_)))))))));refine B4 (C9 O (yQ (C4 (C0 (A8 (A8 (C0 (A8 ?_))))))))
    exact J2 O O
   | false=>
    rw[t4]at c1
    refine A7 (A5 (A9 (B4 (D8 O (D7 O O O (B1 O (yW ei (by omega) O O (Ie O O (K7 O O ?_)))))))));refine P4 O (yB O O O O (B1 O ?_));rw[t3];refine D8 O (D7 O O O (B1 O (yW ei (by omega) O O (Ie O O (K7 O O (yC (c1) O O (I6 O O (yQ (B9 O ?_)))))))));refine A7 (B3 (B1 O (yB O O O O (C9 O (yQ (B6 ?_))))))
    refine⟨i+1,⟨by omega,by rw[hat];simp[ED,t3,t4]⟩,by omega,rfl,⟨D2,L6 hw,C8⟩,⟨⟨_,rfl,D2,D2,D2,C8⟩,C8⟩,C8,rfl⟩
 simp at h
 rw[D9 (by omega)]at h0
 rw[h0,Bool.false_or]at hr
 clear h0
 refine F6 (A5 (B4 (C9 O (yQ (A9 ?_)))));refine G6 (fun i:Nat=>⟨72,[(1,.bx 1 0),(4,.d (dI i))],[(1,[.d (dI d),.d (.sl 2 (hs.map dH)),.d (.sl 5 (ms.map dM))])],[]⟩) (fun i=>i<=ms.length∧(ms.take i).any Cn=false) (fun i=>ms.length-i) 0 ⟨D4 _,O⟩ ⟨rfl,⟨D2,D2,C8⟩,⟨⟨_,O,D2,D2,D2,C8⟩,C8⟩,C8,O⟩ ?_
 rintro i ⟨hi,h0⟩
 refine A5 (B4 (B1 O (D8 O (D7 O O O (yN O (yB O O O O (yQ (B6 ?_))))))));refine H7 O (fun h=>?_) (fun h=>?_)
 . simp at h
   obtain⟨⟨x0,x1,x2,x3,x4⟩,hx⟩:∃ a,ms[i]? = some a:=⟨_,A4 h⟩
   have ei:=ix dM ms i i (x0,x1,x2,x3,x4) rfl hx
   have hw:=H2 ((i:Int)+1) (by omega)
   have c1:=He x3
   have c2:=He x4
   have hat:=Ma h0 hx
   have hup:=MZ (p:=Cn) (l:=ms) (i:=i+1)
   rw[hat]at hup
   cases t3:decide ((x0.length:Int) > 40) with
   | true=>
    rw[hup (by simp[Cn,t3])]at hr
    subst hr
    refine A7 (A5 (A9 (B4 (D8 O (D7 O O O (B1 O (yW ei (by omega) O O (J9 (ys:=[_,_,_,_,_]) O O O (yZ (cs:=[_,_,_,_,_]) O O ?_)))))))));refine yS (cs':=[_,_,_,_,_]) O O O O O (yQ (B4 (D8 O (D7 O O O (P4 O (yB O O O O (B1 O ?_)))))));rw[t3];refine yO O (yO O (yO O (yO O (J7 O O (B1 O (yO O (yO O (yO O (J7 O O ?_)))))))));refine B1 O (yO O (yO O (yO O (J7 O O (yQ (E0 O (B4 (C9 O (yQ ?_)))))))));refine C4 (C0 (A8 (A8 (C0 (A8 ?_)))))
    exact J2 O O
   | false=>
   cases t4:decide ((x2.length:Int) > 40) with
   | true=>
    rw[hup (by simp[Cn,t3,t4])]at hr
    subst hr
    refine A7 (A5 (A9 (B4 (D8 O (D7 O O O (B1 O (yW ei (by omega) O O (J9 (ys:=[_,_,_,_,_]) O O O (yZ (cs:=[_,_,_,_,_]) O O ?_)))))))));refine yS (cs':=[_,_,_,_,_]) O O O O O (yQ (B4 (D8 O (D7 O O O (P4 O (yB O O O O (B1 O ?_)))))));rw[t3];refine D8 O (D7 O O O (P4 O (yB O O O O (I6 O O (B1 O ?_)))));rw[t4];refine yO O (yO O (yO O (J7 O O (B1 O (yO O (yO O (yO O (J7 O O (yQ ?_)))))))));refine E0 O (B4 (C9 O (yQ (C4 (C0 (A8 (A8 (C0 (A8 ?_)))))))))
    exact J2 O O
   | false=>
   cases t5:decide ((x3.length:Int) > 13) with
   | true=>
    rw[hup (by simp[Cn,t3,t4,t5])]at hr
    subst hr
    rw[t5]at c1
    refine A7 (A5 (A9 (B4 (D8 O (D7 O O O (B1 O (yW ei (by omega) O O (J9 (ys:=[_,_,_,_,_]) O O O (yZ (cs:=[_,_,_,_,_]) O O ?_)))))))));refine yS (cs':=[_,_,_,_,_]) O O O O O (yQ (B4 (D8 O (D7 O O O (P4 O (yB O O O O (B1 O ?_)))))));rw[t3];refine D8 O (D7 O O O (P4 O (yB O O O O (I6 O O (B1 O ?_)))));rw[t4];refine D8 O (D7 O O O (yC (c1) O O (I6 O O (B1 O (yO O (yO O (yO O (J7 O O (yQ ?_)))))))));refine E0 O (B4 (C9 O (yQ (C4 (C0 (A8 (A8 (C0 (A8 ?_)))))))))
    exact J2 O O
   | false=>
   rw[t5]at c1
   cases t6:decide ((x4.length:Int) > 13) with
   | true=>
    rw[hup (by simp[Cn,t3,t4,t5,t6])]at hr
    subst hr
    rw[t6]at c2
    refine A7 (A5 (A9 (B4 (D8 O (D7 O O O (B1 O (yW ei (by omega) O O (J9 (ys:=[_,_,_,_,_]) O O O (yZ (cs:=[_,_,_,_,_]) O O ?_)))))))));refine yS (cs':=[_,_,_,_,_]) O O O O O (yQ (B4 (D8 O (D7 O O O (P4 O (yB O O O O (B1 O ?_)))))));rw[t3];refine D8 O (D7 O O O (P4 O (yB O O O O (I6 O O (B1 O ?_)))));rw[t4];refine D8 O (D7 O O O (yC (c1) O O (I6 O O (B1 O (D8 O (D7 O O O (yC (c2) O O (I6 O O (yQ ?_)))))))));refine E0 O (B4 (C9 O (yQ (C4 (C0 (A8 (A8 (C0 (A8 ?_)))))))))
    exact J2 O O
   | false=>
    rw[t6]at c2
    refine A7 (A5 (A9 (B4 (D8 O (D7 O O O (B1 O (yW ei (by omega) O O (J9 (ys:=[_,_,_,_,_]) O O O (yZ (cs:=[_,_,_,_,_]) O O ?_)))))))));refine yS (cs':=[_,_,_,_,_]) O O O O O (yQ (B4 (D8 O (D7 O O O (P4 O (yB O O O O (B1 O ?_)))))));rw[t3];refine D8 O (D7 O O O (P4 O (yB O O O O (I6 O O (B1 O ?_)))));rw[t4];refine D8 O (D7 O O O (yC (c1) O O (I6 O O (B1 O (D8 O (D7 O O O (yC (c2) O O (I6 O O (yQ ?_)))))))));refine B9 O (A7 (B3 (B1 O (yB O O O O (C9 O (yQ (B6 ?_)))))))
    refine⟨i+1,⟨by omega,by rw[hat];simp[Cn,t3,t4,t5,t6]⟩,by omega,rfl,⟨D2,L6 hw,C8⟩,⟨⟨_,rfl,D2,D2,D2,C8⟩,C8⟩,C8,rfl⟩
 simp at h
 rw[D9 (by omega)]at h0
 rw[h0]at hr
 subst hr
 refine F6 (B4 (C9 O (yQ (C4 ?_))))
 exact J2 O O
theorem wGreat (s t:Stm):PCalls Tryz.prog 10 [.agg (DF s),.agg (DF t)] (.d (dB (Be s||Be t))):=by
 have c1:=Ii s
 have c2:=Ii t
 obtain⟨a,ha⟩:=H1 (Be s)
 obtain⟨b,hb⟩:=H1 (Be t)
 rw[<-ha]at c1 ⊢
 rw[<-hb]at c2 ⊢
 obtain⟨d1,h1,ms⟩:=s
 obtain⟨d2,h2,ts⟩:=t
 cases a with
 | true=>
  refine L7 Tryz.func10 O Tryz.ntmps10 Tryz.results10 fun B w0=>?_
  refine B4 (yK (cs:=[_,_,_]) O O (yK (cs:=[_,_,_]) O O (C9 O (yQ (B4 (J8 (ys:=[_,_,_]) O O O O (yC (c1) O O (B1 O (yO O ?_)))))))));refine yO O (J7 O O (C9 O (yQ (C4 ?_))))
  exact J2 O O
 | false=>
  refine L7 Tryz.func10 O Tryz.ntmps10 Tryz.results10 fun B w0=>?_
  refine B4 (yK (cs:=[_,_,_]) O O (yK (cs:=[_,_,_]) O O (C9 O (yQ (B4 (J8 (ys:=[_,_,_]) O O O O (yC (c1) O O (B1 O (J8 (ys:=[_,_,_]) O O O O ?_)))))))));refine yC c2 O O (I6 O O (C9 O (yQ (C4 ?_))))
  exact J2 O O
def mvv (r:F4) (d q a:Int):Mv:=(r,d,[97,98,99],G8 q,G8 a)
theorem Fz (r:F4) (d q a:Int) (h1:-9223372036854775808<=q) (h2:q<=9223372036854775807) (h3:-9223372036854775808<=a) (h4:a<=9223372036854775807):PCalls Tryz.prog 39 [dS r,dI d,dI q,dI a] (.d (.agg (dM (mvv r d q a)))):=by
 have c1:=wOf q h1 h2
 have c2:=wOf a h3 h4
 refine L7 Tryz.func39 O Tryz.ntmps39 Tryz.results39 fun B w0=>?_
 refine B4 (yZ (cs:=[_,_,_,_,_]) O O (yQ (B4 (B1 O (B1 O (B1 O (yC (c1) O O (B1 O (yC (c2) O O ?_)))))))));refine yG (ys:=[_,_,_,_,_]) O O (yS (cs':=[_,_,_,_,_]) O O O O O (yQ (C4 ?_)))
 exact K9 _ (.agg J5 O O O O .nil) O
def S1:Stm:=⟨30,[],[mvv [97] 10 10 (-500),mvv [98] 20 (-3) 160]⟩
def S2:Stm:=⟨30,[],[mvv [97] 12 10 (-500),mvv [98] 20 (-3) 159]⟩
def S3:Stm:=⟨30,[],[mvv [120] 12 10 (-500)]⟩
theorem aw1:BH S1 S2 5=0:=by kernel_rfl
theorem aw2:HK S1 S2 5=[(5,[97],[49,48],[49,50]),(4,[98],[49,54,48],[49,53,57])]:=by kernel_rfl
theorem aw3:DZ S1 S3 2=[(0,0)]:=by kernel_rfl
theorem aw4:DZ S1 S3 1=[]:=by kernel_rfl
theorem aw5:BH S1 S3 1=0:=by kernel_rfl
theorem aw6:BH S1 S3 2=0:=by kernel_rfl
theorem aw7:Be S1=false:=by kernel_rfl
theorem aw8:Be S2=false:=by kernel_rfl
theorem aw9:Be S3=false:=by kernel_rfl
abbrev IH (s:Stm):List DV:=[dI s.d,.val (.slice none 0 0),.sl 5 (s.ms.map dM)]
theorem EZ (s:Stm) (h:s.hs=[]):DW (.agg (IH s)) (.agg (DF s)):=dw_agg ⟨Bl _,by rw[h];exact dw_nil 2,Bl _,C8⟩
theorem wAwake:PCalls Tryz.prog 11 [] (.d (dB true)):=by
 have m1:=Fz [97] 10 10 (-500) (by omega) (by omega) (by omega) (by omega)
 have m2:=Fz [98] 20 (-3) 160 (by omega) (by omega) (by omega) (by omega)
 have m3:=Fz [97] 12 10 (-500) (by omega) (by omega) (by omega) (by omega)
 have m4:=Fz [98] 20 (-3) 159 (by omega) (by omega) (by omega) (by omega)
 have m5:=Fz [120] 12 10 (-500) (by omega) (by omega) (by omega) (by omega)
 have f1:=(Dl aw7).1
 have f2:=(Dl aw8).1
 have f3:=(Dl aw9).1
 have c1:=PCalls.args (wAll S1 S2 5 f1 f2) (l:=[.agg (IH S1),.agg (IH S2),dI 5]) ⟨EZ S1 rfl,EZ S2 rfl,Bl _,C8⟩
 have c2:=PCalls.args (Kl S1 S3 2 f1 f3) (l:=[.agg (IH S1),.agg (IH S3),dI 2]) ⟨EZ S1 rfl,EZ S3 rfl,Bl _,C8⟩
 have c3:=PCalls.args (Kl S1 S3 1 f1 f3) (l:=[.agg (IH S1),.agg (IH S3),dI 1]) ⟨EZ S1 rfl,EZ S3 rfl,Bl _,C8⟩
 rw[aw1,aw2]at c1
 rw[aw6,aw3]at c2
 rw[aw5,aw4]at c3
 have c4:=wEqB [(5,[97],[49,48],[49,50]),(4,[98],[49,54,48],[49,53,57])] [(5,[97],[49,48],[49,50]),(4,[98],[49,54,48],[49,53,57])] (by simp) (by simp)
 have c5:=wEqP [(0,0)] [(0,0)] (by simp) (by simp)
 rw[C5 rfl]at c4 c5
 refine L7 Tryz.func11 O Tryz.ntmps11 Tryz.results11 fun B w0=>?_
 refine B4 (C9 O (yQ (B4 (yC (m1) O O (yC (m2) O O ?_)))));refine yR (es:=[[_,_,_,_,_],[_,_,_,_,_]]) O O O O O ?_;refine yG (ys:=[_,_,_]) O O (yZ (cs:=[_,_,_]) O O (yS (cs':=[_,_,_]) O O O O O (yQ (B4 (yC (m3) O O (yC (m4) O O ?_))))));refine yR (es:=[[_,_,_,_,_],[_,_,_,_,_]]) O O O O O ?_;refine yG (ys:=[_,_,_]) O O (yZ (cs:=[_,_,_]) O O (yS (cs':=[_,_,_]) O O O O O (yQ (B4 (yC (m5) O O ?_)))));refine yR (es:=[[_,_,_,_,_]]) O O O O O ?_;refine yG (ys:=[_,_,_]) O O (yZ (cs:=[_,_,_]) O O (yS (cs':=[_,_,_]) O O O O O (yQ (B4 (J8 (ys:=[_,_,_]) O O O O (J8 (ys:=[_,_,_]) O O O O (yC (c1) O O (Aw O (yX O O ?_)))))))));refine yX O O (C9 O (C9 O (yQ (B4 (J8 (ys:=[_,_,_]) O O O O (J8 (ys:=[_,_,_]) O O O O (yC (c2) O O (Aw O (yX O O ?_)))))))));refine yX O O (C9 O (C9 O (yQ (B4 (J8 (ys:=[_,_,_]) O O O O (J8 (ys:=[_,_,_]) O O O O (yC (c3) O O (Aw O (yX O O ?_)))))))));refine yX O O (C9 O (C9 O (yQ (B4 (B1 O (yB O O O O (B1 O (B1 O (yB O O O O ?_)))))))));refine J7 O O (B1 O (B1 O (yB O O O O (J7 O O (B1 O (B1 O (yG (ys:=[_,_,_,_]) O O (yG (ys:=[_,_,_,_]) O O ?_))))))));refine yR (es:=[[_,_,_,_],[_,_,_,_]]) O O O O O ?_;refine yC (c4) O O (J7 O O (B1 O (B1 O (yG (ys:=[_,_]) O O ?_))));refine yR (es:=[[_,_]]) O O O O O ?_;refine yC (c5) O O (J7 O O (B1 O (B1 O (yN O (yB O O O O (J7 O O (B1 O (B1 O (yN O ?_)))))))));refine yB O O O O (J7 O O (C9 O (yQ (C4 ?_))))
 exact J2 O O
def marks (f:Nat->Bool):List Bool:=(List.range 8).map f
theorem MS {s t:Stm} {days:Int} (h1:Dx s=0) (h2:Dx t=0) (h3:s.d=t.d) (h4:0<=days) (h5:days<=366):BH s t days=0:=by
 unfold BH
 rw[h1,h2,h3]
 simp
 omega
abbrev mk (f:Nat->Bool):List SV:=(marks f).map fun b=>SV.d (dB b)
abbrev cc (zs:List Int):List SV:=zs.map fun z=>SV.d (dI z)
theorem wEqS (l r:List F4) (hl:l.length<=1000000) (hr:r.length<=1000000):PCalls Tryz.prog 35 [.sl 1 (l.map dC),.sl 1 (r.map dC)] (.d (dB (decide (l=r)))):=by
 refine L7 Tryz.func35 O Tryz.ntmps35 Tryz.results35 fun B w0=>?_
 by_cases hn:l.length=r.length
 rotate_left
 . have t1:(((l.map dC).length:Int) != ((r.map dC).length:Int))=true:=by simp;omega
   rw[C3 fun e=>hn (by rw[e])]
   refine B4 (C9 O (yQ (A5 (B4 (B1 O (yN O (B1 O (yN O (yB O O O O ?_)))))))));refine yQ (B6 ?_);rw[t1];refine E0 O (B4 (C9 O (yQ (C4 (A8 ?_)))))
   exact J2 O O
 have t1:(((l.map dC).length:Int) != ((r.map dC).length:Int))=false:=by simp;omega
 refine B4 (C9 O (yQ (A5 (B4 (B1 O (yN O (B1 O (yN O (yB O O O O ?_)))))))));refine yQ (B6 ?_);rw[t1];refine B9 O (A7 (A5 (B4 (B1 O (yN O (B1 O (yQ (A9 ?_))))))));refine G6 (fun i:Nat=>⟨26,[(0,.d (.sl 1 (l.map dC))),(1,.d (.sl 1 (r.map dC))),(12,.d (dI l.length)),(13,.d (dI i))],[],[]⟩) (fun i=>i<=l.length∧l.take i=r.take i) (fun i=>l.length-i) 0 ⟨D4 _,O⟩ ⟨rfl,⟨D2,D2,Cs (by simp),D2,C8⟩,C8,C8,O⟩ ?_
 rintro i ⟨hi,h0⟩
 rcases G0 i l.length with h|h
 . have u1:decide ((i:Int)<(l.length:Int))=true:=C5 (by omega)
   obtain⟨x,hx⟩:=Fr h
   obtain⟨y,hy⟩:∃ a,r[i]? = some a:=⟨_,A4 (by omega)⟩
   have ex:=ix dC l i i x rfl hx
   have ey:=ix dC r i i y rfl hy
   have hw:=H2 ((i:Int)+1) (by omega)
   by_cases e:x=y
   . have hv:(!(x==y))=false:=by simp[e]
     refine B4 (yB O O O O (yQ (A5 ?_)));rw[u1];refine E0 O (A7 (A5 (A9 (B4 (B1 O (C9 O (yQ (A5 ?_))))))));refine G1 Tryz.mixed (by kernel_rfl) ?_;refine B1 O (B1 O (yW ex (by omega) O O (K7 O O (B1 O (B1 O (yW ey (by omega) O O (K7 O O (K6 O O (yQ ?_)))))))));refine B6 ?_;rw[hv];refine B9 O (A7 (B3 (yB O O O O (B1 O (yQ (B6 ?_))))))
     exact⟨i+1,⟨by omega,CA h0 hx (e ▸ hy)⟩,by omega,rfl,⟨D2,D2,D2,L6 hw,C8⟩,C8,C8,rfl⟩
   . have hv:(!(x==y))=true:=by simpa using e
     rw[C3 fun e2=>e (by subst e2;rw[hx]at hy;exact G4 hy)]
     refine B4 (yB O O O O (yQ (A5 ?_)));rw[u1];refine E0 O (A7 (A5 (A9 (B4 (B1 O (C9 O (yQ (A5 ?_))))))));refine G1 Tryz.mixed (by kernel_rfl) ?_;refine B1 O (B1 O (yW ex (by omega) O O (K7 O O (B1 O (B1 O (yW ey (by omega) O O (K7 O O (K6 O O (yQ ?_)))))))));refine B6 ?_;rw[hv];refine E0 O (B4 (C9 O (yQ (C4 (C0 (A8 (A8 (C0 (A8 ?_)))))))))
     exact J2 O O
 . have u1:decide ((i:Int)<(l.length:Int))=false:=C3 (by omega)
   rw[D9 (by omega),D9 (by omega)]at h0
   rw[C5 h0]
   refine B4 (yB O O O O (yQ (A5 ?_)));rw[u1];refine B9 O (F6 (B4 (C9 O (yQ (C4 ?_)))))
   exact J2 O O
theorem MF {n q:F4} {hs:List Hd} (h:hld n hs=some q):∃ x∈hs,x.2=q:=by
 induction hs with
 | nil=>cases h
 | cons x l ih=>
  rw[hld]at h
  split at h
  . cases h;exact⟨x,by simp,rfl⟩
  . obtain⟨y,h1,h2⟩:=ih h
    exact⟨y,List.mem_cons_of_mem _ h1,h2⟩
theorem KI {h1 h2:List Hd} {k:Nat} (a:∀ h∈h1,h.2.length<=k) (b:∀ h∈h2,h.2.length<=k):∀ x∈Dh h1 h2,x.2.2.1.length<=k∧x.2.2.2.length<=k:=by
 intro x hx
 rw[MK,List.mem_flatMap]at hx
 obtain⟨n,-,hx⟩:=hx
 have s1:∀ q,hld n h1=some q->q.length<=k:=fun q hq=>by
  obtain⟨y,h3,rfl⟩:=MF hq
  exact a y h3
 have s2:∀ q,hld n h2=some q->q.length<=k:=fun q hq=>by
  obtain⟨y,h3,rfl⟩:=MF hq
  exact b y h3
 unfold JO at hx
 cases hb:hld n h2 with
 | none=>
  rw[hb]at hx
  obtain rfl:=List.mem_singleton.1 hx
  refine⟨?_,by simp⟩
  cases ha:hld n h1 with
  | none=>simp
  | some q=>exact s1 q ha
 | some q2=>
  rw[hb]at hx
  have:=s2 q2 hb
  cases ha:hld n h1 with
  | none=>
   rw[ha]at hx
   obtain rfl:=List.mem_singleton.1 hx
   exact⟨by simp,this⟩
  | some q=>
   rw[ha]at hx
   have h4:=s1 q ha
   simp only at hx
   split at hx
   . cases hx
   . obtain rfl:=List.mem_singleton.1 hx
     exact⟨h4,this⟩
theorem GL {k v x:F4} {M:List (F4×F4)} (h:x∈(O6 k v M).map (·.1)):x=k∨x∈M.map (·.1):=by
 rw[CD]at h
 split at h
 . exact .inr h
 . rcases List.mem_append.1 h with h|h
   . exact .inr h
   . exact .inl (List.mem_singleton.1 h)
theorem MI {base:List Hd} {ms:List Mv} {x:F4} (h:x∈(Fs base ms).map (·.1)):(∃ q∈base,q.1=x) ∨ ∃ m∈ms,m.2.2.1=x:=by
 have h1:∀ i,x∈(AV base i).map (·.1)->∃ q∈base,q.1=x:=fun i=>by
  induction i with
  | zero=>intro h;simp[AV]at h
  | succ i ih=>
   rw[AV]
   split
   . exact ih
   . rename_i q hq
     intro h
     rcases GL h with rfl|h
     . exact⟨q,B2 hq,O⟩
     . exact ih h
 have h2:∀ i,x∈(hd2 ms (AV base base.length) i).map (·.1)->(∃ q∈base,q.1=x) ∨ ∃ m∈ms,m.2.2.1=x:=fun i=>by
  induction i with
  | zero=>exact fun h=>.inl (h1 _ h)
  | succ i ih=>
   rw[hd2]
   split
   . exact ih
   . rename_i m hm
     intro h
     rcases GL h with rfl|h
     . exact .inr ⟨m,B2 hm,O⟩
     . exact ih h
 exact h2 _ h
theorem JK {base:List Hd} {ms:List Mv} {p:Hd} (h:p∈Cp base ms):p.1∈(Fs base ms).map (·.1)∧p.2=G9 p.1 (Fs base ms):=by
 obtain⟨k,h1,h2⟩:=List.mem_filterMap.1 h
 have h3:=((P9 _).2 k).1 h1
 unfold kpH at h2
 split at h2
 . cases h2
 . cases h2
   exact⟨h3,O⟩
theorem Fb (base:List Hd) (ms:List Mv):(Cp base ms).length<=base.length+ms.length:=by
 refine E3 (List.length_filterMap_le _ _) (E3 (AZ _) ?_)
 rw[D3]
 exact EW base ms
theorem CM {base:List Hd} {ms:List Mv} (q1:∀ h∈base,h.2.length<=13) (q2:∀ m∈ms,m.2.2.2.1.length<=13):∀ h∈Cp base ms,h.2.length<=13+2*base.length+2*ms.length:=fun h hh=>by
 rw[(JK hh).2]
 exact JM (fun j=>JN q1 _ j) (fun m hm=>by have:=q2 m hm;omega) _ _
theorem JL {d:Int} {base:List Hd} {ms:List Mv} (hb:base.length<=6) (hm:ms.length<=8) (q1:∀ h∈base,h.2.length<=13) (q2:∀ m∈ms,m.2.2.2.1.length<=13) (o1:∀ h∈base,okH h) (o2:∀ m∈ms,okM m):fitS ⟨d,Cp base ms,ms⟩:=by
 refine⟨?_,by show ms.length<=1000;omega,fun h hh=>⟨?_,?_⟩,o2⟩
 . have:=Fb base ms
   show(Cp base ms).length<=64
   omega
 . rcases MI (JK hh).1 with⟨q,hq,e⟩|⟨m,hm,e⟩
   . rw[<-e];exact(o1 q hq).1
   . rw[<-e];exact(o2 m hm).2.1
 . have:=CM q1 q2 h hh;omega
abbrev wT:Nat:=9*100000+12
theorem law9 (s t:Stm) (n:Int) (hn0:0<=n) (hn1:n<=255):PCalls Tryz.prog 9 [.agg (DF s),.agg (DF t),.val (.int .u8 n)] (.d (dB true)):=by
 have c1:=wGreat s t
 have c0:=wAwake
 have hwn:=H2 n (by omega)
 cases hg:(Be s||Be t) with
 | true=>
  rw[hg]at c1
  obtain⟨d1,h1,ms⟩:=s
  obtain⟨d2,h2,ts⟩:=t
  refine L7 Tryz.func9 O Tryz.ntmps9 Tryz.results9 fun B w0=>?_
  refine B4 (yK (cs:=[_,_,_]) O O (yK (cs:=[_,_,_]) O O (C9 O (yQ (A5 (B4 (J8 (ys:=[_,_,_]) O O O O (J8 (ys:=[_,_,_]) O O O O (yC (c1) O O ?_)))))))));refine B1 O (yO O (yO O (yO O (yO O (yO O (J7 O O (yQ (E0 O (B4 ?_)))))))));refine yC (c0) O O (C9 O (yQ (C4 (A8 ?_))))
  exact J2 O O
 | false=>
 rw[hg]at c1
 rw[Bool.or_eq_false_iff]at hg
 obtain⟨f1,a1,a2,a3,a4⟩:=Dl hg.1
 obtain⟨f2,b1,b2,b3,b4⟩:=Dl hg.2
 clear hg
 have qm:∀ {x:Mv},Cn x=false->x.2.2.2.1.length<=13:=fun h=>by simp[Cn]at h;omega
 have qh:∀ {x:Hd},ED x=false->x.2.length<=13:=fun h=>by simp[ED]at h;omega
 have q1:∀ m∈s.ms,m.2.2.2.1.length<=13:=fun m hm=>qm (a4 m hm)
 have q2:∀ m∈t.ms,m.2.2.2.1.length<=13:=fun m hm=>qm (b4 m hm)
 have q0:∀ h∈s.hs,h.2.length<=13:=fun h hh=>qh (a3 h hh)
 obtain⟨d1,h1,ms⟩:=s
 obtain⟨d2,h2,ts⟩:=t
 simp only at c1 a1 a2 b1 b2 q1 q2 q0
 by_cases hd:d1=d2
 rotate_left
 . have t1:(d1 != d2)=true:=by simpa using hd
   refine L7 Tryz.func9 O Tryz.ntmps9 Tryz.results9 fun B w0=>?_
   refine B4 (yK (cs:=[_,_,_]) O O (yK (cs:=[_,_,_]) O O (C9 O (yQ (A5 (B4 (J8 (ys:=[_,_,_]) O O O O (J8 (ys:=[_,_,_]) O O O O (yC (c1) O O ?_)))))))));refine B1 O (D8 O (D7 O O O (D8 O (D7 O O O (yB O O O O (I6 O O (yQ (B6 ?_))))))));rw[t1];refine E0 O (B4 (yC (c0) O O (C9 O (yQ (C4 (A8 ?_))))))
   exact J2 O O
 subst hd
 have t1:(d1 != d1)=false:=by simp
 have g1:=Kr h1 ms (by omega) (by omega) (fun h hh=>by have:=q0 h hh;omega) (fun m hm=>by have:=q1 m hm;omega)
 have g2:=Kr h1 ts (by omega) (by omega) (fun h hh=>by have:=q0 h hh;omega) (fun m hm=>by have:=q2 m hm;omega)
 have F1:=JL (d:=d1) a1 a2 q0 q1 f1.h f1.m
 have F2:=JL (d:=d1) a1 b2 q0 q2 f1.h f2.m
 have e1:=EL _ F1
 have e2:=EL _ F2
 have m1:=CM q0 q1
 have m2:=CM q0 q2
 have ll:=Fc (Cp h1 ms) (Cp h1 ts)
 have l1:=Fb h1 ms
 have l2:=Fb h1 ts
 have hlaw:=MG n h1 ms ts
 obtain⟨A,hA⟩:=H1 (Cp h1 ms)
 obtain⟨T,hT⟩:=H1 (Cp h1 ts)
 rw[<-hA]at g1 F1 e1 m1 ll l1 hlaw
 rw[<-hT]at g2 F2 e2 m2 ll l2 hlaw
 clear hA hT f1 f2 a3 a4 b3 b4
 obtain⟨E1,hE1⟩:=H1 (Dx ⟨d1,A,ms⟩)
 obtain⟨E2,hE2⟩:=H1 (Dx ⟨d1,T,ts⟩)
 rw[<-hE1]at e1
 rw[<-hE2]at e2
 by_cases z1:E1=0
 rotate_left
 . have t2:(E1 != 0)=true:=by simpa using z1
   refine L7 Tryz.func9 O Tryz.ntmps9 Tryz.results9 fun B w0=>?_
   refine B4 (yK (cs:=[_,_,_]) O O (yK (cs:=[_,_,_]) O O (C9 O (yQ (A5 (B4 (J8 (ys:=[_,_,_]) O O O O (J8 (ys:=[_,_,_]) O O O O (yC (c1) O O ?_)))))))));refine B1 O (D8 O (D7 O O O (D8 O (D7 O O O (yB O O O O (I6 O O (yQ (B6 ?_))))))));rw[t1];refine B9 O (A7 (B4 (D8 O (D7 O O O (C9 O (yQ (A5 ?_)))))));refine G1 Tryz.mixed (by kernel_rfl) ?_;refine B1 O (D8 O (D7 O O O (yC (g1) O O (B1 O (D8 O (D7 O O O (yC (g2) O O (D8 O (ySl (cs':=[_,_,_]) O O O O ?_)))))))));refine D8 O (ySl (cs':=[_,_,_]) O O O O (yQ (A5 (B4 (J8 (ys:=[_,_,_]) O O O O (yC (e1) O O (yB O O O O (B1 O ?_))))))));rw[t2];refine yO O (yO O (yO O (J7 O O (yQ (E0 O (B4 (yC (c0) O O (C9 O (yQ ?_)))))))));refine C4 (A8 ?_)
   exact J2 O O
 have t2:(E1 != 0)=false:=by simpa using z1
 by_cases z2:E2=0
 rotate_left
 . have t3:(E2 != 0)=true:=by simpa using z2
   refine L7 Tryz.func9 O Tryz.ntmps9 Tryz.results9 fun B w0=>?_
   refine B4 (yK (cs:=[_,_,_]) O O (yK (cs:=[_,_,_]) O O (C9 O (yQ (A5 (B4 (J8 (ys:=[_,_,_]) O O O O (J8 (ys:=[_,_,_]) O O O O (yC (c1) O O ?_)))))))));refine B1 O (D8 O (D7 O O O (D8 O (D7 O O O (yB O O O O (I6 O O (yQ (B6 ?_))))))));rw[t1];refine B9 O (A7 (B4 (D8 O (D7 O O O (C9 O (yQ (A5 ?_)))))));refine G1 Tryz.mixed (by kernel_rfl) ?_;refine B1 O (D8 O (D7 O O O (yC (g1) O O (B1 O (D8 O (D7 O O O (yC (g2) O O (D8 O (ySl (cs':=[_,_,_]) O O O O ?_)))))))));refine D8 O (ySl (cs':=[_,_,_]) O O O O (yQ (A5 (B4 (J8 (ys:=[_,_,_]) O O O O (yC (e1) O O (yB O O O O (B1 O ?_))))))));rw[t2]
   refine J8 (ys:=[_,_,_]) O O O O (yC (e2) O O (yB O O O O (I6 O O (yQ (B6 ?_)))));rw[t3];refine E0 O (B4 (yC (c0) O O (C9 O (yQ (C4 (A8 ?_))))))
   exact J2 O O
 have t3:(E2 != 0)=false:=by simpa using z2
 have hck:=MS (s:=⟨d1,A,ms⟩) (t:=⟨d1,T,ts⟩) (days:=n) (hE1.symm.trans z1) (hE2.symm.trans z2) rfl hn0 (by omega)
 have q3:=KI (h1:=A) (h2:=T) (k:=41) (fun h hh=>by have:=m1 h hh;omega) (fun h hh=>by have:=m2 h hh;omega)
 have c2:=Bw _ _ F1 F2
 have c3:=Hf _ _ n F1 F2 (fun m hm=>by have:=q1 m hm;omega) (fun m hm=>by have:=q2 m hm;omega) (fun b hb=>by have:=q3 b hb;omega)
 rw[Dg,Dr hck,C2 rfl]at c2
 rw[JQ,C2 hck,hck]at c3
 simp only at c2 c3
 rw[hlaw]at c3
 obtain⟨L,hL⟩:=H1 (Dh A T)
 rw[<-hL]at c2 c3 ll
 have e3:=wEqS (L.map (·.2.1)) (L.map (·.2.1)) (by rw[D3];omega) (by rw[D3];omega)
 rw[C5 rfl]at e3
 have hLl:L.length<=1000:=by omega
 clear hL hlaw q3 hck hE1 hE2 z1 z2 F1 F2 m1 m2
 refine L7 Tryz.func9 O Tryz.ntmps9 Tryz.results9 fun B w0=>?_
 refine B4 (yK (cs:=[_,_,_]) O O (yK (cs:=[_,_,_]) O O (C9 O (yQ (A5 (B4 (J8 (ys:=[_,_,_]) O O O O (J8 (ys:=[_,_,_]) O O O O (yC (c1) O O ?_)))))))));refine B1 O (D8 O (D7 O O O (D8 O (D7 O O O (yB O O O O (I6 O O (yQ (B6 ?_))))))));rw[t1];refine B9 O (A7 (B4 (D8 O (D7 O O O (C9 O (yQ (A5 ?_)))))));refine G1 Tryz.mixed (by kernel_rfl) ?_;refine B1 O (D8 O (D7 O O O (yC (g1) O O (B1 O (D8 O (D7 O O O (yC (g2) O O (D8 O (ySl (cs':=[_,_,_]) O O O O ?_)))))))));refine D8 O (ySl (cs':=[_,_,_]) O O O O (yQ (A5 (B4 (J8 (ys:=[_,_,_]) O O O O (yC (e1) O O (yB O O O O (B1 O ?_))))))));rw[t2]
 refine J8 (ys:=[_,_,_]) O O O O (yC (e2) O O (yB O O O O (I6 O O (yQ (B6 ?_)))));rw[t3];refine B9 O (A7 (B4 (J8 (ys:=[_,_,_]) O O O O (J8 (ys:=[_,_,_]) O O O O (yC (c2) O O (Aw O (yX O O (yX O O (C9 O ?_)))))))));refine C9 O (yQ (B4 (J8 (ys:=[_,_,_]) O O O O (J8 (ys:=[_,_,_]) O O O O (B1 O (yJ O ?_))))));rw[hwn]
 refine yC (c3) O O (Aw O (yX O O (yX O O (C9 O (C9 O (yQ (B4 (C9 O (yQ ?_)))))))));refine FJ 12 wT 1 O O O ?_;refine A5 (B4 (B1 O (yN O (B1 O (yQ (A9 ?_))))));refine G6 (fun i:Nat=>⟨87,[(9,.d (dI 0)),(10,.d (.sl 1 ((L.map (·.2.1)).map dC))),(11,.d (dI 0)),(12,.ts wT 1 (((L.map (·.2.1)).take i).map dC)),(61,.d (.sl 4 (L.map AK))),(62,.d (dI L.length)),(63,.d (dI i))],[],[(wT,(((L.map (·.2.1)).take i).map dC).length)]⟩) (fun i=>i<=L.length) (fun i=>L.length-i) 0 (D4 _)
  ⟨rfl,⟨D2,D2,D2,D2,D2,Cs (by simp),D2,C8⟩,C8,⟨rfl,C8⟩,rfl⟩ ?_
 intro i hi
 rcases G0 i L.length with h|h
 . have u1:decide ((i:Int)<(L.length:Int))=true:=C5 (by omega)
   obtain⟨⟨b0,b1,b2',b3⟩,hb⟩:∃ a,L[i]? = some a:=⟨_,A4 h⟩
   have eb:=ix AK L i i (b0,b1,b2',b3) rfl hb
   have hw:=H2 ((i:Int)+1) (by omega)
   have hnx:(L.map (·.2.1)).take (i+1)=(L.map (·.2.1)).take i++[b1]:=by
    rw[G7,B5,hb];rfl
   have hzl:((L.map (·.2.1)).take i).length<=1000:=by rw[F3];omega
   obtain⟨zs,hzs⟩:=H1 ((L.map (·.2.1)).take i)
   rw[<-hzs]at hnx hzl ⊢
   clear hzs
   refine B4 (yB O O O O (yQ (A5 ?_)));rw[u1];refine E0 O (A7 (A5 (A9 (B4 (yW eb (by omega) O O (J9 (ys:=[_,_,_,_]) O O O (yZ (cs:=[_,_,_,_]) O O (yS (cs':=[_,_,_,_]) O O O O O (yQ ?_)))))))));refine B3 (Ib O (D8 O (D7 O O O ?_)));refine yR (es:=[[_]]) O O O O O ?_;refine yT (es':=(zs++[b1]).map dC) (m:=((zs++[b1]).map dC).length) (by simp;omega) (by simp;omega) O O O O O (by simp) (by simp) ?_;refine Fu O (yQ (B3 (yB O O O O (B1 O (yQ (B6 ?_))))))
   exact⟨i+1,by omega,by omega,rfl,⟨D2,D2,D2,.of_eq (by rw[hnx]<;>rfl),D2,D2,L6 hw,C8⟩,C8,⟨(by rw[hnx]<;>rfl),C8⟩,rfl⟩
 . have u1:decide ((i:Int)<(L.length:Int))=false:=C3 (by omega)
   rw[D9 (by rw[D3];omega)]
   refine B4 (yB O O O O (yQ (A5 ?_)));rw[u1];refine B9 O (F6 (B4 (B1 O (yB O O O O (B1 O (B1 O (yB O O O O (J7 O O (B1 O ?_)))))))));refine B1 O (Ib O (yC (e3) O O (J7 O O (B1 O (yC (c0) O O (J7 O O (C9 O (yQ (C4 ?_)))))))))
   exact J2 O O
theorem I8 {a b:Bool} (h:a=true) (h':b=true):(a&&b)=true:=by rw[h,h'];rfl
theorem GK:laidOutB Tryz.prog=true:=by kernel_rfl
theorem GJ:mapsRowed Tryz.prog=true:=by kernel_rfl
theorem GI:(Tryz.prog.stops==[])=true:=by kernel_rfl
theorem GH:(Tryz.prog.stopKnobs==[])=true:=by kernel_rfl
theorem Cj:Tryz.prog.plainKeys=true:=by kernel_rfl
theorem FB:Tryz.prog.stopsHeard=true:=by kernel_rfl
theorem FA:Tryz.prog.mayEnter=true:=by kernel_rfl
theorem CC:Tryz.prog.liftsFinal=false:=by kernel_rfl
end Go.Proofs.YtdkpmnefoobipaaGreatDoor