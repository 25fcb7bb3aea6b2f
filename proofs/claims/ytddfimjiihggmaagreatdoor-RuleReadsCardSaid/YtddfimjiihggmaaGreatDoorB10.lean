/- Walks: the reference's long numbers: groups, comparisons, sums, differences, products. -/
import Derived.Test.YtddfimjiihggmaaGreatDoorB9
set_option maxHeartbeats 16000000
set_option maxRecDepth 20000
namespace Go.Proofs.YtddfimjiihggmaaGreatDoor
open Go.RowKit Px
variable {r:Nat}
abbrev dJ (x:Nat):List DV:=[dI x]
abbrev dJm (b:Bool) (l:List Nat):List DV:=[dB b,.sl 1 (l.map dJ)]
theorem Lk (l:List Nat) (i:Nat):PCalls Tryz.prog 263 [.sl 1 (l.map dJ),dI i] (.d (dI (S0 l i))):=by
 refine L5 Tryz.func263 C Tryz.ntmps263 Tryz.results263 fun B w0=>?_
 rcases D5 i l.length with h|h
 . have t1:decide ((i:Int)<((l.map dJ).length:Int))=true:=B0 (by rw[A8];omega)
   obtain⟨x,hx⟩:=DJ h
   have ex:=ix dJ l i i x rfl hx
   rw[V9 hx]
   refine D7 (H3 C (yQ (B2 (D7 (B6 C (B6 C (yN C (yB C C C C (yQ ?_)))))))));refine B3 ?_;rw[t1];refine G2 C (D7 (B6 C (B6 C (yW ex (by omega) C C (K5 C C (H3 C (yQ (C4 (A5 ?_)))))))))
   exact M5 C C
 . have t1:decide ((i:Int)<((l.map dJ).length:Int))=false:=A7 (by rw[A8];omega)
   rw[Di h]
   refine D7 (H3 C (yQ (B2 (D7 (B6 C (B6 C (yN C (yB C C C C (yQ ?_)))))))));refine B3 ?_;rw[t1];refine D8 C (B1 (D7 (H3 C (yQ (C4 ?_)))))
   exact M5 C C
theorem QA (l:List Nat) (hl:l.length<=1000000):PCalls Tryz.prog 264 [.sl 1 (l.map dJ)] (.d (.sl 1 ((S7 l).map dJ))):=by
 obtain⟨r,hr⟩:=H8 (S7 l)
 rw[<-hr]
 refine L5 Tryz.func264 C Tryz.ntmps264 Tryz.results264 fun B w0=>?_
 refine D7 (H3 C (yQ (B2 (B7 ?_))));refine H9 (fun n:Nat=>⟨21,[(0,.d (.sl 1 ((l.take n).map dJ)))],[],[]⟩) (fun n=>n<=l.length∧S7 (l.take n)=r) (fun n=>n) l.length ⟨E0 _,by rw[I2,hr]⟩
  ⟨rfl,⟨.of_eq (by rw[I2];rfl),D3⟩,D3,D3,rfl⟩ ?_
 rintro n ⟨hn,hc⟩
 have hlen:(l.take n).length=n:=by rw[F4];omega
 have hnx:∀ x,(l.take n)[n-1]? = some x->0<n->l.take n=l.take (n-1)++[x]:=fun x hx h0=>by
  obtain⟨m,rfl⟩:∃ m,n=m+1:=⟨n-1,by omega⟩
  rw[E8 (by omega)]at hx
  rw[H4,Nat.add_sub_cancel]at *
  rw[hx];rfl
 have htk:((l.take n).map dJ).take (((n-1:Nat):Int)).toNat=(l.take (n-1)).map dJ:=by
  rw[H1,<-List.map_take,List.take_take,Nat.min_eq_left (by omega)]
 obtain⟨c,hcc⟩:=H8 (l.take n)
 rw[<-hcc]at hc hlen hnx htk ⊢
 rcases H7 n with h0|h0
 . have hc0:c=[]:=List.length_eq_zero_iff.1 (by omega)
   subst hc0
   have hr0:r=[]:=hc.symm
   subst hr0
   refine B2 (D7 (B6 C (yN C (yB C C C C (B6 C (yO C (yO C (yO C (yO C ?_)))))))));refine yO C (yO C (yO C (K9 C C (yQ (D8 C (F9 (D7 (B6 C (H3 C ?_)))))))));refine yQ (C4 ?_)
   exact M5 C C
 have u1:decide (((c.map dJ).length:Int) > 0)=true:=B0 (by rw[A8];omega)
 obtain⟨x,hx⟩:∃ x,c[n-1]? = some x:=⟨_,A4 (by omega)⟩
 have ex:=ix dJ c ((n-1:Nat):Int) (n-1) x rfl hx
 have hw:IntKind.i64.wrap (((c.map dJ).length:Int)-1)=((n-1:Nat):Int):=by rw[A8,I8 _ (by omega)];omega
 have hcl:((n-1:Nat):Int)<=((c.map dJ).length:Int):=by rw[A8];omega
 have hs:=hnx x hx h0
 have hcs:=Im (l.take (n-1)) x
 rw[<-hs,hc]at hcs
 rcases H7 x with hx0|hx0
 . subst hx0
   rw[B9 rfl]at hcs
   refine B2 (D7 (B6 C (yN C (yB C C C C (B6 C ?_)))));rw[u1];refine B6 C (B6 C (yN C (yB C C C C ?_)));rw[hw];refine yW ex (by omega) C C (K5 C C (yB C C C C (L0 C C (yQ (G2 C (B1 (B7 (B4 (B6 C ?_)))))))));refine B6 C (yN C (yB C C C C ?_));rw[hw];refine yDh (by omega) hcl C C (H3 C (yQ (BA (B3 ?_))))
   exact⟨n-1,⟨by omega,hcs.symm⟩,by omega,rfl,⟨.of_eq (by rw[<-htk];rfl),D3⟩,D3,D3,rfl⟩
 . rw[B5 (by omega)]at hcs
   have u2:((x:Int)==0)=false:=by simp;omega
   refine B2 (D7 (B6 C (yN C (yB C C C C (B6 C ?_)))));rw[u1];refine B6 C (B6 C (yN C (yB C C C C ?_)));rw[hw];refine yW ex (by omega) C C (K5 C C (yB C C C C (L0 C C (yQ (B3 ?_)))));rw[u2];refine D8 C (F9 (D7 (B6 C (H3 C (yQ (C4 ?_))))))
   rw[hcs]
   exact M5 C C
def RZ (l r:List Nat):Int:=if l.length<r.length then -1 else if r.length<l.length then 1 else Ex l r l.length
theorem ordR_ge (x y:Nat):(0<=RZ (N5 x) (N5 y))↔y<=x:=by
 unfold RZ
 by_cases h1:(N5 x).length<(N5 y).length
 . rw[B9 h1]
   have:=V6 h1
   omega
 . rw[B5 h1]
   by_cases h2:(N5 y).length<(N5 x).length
   . rw[B9 h2]
     have:=V6 h2
     omega
   . rw[B5 h2,Ip (N7 x) (N7 y),E3 (E0 _),E3 (by omega),N1,N1]
     split
     . omega
     . split<;>omega
theorem wOrder (l r:List Nat) (hl:l.length<=1000000):PCalls Tryz.prog 241 [.sl 1 (l.map dJ),.sl 1 (r.map dJ)] (.d (dI (RZ l r))):=by
 unfold RZ
 by_cases h1:l.length<r.length
 . rw[B9 h1]
   have u1:(((l.map dJ).length:Int) != ((r.map dJ).length:Int))=true:=by simp;omega
   have u2:decide (((l.map dJ).length:Int)<((r.map dJ).length:Int))=true:=B0 (by simp;omega)
   refine L5 Tryz.func241 C Tryz.ntmps241 Tryz.results241 fun B w0=>?_
   refine D7 (H3 C (yQ (B2 (D7 (B6 C (yN C (B6 C (yN C (yB C C C C ?_)))))))));refine yQ (B3 ?_);rw[u1];refine G2 C (B2 (D7 (B6 C (yN C (B6 C (yN C (yB C C C C (yQ (B3 ?_)))))))));rw[u2];refine G2 C (D7 (H3 C (yQ (C4 (A5 (A5 ?_))))))
   exact M5 C C
 rw[B5 h1]
 by_cases h2:r.length<l.length
 . rw[B9 h2]
   have u1:(((l.map dJ).length:Int) != ((r.map dJ).length:Int))=true:=by simp;omega
   have u2:decide (((l.map dJ).length:Int)<((r.map dJ).length:Int))=false:=A7 (by simp;omega)
   refine L5 Tryz.func241 C Tryz.ntmps241 Tryz.results241 fun B w0=>?_
   refine D7 (H3 C (yQ (B2 (D7 (B6 C (yN C (B6 C (yN C (yB C C C C ?_)))))))));refine yQ (B3 ?_);rw[u1];refine G2 C (B2 (D7 (B6 C (yN C (B6 C (yN C (yB C C C C (yQ (B3 ?_)))))))));rw[u2];refine D8 C (B1 (D7 (H3 C (yQ (C4 (A5 ?_))))))
   exact M5 C C
 rw[B5 h2]
 have hlr:l.length=r.length:=by omega
 have u1:(((l.map dJ).length:Int) != ((r.map dJ).length:Int))=false:=by simp;omega
 obtain⟨z,hz⟩:=H8 (Ex l r l.length)
 rw[<-hz]
 have hw:IntKind.i64.wrap (((l.map dJ).length:Int)-1)=(l.length:Int)-1:=by rw[A8,I8 _ (by omega)]
 refine L5 Tryz.func241 C Tryz.ntmps241 Tryz.results241 fun B w0=>?_
 refine D7 (H3 C (yQ (B2 (D7 (B6 C (yN C (B6 C (yN C (yB C C C C ?_)))))))));refine yQ (B3 ?_);rw[u1];refine D8 C (B1 (B2 (D7 (B6 C (yN C (yB C C C C (H3 C (yQ (B7 ?_)))))))));rw[hw]
 refine H9 (fun i:Nat=>⟨41,[(0,.d (.sl 1 (l.map dJ))),(1,.d (.sl 1 (r.map dJ))),(5,.d (dI ((i:Int)-1)))],[],[]⟩) (fun i=>i<=l.length∧Ex l r i=z) (fun i=>i) l.length ⟨E0 _,hz.symm⟩
  ⟨rfl,⟨E6,E6,E6,D3⟩,D3,D3,rfl⟩ ?_
 rintro i ⟨hi,hc⟩
 rcases H7 i with h0|h0
 . subst h0
   have hz0:z=0:=hc.symm
   subst hz0
   have u2:decide (((0:Nat):Int)-1 ≥ 0)=false:=A7 (by omega)
   refine B2 (D7 (B6 C (yB C C C C (yQ (D8 C (F9 (D7 (H3 C (yQ ?_)))))))));refine C4 ?_;rw[u2]
   exact M5 C C
 obtain⟨j,rfl⟩:∃ j,i=j+1:=⟨i-1,by omega⟩
 have u2:decide (((j+1:Nat):Int)-1 ≥ 0)=true:=B0 (by omega)
 obtain⟨x,hx⟩:∃ x,l[j]? = some x:=⟨_,A4 (by omega)⟩
 obtain⟨y,hy⟩:∃ y,r[j]? = some y:=⟨_,A4 (by omega)⟩
 have ex:=ix dJ l (((j+1:Nat):Int)-1) j x (by omega) hx
 have ey:=ix dJ r (((j+1:Nat):Int)-1) j y (by omega) hy
 have hn:=Iq j hx hy
 rw[hc]at hn
 have hw2:IntKind.i64.wrap (((j+1:Nat):Int)-1-1)=(j:Int)-1:=by rw[I8 _ (by omega)];omega
 by_cases hxy:x<y
 . rw[B9 hxy]at hn
   have u3:decide ((x:Int)<(y:Int))=true:=B0 (by omega)
   subst hn
   refine B2 (D7 (B6 C (yB C C C C (yQ (B3 ?_)))));rw[u2];refine G2 C (B1 (B2 (B7 (B2 (B2 ?_)))));refine J2 Tryz.mixed (by kernel_rfl) ?_;refine B6 C (B6 C (yW ex (by omega) C C (K5 C C (B6 C (B6 C (yW ey (by omega) C C (K5 C C (yB C C C C (yQ ?_)))))))));refine B3 ?_;rw[u3];refine G2 C (D7 (H3 C (yQ (C4 (A5 (C3 (A5 (A5 (C3 ?_)))))))));refine A5 ?_
   exact M5 C C
 rw[B5 hxy]at hn
 have u3:decide ((x:Int)<(y:Int))=false:=A7 (by omega)
 by_cases hyx:y<x
 . rw[B9 hyx]at hn
   have u4:decide ((x:Int) > (y:Int))=true:=B0 (by omega)
   subst hn
   refine B2 (D7 (B6 C (yB C C C C (yQ (B3 ?_)))));rw[u2];refine G2 C (B1 (B2 (B7 (B2 (B2 ?_)))));refine J2 Tryz.mixed (by kernel_rfl) ?_;refine B6 C (B6 C (yW ex (by omega) C C (K5 C C (B6 C (B6 C (yW ey (by omega) C C (K5 C C (yB C C C C (yQ ?_)))))))));refine B3 ?_;rw[u3];refine D8 C (B1 (B2 ?_));refine J2 Tryz.mixed (by kernel_rfl) ?_;refine B6 C (B6 C (yW ex (by omega) C C (K5 C C (B6 C (B6 C (yW ey (by omega) C C (K5 C C (yB C C C C (yQ ?_)))))))));refine B3 ?_;rw[u4];refine G2 C (D7 (H3 C (yQ (C4 (C3 (A5 (A5 (C3 (A5 ?_)))))))))
   exact M5 C C
 rw[B5 hyx]at hn
 have u4:decide ((x:Int) > (y:Int))=false:=A7 (by omega)
 refine B2 (D7 (B6 C (yB C C C C (yQ (B3 ?_)))));rw[u2];refine G2 C (B1 (B2 (B7 (B2 (B2 ?_)))));refine J2 Tryz.mixed (by kernel_rfl) ?_;refine B6 C (B6 C (yW ex (by omega) C C (K5 C C (B6 C (B6 C (yW ey (by omega) C C (K5 C C (yB C C C C (yQ ?_)))))))));refine B3 ?_;rw[u3];refine D8 C (B1 (B2 ?_));refine J2 Tryz.mixed (by kernel_rfl) ?_;refine B6 C (B6 C (yW ex (by omega) C C (K5 C C (B6 C (B6 C (yW ey (by omega) C C (K5 C C (yB C C C C (yQ ?_)))))))));refine B3 ?_;rw[u4];refine D8 C (B1 (B4 (B6 C (yB C C C C (H3 C (yQ (B3 ?_)))))));rw[hw2]
 exact⟨j,⟨by omega,hn.symm⟩,by omega,rfl,⟨E6,E6,E6,D3⟩,D3,D3,rfl⟩
abbrev jT (n:Nat):Nat:=3*100000+n
theorem Sx {m n:List Nat} (hm:gok m) (hn:gok n) {i:Nat} (h1:m.length<=i) (h2:n.length<=i) (h3:(P9 m n i).2=0):gok (P9 m n i).1∧K6 (P9 m n i).1=K6 m+K6 n:=by
 obtain⟨-,q1,-,q2⟩:=Aa hm hn i
 rw[h3,E3 h1,E3 h2]at q2
 exact⟨q1,by omega⟩
theorem wPlusJ (m n:List Nat) (hgm:gok m) (hgn:gok n) (hlm:m.length<=100000) (hln:n.length<=100000):PCalls Tryz.prog 240 [.sl 1 (m.map dJ),.sl 1 (n.map dJ)] (.d (.sl 1 ((N5 (K6 m+K6 n)).map dJ))):=by
 obtain⟨r,hr⟩:=H8 (N5 (K6 m+K6 n))
 rw[<-hr]
 have hml:((m.map dJ).length:Int)=(m.length:Int):=by simp
 have hnl:((n.map dJ).length:Int)=(n.length:Int):=by simp
 refine L5 Tryz.func240 C Tryz.ntmps240 Tryz.results240 fun B w0=>?_
 refine D7 (H3 C (yQ (D7 (yRt (E:=3) (t:=jT 9) (es:=[]) C C C C C C C C (DX C (yQ (D7 (H3 C (yQ ?_)))))))));refine B2 (D7 (H3 C (yQ (B7 ?_))));refine H9 (fun i:Nat=>⟨44,[(0,.d (.sl 1 (m.map dJ))),(1,.d (.sl 1 (n.map dJ))),(5,.ts (jT 9) 1 ((P9 m n i).1.map dJ)),(6,.d (dI (P9 m n i).2)),(7,.d (dI i))],[],[(jT 9,((P9 m n i).1.map dJ).length)]⟩) (fun i=>i<=max m.length n.length+1∧(i=max m.length n.length+1->(P9 m n i).2=0)) (fun i=>max m.length n.length+1-i) 0 ⟨E7 _,fun h=>by omega⟩
  ⟨rfl,⟨E6,E6,E6,E6,E6,D3⟩,D3,⟨rfl,D3⟩,rfl⟩ ?_
 rintro i ⟨hi,hlast⟩
 obtain⟨h1,h2,h3,-⟩:=Aa hgm hgn i
 have hend:=Sx hgm hgn (i:=i)
 have hnx:=FD m n i
 obtain⟨⟨p,c⟩,hp⟩:=H8 (P9 m n i)
 rw[<-hp]at h1 h2 h3 hnx hlast hend ⊢
 simp only at h1 h2 h3 hnx hlast hend ⊢
 have step:(i<m.length∨i<n.length∨0<c)->∀ b:Bool,True:=fun _ _=>trivial
 clear step
 have k1:=Lk m i
 have k2:=Lk n i
 have g1:=CC hgm i
 have g2:=CC hgn i
 have gm0:m.length<=i->S0 m i=0:=fun h=>Di h
 have gn0:n.length<=i->S0 n i=0:=fun h=>Di h
 obtain⟨x,hx⟩:=H8 (S0 m i)
 obtain⟨y,hy⟩:=H8 (S0 n i)
 rw[<-hx]at k1 g1 gm0 hnx
 rw[<-hy]at k2 g2 gn0 hnx
 have w1:IntKind.i64.wrap ((x:Int)+(y:Int))=((x+y:Nat):Int):=by rw[I8 _ (by omega)];omega
 have w2:IntKind.i64.wrap (((x+y:Nat):Int)+(c:Int))=((x+y+c:Nat):Int):=by rw[I8 _ (by omega)];omega
 have hsw:x+c+y=x+y+c:=by omega
 rw[hsw]at hnx
 obtain⟨s,hs⟩:=H8 (x+y+c)
 rw[<-hs]at w2 hnx
 have wq:IntKind.i64.wrap ((s:Int).tdiv 1000000000)=((s / 1000000000:Nat):Int):=I8 (((s / 1000000000:Nat)):Int) (by omega)
 have w12:IntKind.i64.wrap ((x:Int)+(y:Int)+(c:Int))=(s:Int):=by rw[I8 _ (by omega)];omega
 have hwi:=I8 ((i:Int)+1) (by omega)
 have hcar:i=max m.length n.length->s / 1000000000=0:=fun e=>by
  have:=gm0 (by omega)
  have:=gn0 (by omega)
  omega
 have hl2:p.length<=1000000:=by omega
 rcases D5 i m.length with hm2|hm2
 . have t1:decide ((i:Int)<((m.map dJ).length:Int))=true:=B0 (by rw[A8];omega)
   refine B2 (D7 (B6 C (B6 C (yN C (yB C C C C (B6 C ?_))))));rw[t1];refine yO C (yO C (yO C (yO C (L0 C C (B6 C (yO C (yO C (L0 C C (yQ ?_)))))))));refine G2 C (B1 (B2 (B7 (D7 (B6 C (B6 C (yC (k1) C C (B6 C (B6 C ?_)))))))));refine yC (k2) C C (yB C C C C (B6 C (yB C C C C (H3 C (yQ (D7 (CM C (B6 C (yB C C C C ?_)))))))));refine yR (es:=[[_]]) C C C C C ?_;refine yT (es':=(p++[s % 1000000000]).map dJ) (m:=((p++[s % 1000000000]).map dJ).length) (by simp;omega) (by simp;omega) C C C C C (by simp[w1,w12]<;>rfl) (by simp) ?_;refine DX C (yQ (B4 (B6 C (yB C C C C (H3 C (yQ (B4 (B6 C (yB C C C C ?_)))))))));refine H3 C (yQ (B3 ?_));rw[w1]
   rw[w2];rw[wq]
   exact⟨i+1,⟨by omega,fun e=>by rw[hnx];exact hcar (by omega)⟩,by omega,rfl,⟨E6,E6,.of_eq (by rw[hnx]<;>rfl),.of_eq (by rw[hnx]<;>rfl),P2 hwi,D3⟩,D3,⟨(by rw[hnx]<;>rfl),D3⟩,rfl⟩
 have t1:decide ((i:Int)<((m.map dJ).length:Int))=false:=A7 (by rw[A8];omega)
 rcases D5 i n.length with hn2|hn2
 . have t2:decide ((i:Int)<((n.map dJ).length:Int))=true:=B0 (by rw[A8];omega)
   refine B2 (D7 (B6 C (B6 C (yN C (yB C C C C (B6 C ?_))))));rw[t1];refine B6 C (B6 C (yN C (yB C C C C (K9 C C (B6 C ?_)))));rw[t2];refine yO C (yO C (L0 C C (yQ (G2 C (B1 (B2 (B7 (D7 (B6 C ?_)))))))));refine B6 C (yC (k1) C C (B6 C (B6 C (yC (k2) C C (yB C C C C (B6 C (yB C C C C (H3 C (yQ ?_)))))))));refine D7 (CM C (B6 C (yB C C C C ?_)));refine yR (es:=[[_]]) C C C C C ?_;refine yT (es':=(p++[s % 1000000000]).map dJ) (m:=((p++[s % 1000000000]).map dJ).length) (by simp;omega) (by simp;omega) C C C C C (by simp[w1,w12]<;>rfl) (by simp) ?_;refine DX C (yQ (B4 (B6 C (yB C C C C (H3 C (yQ (B4 (B6 C (yB C C C C ?_)))))))));refine H3 C (yQ (B3 ?_));rw[w1]
   rw[w2];rw[wq]
   exact⟨i+1,⟨by omega,fun e=>by rw[hnx];exact hcar (by omega)⟩,by omega,rfl,⟨E6,E6,.of_eq (by rw[hnx]<;>rfl),.of_eq (by rw[hnx]<;>rfl),P2 hwi,D3⟩,D3,⟨(by rw[hnx]<;>rfl),D3⟩,rfl⟩
 have t2:decide ((i:Int)<((n.map dJ).length:Int))=false:=A7 (by rw[A8];omega)
 rcases H7 c with hc|hc
 . subst hc
   have k3:=QA p (by omega)
   obtain⟨e1,e2⟩:=hend hm2 hn2 rfl
   rw[LM e1,e2,<-hr]at k3
   refine B2 (D7 (B6 C (B6 C (yN C (yB C C C C (B6 C ?_))))));rw[t1];refine B6 C (B6 C (yN C (yB C C C C (K9 C C (B6 C ?_)))));rw[t2];refine B6 C (yB C C C C (K9 C C (yQ (D8 C (F9 (D7 (CM C (yC (k3) C C (H3 C ?_)))))))));refine yQ (C4 ?_)
   exact M5 C C
 . have t3:decide ((c:Int) > 0)=true:=B0 (by omega)
   have hi2:i=max m.length n.length:=by
    rcases D5 i (max m.length n.length+1)with h|h
    . omega
    . have:=hlast (by omega);omega
   refine B2 (D7 (B6 C (B6 C (yN C (yB C C C C (B6 C ?_))))));rw[t1];refine B6 C (B6 C (yN C (yB C C C C (K9 C C (B6 C ?_)))));rw[t2];refine B6 C (yB C C C C (K9 C C (yQ (B3 ?_))));rw[t3];refine G2 C (B1 (B2 (B7 (D7 (B6 C (B6 C (yC (k1) C C (B6 C (B6 C ?_)))))))));refine yC (k2) C C (yB C C C C (B6 C (yB C C C C (H3 C (yQ (D7 (CM C (B6 C (yB C C C C ?_)))))))));refine yR (es:=[[_]]) C C C C C ?_;refine yT (es':=(p++[s % 1000000000]).map dJ) (m:=((p++[s % 1000000000]).map dJ).length) (by simp;omega) (by simp;omega) C C C C C (by simp[w1,w12]<;>rfl) (by simp) ?_;refine DX C (yQ (B4 (B6 C (yB C C C C (H3 C (yQ (B4 (B6 C (yB C C C C ?_)))))))));refine H3 C (yQ (B3 ?_));rw[w1]
   rw[w2];rw[wq]
   exact⟨i+1,⟨by omega,fun e=>by rw[hnx];exact hcar hi2⟩,by omega,rfl,⟨E6,E6,.of_eq (by rw[hnx]<;>rfl),.of_eq (by rw[hnx]<;>rfl),P2 hwi,D3⟩,D3,⟨(by rw[hnx]<;>rfl),D3⟩,rfl⟩
theorem NC (m n:List Nat) (hgm:gok m) (hgn:gok n) (hle:n.length<=m.length) (hv:K6 n<=K6 m) (hlm:m.length<=100000):PCalls Tryz.prog 242 [.sl 1 (m.map dJ),.sl 1 (n.map dJ)] (.d (.sl 1 ((N5 (K6 m-K6 n)).map dJ))):=by
 obtain⟨r,hr⟩:=H8 (N5 (K6 m-K6 n))
 rw[<-hr]
 obtain⟨s1,s2⟩:=KO hgm hgn hle hv
 refine L5 Tryz.func242 C Tryz.ntmps242 Tryz.results242 fun B w0=>?_
 refine D7 (H3 C (yQ (D7 (yRt (E:=3) (t:=jT 9) (es:=[]) C C C C C C C C (DX C (yQ (D7 (H3 C (yQ ?_)))))))));refine B2 (D7 (H3 C (yQ (B7 ?_))));refine H9 (fun i:Nat=>⟨36,[(0,.d (.sl 1 (m.map dJ))),(1,.d (.sl 1 (n.map dJ))),(5,.ts (jT 9) 1 ((R6 m n i).1.map dJ)),(6,.d (dI (R6 m n i).2)),(7,.d (dI i))],[],[(jT 9,((R6 m n i).1.map dJ).length)]⟩) (fun i=>i<=m.length) (fun i=>m.length-i) 0 (E7 _)
  ⟨rfl,⟨E6,E6,E6,E6,E6,D3⟩,D3,⟨rfl,D3⟩,rfl⟩ ?_
 intro i hi
 obtain⟨h1,h2,h3,-⟩:=AX hgm hgn i
 have hnx:=IK m n i
 rcases D5 i m.length with hi2|hi2
 rotate_left
 . obtain rfl:i=m.length:=by omega
   have t1:decide ((m.length:Int)<((m.map dJ).length:Int))=false:=A7 (by rw[A8];omega)
   have k3:=QA (R6 m n m.length).1 (by omega)
   rw[LM s1,s2,<-hr]at k3
   obtain⟨⟨p,c⟩,hp⟩:=H8 (R6 m n m.length)
   rw[<-hp]at k3 ⊢
   refine B2 (D7 (B6 C (B6 C (yN C (yB C C C C (yQ (B3 ?_)))))));rw[t1];refine D8 C (F9 (D7 (CM C (yC (k3) C C (H3 C (yQ (C4 ?_)))))))
   exact M5 C C
 obtain⟨⟨p,c⟩,hp⟩:=H8 (R6 m n i)
 rw[<-hp]at h1 h2 h3 hnx ⊢
 simp only at h1 h2 h3 hnx ⊢
 have t1:decide ((i:Int)<((m.map dJ).length:Int))=true:=B0 (by rw[A8];omega)
 have k2:=Lk n i
 obtain⟨x,hx⟩:=DJ hi2
 have ex:=ix dJ m (i:Int) i x rfl hx
 have g1:x<1000000000:=hgm x (B8 hx)
 have g2:=CC hgn i
 rw[V9 hx]at hnx
 obtain⟨y,hy⟩:=H8 (S0 n i)
 rw[<-hy]at k2 g2 hnx
 have w1:IntKind.i64.wrap ((x:Int)-(y:Int))=(x:Int)-(y:Int):=I8 _ (by omega)
 have w2:IntKind.i64.wrap ((x:Int)-(y:Int)-(c:Int))=(x:Int)-(y:Int)-(c:Int):=I8 _ (by omega)
 have hwi:=I8 ((i:Int)+1) (by omega)
 have hl2:p.length<=1000000:=by omega
 by_cases hlt:x<c+y
 . rw[B9 hlt]at hnx
   have t2:decide ((x:Int)-(y:Int)-(c:Int)<0)=true:=B0 (by omega)
   have w3:IntKind.i64.wrap ((x:Int)-(y:Int)-(c:Int)+1000000000)=((x+1000000000-(c+y):Nat):Int):=by rw[I8 _ (by omega)];omega
   obtain⟨v,hv2⟩:=H8 (x+1000000000-(c+y))
   rw[<-hv2]at w3 hnx
   refine B2 (D7 (B6 C (B6 C (yN C (yB C C C C (yQ (B3 ?_)))))));rw[t1];refine G2 C (B1 (B2 (B7 (B2 ?_))));refine J2 Tryz.mixed (by kernel_rfl) ?_;refine B6 C (B6 C (yW ex (by omega) C C (K5 C C (B6 C (B6 C (yC (k2) C C (yB C C C C (B6 C (yB C C C C ?_)))))))));refine H3 C (yQ (D7 (H3 C (yQ (B2 (D7 (B6 C (yB C C C C (yQ ?_)))))))));refine B3 ?_;rw[w1];rw[w2];rw[t2];refine G2 C (D7 (B6 C (yB C C C C (H3 C (yQ (B4 (H3 C (yQ (B4 ?_)))))))));refine CM C (B6 C ?_);refine yR (es:=[[_]]) C C C C C ?_;refine yT (es':=(p++[v]).map dJ) (m:=((p++[v]).map dJ).length) (by simp;omega) (by simp;omega) C C C C C (by simp[w3]) (by simp) ?_;refine DX C (yQ (B4 (B6 C (yB C C C C (H3 C (yQ (B3 ?_)))))));rw[w3]
   exact⟨i+1,by omega,by omega,rfl,⟨E6,E6,.of_eq (by rw[hnx]<;>rfl),.of_eq (by rw[hnx]<;>rfl),P2 hwi,D3⟩,D3,⟨(by rw[hnx]<;>rfl),D3⟩,rfl⟩
 . rw[B5 hlt]at hnx
   have t2:decide ((x:Int)-(y:Int)-(c:Int)<0)=false:=A7 (by omega)
   have w3:(x:Int)-(y:Int)-(c:Int)=((x-(c+y):Nat):Int):=by omega
   obtain⟨v,hv2⟩:=H8 (x-(c+y))
   rw[<-hv2]at w3 hnx
   have w2:=w2.trans w3
   rw[w3]at t2
   refine B2 (D7 (B6 C (B6 C (yN C (yB C C C C (yQ (B3 ?_)))))));rw[t1];refine G2 C (B1 (B2 (B7 (B2 ?_))));refine J2 Tryz.mixed (by kernel_rfl) ?_;refine B6 C (B6 C (yW ex (by omega) C C (K5 C C (B6 C (B6 C (yC (k2) C C (yB C C C C (B6 C (yB C C C C ?_)))))))));refine H3 C (yQ (D7 (H3 C (yQ (B2 (D7 (B6 C (yB C C C C (yQ ?_)))))))));refine B3 ?_;rw[w1];rw[w2];refine D8 C (B1 (B4 (CM C (B6 C ?_))));refine yR (es:=[[_]]) C C C C C ?_;refine yT (es':=(p++[v]).map dJ) (m:=((p++[v]).map dJ).length) (by simp;omega) (by simp;omega) C C C C C (by simp) (by simp) ?_;refine DX C (yQ (B4 (B6 C (yB C C C C (H3 C (yQ (B3 ?_)))))));rw[t2]
   exact⟨i+1,by omega,by omega,rfl,⟨E6,E6,.of_eq (by rw[hnx]<;>rfl),.of_eq (by rw[hnx]<;>rfl),P2 hwi,D3⟩,D3,⟨(by rw[hnx]<;>rfl),D3⟩,rfl⟩
structure MulOk (m n:List Nat) (i:Nat) (O:List Nat):Prop where
 len:O.length=m.length+n.length
 ok:gok O
 val:K6 O=K6 (m.take i)*K6 n
 hi:∀ j,i+n.length<=j->S0 O j=0
theorem MulOk.zero (m n:List Nat):MulOk m n 0 (List.replicate (m.length+n.length) 0):=
 ⟨by simp,fun x hx=>by rw[List.eq_of_mem_replicate hx];omega,by simp[MW,K6],fun j _=>by
  simp only[S0,List.getElem?_replicate]
  split<;>rfl⟩
theorem MulOk.next {m n O:List Nat} {i x k:Nat} (h:MulOk m n i O) (hm:gok m) (hn:gok n) (hx:m[i]? = some x) (hk:n.length<=k) (hk2:k<=n.length+1) (hc:(Ca O x n i k).2=0) (hi:i<m.length):MulOk m n (i+1) (Ca O x n i k).1:=by
 have hx9:x<1000000000:=hm x (B8 hx)
 obtain⟨q1,q2,-,q4,q5⟩:=Ov (i:=i) h.ok hn hx9 k (by rw[h.len];omega)
 rw[hc,E3 hk,Nat.mul_zero,Nat.add_zero]at q4
 refine⟨q1.trans h.len,q2,?_,fun j hj=>?_⟩
 . rw[q4,h.val,X5,V9 hx,Nat.add_mul,Nat.mul_assoc]
 . rw[q5 j (by omega)]
   exact h.hi j (by omega)
theorem OA (h:r<10):Utf8.encode (48+(r:Int))=ByteArray.mk ([dig r]:F6).toArray:=by
 have:r=0∨r=1∨r=2∨r=3∨r=4∨r=5∨r=6∨r=7∨r=8∨r=9:=by omega
 rcases this with rfl|rfl|rfl|rfl|rfl|rfl|rfl|rfl|rfl|rfl<;>rfl
theorem Pv (h:r<10):IntKind.i32.wrap (48+(r:Int))=48+(r:Int):=by
 have:r=0∨r=1∨r=2∨r=3∨r=4∨r=5∨r=6∨r=7∨r=8∨r=9:=by omega
 rcases this with rfl|rfl|rfl|rfl|rfl|rfl|rfl|rfl|rfl|rfl<;>rfl
theorem wROf (n:Int) (h0:-9223372036854775808<=n) (h1:n<=9223372036854775807):PCalls Tryz.prog 206 [dI n] (.d (dS (J3 n))):=by
 refine L5 Tryz.func206 C Tryz.ntmps206 Tryz.results206 fun B w0=>?_
 cases t1:(n==0) with
 | true=>
  have e:n=0:=by simpa using t1
  subst e
  rw[show J3 0=[]from by unfold J3;simp[O1]]
  refine D7 (H3 C (yQ (B2 (D7 (B6 C (yB C C C C (yQ (G2 C (D7 ?_)))))))));refine H3 C (yQ (C4 (A5 ?_)))
  exact M5 C C
 | false=>
 have hn:n≠0:=by simpa using t1
 refine D7 (H3 C (yQ (B2 (D7 (B6 C (yB C C C C (yQ (B3 ?_))))))));rw[t1]
 refine D8 C (B1 (D7 (H3 C (yQ (B2 (D7 (B6 C (H3 C (yQ ?_)))))))));refine B7 ?_;refine H9 (fun p:Nat×F6=>⟨30,[(0,.d (dI n)),(3,.d (dS p.2)),(4,.d (dI (sg (decide (n<0)) p.1)))],[],[]⟩) (fun p=>p.1<=n.natAbs∧BE n.natAbs=BE p.1++p.2) (fun p=>p.1) (n.natAbs,[]) ⟨E0 _,by simp⟩ ⟨rfl,⟨E6,E6,.of_eq (G4 (fun n=>SV.d (dI n)) (sg_of n)),D3⟩,D3,D3,rfl⟩ ?_
 rintro⟨m,t⟩ ⟨hm,ht⟩
 simp only at hm ht
 have hlen:t.length<=20:=by
  have h5:=Pg (n:=n.natAbs) (by omega)
  rw[ht]at h5
  simp at h5
  omega
 obtain⟨b,hb⟩:=H8 (decide (n<0))
 have hq:=sg_quo b m
 have hr:=sg_rem b m
 simp only[<-hb]
 by_cases h2:m=0
 . subst h2
   rw[O1,List.nil_append]at ht
   have t2:(sg b 0 != 0)=false:=by cases b<;>rfl
   have hc:J3 n=if n<0 then 45::t else t:=by unfold J3;rw[ht]
   by_cases h3:n<0
   . have t3:decide (n<0)=true:=B0 h3
     rw[hc,B9 h3]
     refine B2 (D7 (B6 C (yB C C C C (yQ (B3 ?_)))));rw[t2];refine D8 C (F9 (B2 (D7 (B6 C (yB C C C C (yQ (B3 ?_)))))));rw[t3];refine G2 C (B4 (B6 C ?_));refine O2 (l1:=[45]) (by simp;omega) C C ?_;refine H3 C (yQ (D7 (B6 C (H3 C (yQ (C4 ?_))))))
     exact M5 C C
   . have t3:decide (n<0)=false:=A7 h3
     rw[hc,B5 h3]
     refine B2 (D7 (B6 C (yB C C C C (yQ (B3 ?_)))));rw[t2];refine D8 C (F9 (B2 (D7 (B6 C (yB C C C C (yQ (B3 ?_)))))));rw[t3];refine D8 C (B1 (D7 (B6 C (H3 C (yQ (C4 ?_))))))
     exact M5 C C
 . have t2:(sg b m != 0)=true:=by
    have:=(sg_zero b m)
    simp[this,h2]
   have hdec:BE n.natAbs=BE (m / 10)++(dig (m % 10)::t):=by rw[ht,AR h2];simp
   have hr10:m % 10<10:=Nat.mod_lt _ (by omega)
   obtain⟨r,hr2⟩:=H8 (m % 10)
   rw[<-hr2]at hr hdec hr10
   have henc:=OA hr10
   have hw48:IntKind.i64.wrap (48+(r:Int))=48+(r:Int):=I8 _ (by omega)
   have hw32:IntKind.i32.wrap (48+(r:Int))=48+(r:Int):=Pv hr10
   have hmu:m / 10<m:=by omega
   have hwq:IntKind.i64.wrap (sg b (m / 10))=sg b (m / 10):=I8 _ (by unfold sg;cases b<;>simp<;>omega)
   by_cases h3:sg b r<0
   . have hb2:b=true:=by
      cases b with
      | true=>rfl
      | false=>unfold sg at h3;simp at h3;omega
     have t3:decide (sg b r<0)=true:=B0 h3
     have hneg:IntKind.i64.wrap (0-sg b r)=(r:Int):=by
      rw[hb2];unfold sg;simp only[if_true];rw[Int.zero_sub,Int.neg_neg];exact I8 _ (by omega)
     refine B2 (D7 (B6 C (yB C C C C (yQ (B3 ?_)))));rw[t2];refine G2 C (B1 (B2 (B7 (D7 (B6 C (yB C C C C (H3 C (yQ (B2 ?_)))))))));refine D7 (B6 C (yB C C C C (yQ (B3 ?_))));rw[hr];rw[t3];refine G2 C (B4 (B6 C (yU C C C (H3 C (yQ (B4 (B6 C (yB C C C C (yJ C ?_)))))))));rw[hneg];rw[hw48];rw[hw32];refine yJs henc C (B6 C ?_);refine O2 (l1:=[dig r]) (by simp;omega) C C ?_;refine H3 C (yQ (B4 (B6 C (yB C C C C (H3 C (yQ (B3 ?_)))))));rw[hq];rw[hwq]
     refine⟨(m / 10,dig r::t),⟨by simp only;omega,by rw[hdec]⟩,hmu,rfl,⟨E6,E6,E6,D3⟩,D3,D3,rfl⟩
   . have t3:decide (sg b r<0)=false:=A7 h3
     have hpos:sg b r=(r:Int):=by
      cases b with
      | false=>rfl
      | true=>unfold sg at h3 ⊢;simp at h3 ⊢;omega
     refine B2 (D7 (B6 C (yB C C C C (yQ (B3 ?_)))));rw[t2];refine G2 C (B1 (B2 (B7 (D7 (B6 C (yB C C C C (H3 C (yQ (B2 ?_)))))))));refine D7 (B6 C (yB C C C C (yQ (B3 ?_))));rw[hr];rw[t3];refine D8 C (B1 (B4 (B6 C (yB C C C C (yJ C ?_)))));rw[hpos];rw[hw48];rw[hw32]
     refine yJs henc C (B6 C ?_);refine O2 (l1:=[dig r]) (by simp;omega) C C ?_;refine H3 C (yQ (B4 (B6 C (yB C C C C (H3 C (yQ (B3 ?_)))))));rw[hq];rw[hwq]
     refine⟨(m / 10,dig r::t),⟨by simp only;omega,by rw[hdec]⟩,hmu,rfl,⟨E6,E6,E6,D3⟩,D3,D3,rfl⟩
theorem MI {t:F6} (h:t.all U7=true) (h17:t.length<=17) (i:Nat):natOf (t.take i)<100000000000000000:=by
 have h1:(t.take i).all U7=true:=by
  rw[E5]at h ⊢
  exact fun x hx=>h x (List.mem_of_mem_take hx)
 have h2:=An h1
 have h3:(10:Nat) ^ (t.take i).length<=10 ^ 17:=Nat.pow_le_pow_right (by decide) (by rw[F4];omega)
 have e17:(10:Nat) ^ 17=100000000000000000:=by decide
 omega
theorem wRShort (a:F6) (ha:a.length<=1000000) (h17:(L9 a).1.length<=17):PCalls Tryz.prog 205 [dS a] (.tup [dI (val a),dB true]):=by
 have c1:=Af a (by omega)
 have hD:=U8 a
 have hv:val a=if (L9 a).2 then -(natOf (L9 a).1:Int)else natOf (L9 a).1:=rfl
 obtain⟨r,hr⟩:=H8 (val a)
 obtain⟨⟨t,b⟩,ht⟩:=H8 (L9 a)
 rw[<-hr]at hv ⊢
 rw[<-ht]at c1 hD hv h17
 simp only at c1 hD hv h17
 have hnt:=MI hD h17
 have hdv:∀ (i:Nat) c,t[i]? = some c->48<=c.toNat∧c.toNat<=57:=fun i c hc=>by
  rw[E5]at hD
  have:=hD c (B8 hc)
  unfold U7 at this
  simpa using this
 clear ht hr
 have u0:decide ((t.length:Int) > 17)=false:=A7 (by omega)
 refine L5 Tryz.func205 C Tryz.ntmps205 Tryz.results205 fun B w0=>?_
 refine D7 (H3 C (H3 C (yQ (D7 (B6 C (yC (c1) C C (N9 C (yX C C (yX C C ?_)))))))));refine H3 C (H3 C (yQ (B2 (D7 (B6 C (N3 C (yB C C C C (yQ (B3 ?_)))))))))
 rw[u0];refine D8 C ?_;refine B1 ?_;refine B2 ?_;refine B4 ?_;refine H3 C ?_;refine yQ ?_;refine B2 ?_;refine B2 ?_;refine B4 ?_;refine H3 C ?_;refine yQ ?_;refine B7 ?_
 refine H9 (fun i:Nat=>⟨34,[(4,.d (dS t)),(5,.d (dB b)),(6,.d (dI (natOf (t.take i)))),(7,.d (dI i))],[],[]⟩) (fun i=>i<=t.length) (fun i=>t.length-i) 0 (E7 _) ⟨rfl,⟨E6,E6,E6,E6,D3⟩,D3,D3,C⟩ ?_
 intro i hi
 rcases D5 i t.length with h|h
 . have u1:decide ((i:Int)<(t.length:Int))=true:=B0 (by omega)
   obtain⟨c,hc⟩:=DJ h
   have hci:t[((i:Int)).toNat]? = some c:=by rw[H1];exact hc
   obtain⟨d1,d2⟩:=hdv i c hc
   have hn:=hnt i
   have hnx:natOf (t.take (i+1))=10*natOf (t.take i)+dv c:=by rw[H4,hc];exact S6 _ _
   obtain⟨n,hnn⟩:=H8 (natOf (t.take i))
   rw[<-hnn]at hn hnx ⊢
   have w1:IntKind.i64.wrap (10*(n:Int))=10*(n:Int):=I8 _ (by omega)
   have w2:IntKind.u8.wrap ((c.toNat:Int)-48)=(dv c:Int):=by
    rw[IntKind.wrap_u8]
    unfold dv
    omega
   have hd9:dv c<=9:=by unfold dv;omega
   have w3:IntKind.i64.wrap (dv c:Int)=(dv c:Int):=I8 _ (by omega)
   have w4:IntKind.i64.wrap (10*(n:Int)+(dv c:Int))=((10*n+dv c:Nat):Int):=by rw[I8 _ (by omega)];omega
   have w5:=I8 ((i:Int)+1) (by omega)
   refine B2 (D7 (B6 C (B6 C (N3 C (yB C C C C (yQ (B3 ?_)))))));rw[u1];refine G2 C (B1 (B2 (B7 (B4 (B6 C (yB C C C C (B6 C (B6 C (U9 hci (by omega) C C ?_)))))))));refine yB C C C C (yJ C (yB C C C C (H3 C (yQ (B4 (B6 C (yB C C C C (H3 C (yQ ?_)))))))));refine B3 ?_;rw[w1];rw[w2];rw[w3];rw[w4]
   exact⟨i+1,by omega,by omega,rfl,⟨E6,E6,.of_eq (by rw[hnx];rfl),P2 w5,D3⟩,D3,D3,rfl⟩
 have u1:decide ((i:Int)<(t.length:Int))=false:=A7 (by omega)
 have hn:=hnt i
 obtain rfl:i=t.length:=by omega
 rw[I2]at hn ⊢
 cases b with
 | true=>
  rw[B9 rfl]at hv
  have w1:IntKind.i64.wrap (0-(natOf t:Int))=-(natOf t:Int):=by rw[I8 _ (by omega)];omega
  refine B2 (D7 (B6 C (B6 C (N3 C (yB C C C C (yQ (B3 ?_)))))));rw[u1];refine D8 C (F9 (B2 (D7 (B6 C (yQ (G2 C (B4 (B6 C (yU C C C ?_)))))))));refine H3 C (yQ (D7 (B6 C (H3 C (H3 C (yQ (C4 ?_)))))));rw[w1]
  rw[hv]
  exact Y7 C C C
 | false=>
  rw[B5 (by decide)]at hv
  refine B2 (D7 (B6 C (B6 C (N3 C (yB C C C C (yQ (B3 ?_)))))));rw[u1];refine D8 C (F9 (B2 (D7 (B6 C (yQ (D8 C (B1 (D7 (B6 C ?_)))))))));refine H3 C (H3 C (yQ (C4 ?_)))
  rw[hv]
  exact Y7 C C C
theorem QK (a:F6) (ha:a.length<=1000000):PCalls Tryz.prog 137 [dS a] (.d (dS (J3 (-val a)))):=by
 have c1:=Af a (by omega)
 have hv:val a=if (L9 a).2 then -(natOf (L9 a).1:Int)else natOf (L9 a).1:=rfl
 have hd:BE (natOf (L9 a).1)=(L9 a).1:=DC (U8 a) (Bg a)
 have hdn:(L9 a).2=true->(L9 a).1≠[]:=Jn
 have hl:(L9 a).1.length<=1000000:=by
  have hb:(BM a).length<=a.length:=by unfold BM;split<;>simp
  have h2:(L9 a).1.length<=a.length:=by
   unfold L9
   split
   . exact D9 (List.dropWhile_suffix _).length_le hb
   . simp
  omega
 obtain⟨r,hr⟩:=H8 (J3 (-val a))
 obtain⟨⟨t,b⟩,ht⟩:=H8 (L9 a)
 rw[<-hr]
 rw[<-ht]at c1 hv hd hdn hl
 simp only at c1 hv hd hdn hl
 refine L5 Tryz.func137 C Tryz.ntmps137 Tryz.results137 fun B w0=>?_
 cases b with
 | true=>
  rw[B9 rfl]at hv
  have:r=t:=by
   rw[hr,hv,Int.neg_neg]
   unfold J3
   rw[B5 (by omega),Int.natAbs_natCast,hd]
  rw[this]
  refine D7 (H3 C (yQ (D7 (B6 C (yC (c1) C C (N9 C (yX C C (yX C C (H3 C ?_)))))))));refine H3 C (yQ (B2 (D7 (B6 C (B6 C (yO C (yO C (L0 C C (yQ ?_)))))))));refine G2 C (D7 (B6 C (H3 C (yQ (C4 (A5 ?_))))))
  exact M5 C C
 | false=>
  rw[B5 (by decide)]at hv
  cases t with
  | nil=>
   have:r=[]:=by
    rw[hr,hv]
    exact S9
   rw[this]
   refine D7 (H3 C (yQ (D7 (B6 C (yC (c1) C C (N9 C (yX C C (yX C C (H3 C ?_)))))))));refine H3 C (yQ (B2 (D7 (B6 C (B6 C (B6 C (N6 C C (K9 C C (yQ ?_)))))))));refine G2 C (D7 (B6 C (H3 C (yQ (C4 (A5 ?_))))))
   exact M5 C C
  | cons x l=>
   have hn0:natOf (x::l)≠0:=fun e=>by
    rw[e,O1]at hd
    cases hd
   have:r=[45]++(x::l):=by
    rw[hr,hv]
    unfold J3
    rw[B9 (by omega),Int.natAbs_neg,Int.natAbs_natCast,hd]
    rfl
   rw[this]
   refine D7 (H3 C (yQ (D7 (B6 C (yC (c1) C C (N9 C (yX C C (yX C C (H3 C ?_)))))))));refine H3 C (yQ (B2 (D7 (B6 C (B6 C (B6 C (N6 C C (K9 C C (yQ ?_)))))))));refine D8 C (B1 (D7 (B6 C ?_)));refine O2 (l1:=[45]) (l2:=x::l) (by simp only[List.length_cons,List.length_nil]at hl ⊢;omega) rfl rfl ?_;refine H3 C (yQ (C4 ?_))
   exact M5 C C
theorem QG (a:F6) (ha:a.length<=1000000) (h17:17<(L9 a).1.length):PCalls Tryz.prog 205 [dS a] (.tup [dI 0,dB false]):=by
 have c1:=Af a (by omega)
 obtain⟨⟨t,b⟩,ht⟩:=H8 (L9 a)
 rw[<-ht]at c1 h17
 simp only at c1 h17
 have u0:decide ((t.length:Int) > 17)=true:=B0 (by omega)
 refine L5 Tryz.func205 C Tryz.ntmps205 Tryz.results205 fun B w0=>?_
 refine D7 (H3 C (H3 C (yQ (D7 (B6 C (yC (c1) C C (N9 C (yX C C (yX C C ?_)))))))));refine H3 C (H3 C (yQ (B2 (D7 (B6 C (N3 C (yB C C C C (yQ (B3 ?_)))))))))
 rw[u0];refine G2 C ?_;refine B2 ?_;refine B4 ?_;refine H3 C ?_;refine H3 C ?_;refine yQ ?_;refine C4 ?_;refine A5 ?_
 exact Y7 C C C
theorem ML {t:F6} {lo j:Nat} {c:UInt8} (hc:t[j]? = some c) (hlo:lo<=j):natOf ((t.take (j+1)).drop lo)=10*natOf ((t.take j).drop lo)+dv c:=by
 have hj:=(A6.1 hc).1
 rw[H4,hc,Option.toList,List.drop_append_of_le_length (by rw[F4];omega)]
 exact S6 _ _
theorem natOf_9 {t:F6} (h:t.all U7=true) (lo j:Nat) (hj:j<=lo+9):natOf ((t.take j).drop lo)<1000000000:=by
 have h1:((t.take j).drop lo).all U7=true:=OM h j lo
 have h2:=An h1
 have h3:(10:Nat) ^ ((t.take j).drop lo).length<=10 ^ 9:=Nat.pow_le_pow_right (by decide) (by rw[M7,F4];omega)
 have e9:(10:Nat) ^ 9=1000000000:=by decide
 omega
theorem QE (a:F6) (ha:a.length<=1000000):PCalls Tryz.prog 209 [dS a] (.d (.agg (dJm (L9 a).2 (DL (L9 a).1)))):=by
 have c1:=Af a (by omega)
 have hl:(L9 a).1.length<=1000000:=D9 (AA a) ha
 have hD:=U8 a
 obtain⟨t,ht⟩:=H8 ((L9 a).1)
 obtain⟨b,hb⟩:=H8 ((L9 a).2)
 rw[<-ht,<-hb]at c1
 rw[<-ht]at hl hD
 rw[<-ht,<-hb]
 clear ht hb
 have hsz:=AE t
 have hdv:∀ (i:Nat) c,t[i]? = some c->48<=c.toNat∧c.toNat<=57:=fun i c hc=>by
  rw[E5]at hD
  have:=hD c (B8 hc)
  unfold U7 at this
  simpa using this
 refine L5 Tryz.func209 C Tryz.ntmps209 Tryz.results209 fun B w0=>?_
 refine D7 (yZ (cs:=[_,_]) C C (yQ (D7 (B6 C (yC (c1) C C (N9 C (yX C C (yX C C (H3 C ?_)))))))));refine H3 C (yQ (D7 (B6 C (yG (ys:=[_,_]) C C (yZ (cs:=[_,_]) C C (yS (cs':=[_,_]) C C C C C (yQ ?_)))))));refine Bp 5 1 (jT 5) 1 C C C C ?_;refine B2 (D7 (B6 C (N3 C (H3 C (yQ (B7 ?_))))));refine H9 (fun i:Nat=>⟨45,[(2,.bx 2 0),(3,.d (dS t)),(5,.bx 5 0),(6,.d (dI ((t.length:Int)-9*i)))],[(2,[.d (dB false),.d (.val (.slice none 0 0))]),(5,[.d (dB b),.ts (jT 5) 1 (((DL t).take i).map dJ)])],[(jT 5,(((DL t).take i).map dJ).length)]⟩) (fun i=>9*i<t.length+9) (fun i=>t.length+9-9*i) 0 (by omega)
  ⟨rfl,⟨E6,E6,E6,.of_eq (G4 (fun n:Int=>SV.d (dI n)) (by simp)),D3⟩,⟨⟨_,rfl,E6,E6,D3⟩,⟨_,rfl,E6,E6,D3⟩,D3⟩,⟨rfl,D3⟩,rfl⟩ ?_
 intro i hi
 rcases D5 (9*i) t.length with h9|h9
 rotate_left
 . have u1:decide ((t.length:Int)-9*i > 0)=false:=A7 (by omega)
   have e:(DL t).take i=DL t:=E3 (JO (by omega))
   rw[e]
   refine B2 (D7 (B6 C (yB C C C C (yQ (B3 ?_)))));rw[u1];refine D8 C (F9 (D7 (Ae (ys:=[_,_]) C C C C (yS (cs':=[_,_]) C C C C C (yQ (C4 ?_))))))
   exact J5 _ (.agg D6 C C C C .nil) C
 have u1:decide ((t.length:Int)-9*i > 0)=true:=B0 (by omega)
 have hn:=Ka h9
 have hw1:IntKind.i64.wrap ((t.length:Int)-9*i-9)=(t.length:Int)-9*i-9:=I8 _ (by omega)
 have hm:(if (t.length:Int)-9*i-9 > 0 then (t.length:Int)-9*i-9 else 0)=((t.length-9*i-9:Nat):Int):=by split<;>omega
 obtain⟨lo,hlo⟩:=H8 (t.length-9*i-9)
 obtain⟨tp,hto⟩:=H8 (t.length-9*i)
 have hti:(t.length:Int)-9*i=(tp:Int):=by omega
 have hbl:lo<=tp:=by omega
 have hbt:tp<=t.length:=by omega
 have hb9:tp<=lo+9:=by omega
 rw[<-hlo]at hm
 rw[<-hlo,<-hto]at hn
 have hnx:((t.length:Int)-9*(i+1:Nat))=(tp:Int)-9:=by omega
 rw[hti]at hw1 hm u1 ⊢
 obtain⟨zs,hzs⟩:=H8 ((DL t).take i)
 have hzl:zs.length<=1000000:=by rw[hzs,F4];omega
 rw[<-hzs]at hn ⊢
 clear hlo hto hzs
 refine B2 (D7 (B6 C (yB C C C C (yQ (B3 ?_)))));rw[u1];refine G2 C (B1 (B2 (B7 (D7 (H3 C (yQ (B2 (D7 (B6 C ?_)))))))));refine yB C C C C (yI C C C (H3 C (yQ (B7 ?_))));rw[hw1];rw[hm]
 refine H9 (fun j:Nat=>⟨45,[(2,.bx 2 0),(3,.d (dS t)),(5,.bx 5 0),(6,.d (dI tp)),(7,.d (dI (natOf ((t.take j).drop lo)))),(8,.d (dI j))],[(2,[.d (dB false),.d (.val (.slice none 0 0))]),(5,[.d (dB b),.ts (jT 5) 1 (zs.map dJ)])],[(jT 5,(zs.map dJ).length)]⟩) (fun j=>lo<=j∧j<=tp) (fun j=>tp-j) lo ⟨E0 _,hbl⟩
  ⟨rfl,⟨E6,E6,E6,E6,.of_eq (G4 (fun n:Nat=>SV.d (dI n)) (by rw[List.drop_of_length_le (by rw[F4];omega)];rfl)),E6,D3⟩,⟨⟨_,rfl,E6,E6,D3⟩,⟨_,rfl,E6,E6,D3⟩,D3⟩,⟨rfl,D3⟩,rfl⟩ ?_
 rintro j ⟨hj1,hj2⟩
 rcases D5 j tp with hj|hj
 . have u2:decide ((j:Int)<(tp:Int))=true:=B0 (by omega)
   obtain⟨c,hc⟩:∃ c,t[j]? = some c:=⟨_,A4 (by omega)⟩
   have hci:t[((j:Int)).toNat]? = some c:=by rw[H1];exact hc
   obtain⟨d1,d2⟩:=hdv j c hc
   have hnn:=ML hc hj1
   have hn9:=natOf_9 hD lo j (by omega)
   obtain⟨n,hnm⟩:=H8 (natOf ((t.take j).drop lo))
   rw[<-hnm]at hnn hn9 ⊢
   have w1:IntKind.i64.wrap (10*(n:Int))=10*(n:Int):=I8 _ (by omega)
   have w2:IntKind.u8.wrap ((c.toNat:Int)-48)=(dv c:Int):=by
    rw[IntKind.wrap_u8]
    unfold dv
    omega
   have hd9:dv c<=9:=by unfold dv;omega
   have w3:IntKind.i64.wrap (dv c:Int)=(dv c:Int):=I8 _ (by omega)
   have w4:IntKind.i64.wrap (10*(n:Int)+(dv c:Int))=((10*n+dv c:Nat):Int):=by rw[I8 _ (by omega)];omega
   have w5:=I8 ((j:Int)+1) (by omega)
   refine B2 (D7 (B6 C (B6 C (yB C C C C (yQ (B3 ?_))))));rw[u2];refine G2 C (B1 (B2 (B7 (B4 (B6 C (yB C C C C (B6 C (B6 C (U9 hci (by omega) C C ?_)))))))));refine yB C C C C (yJ C (yB C C C C (H3 C (yQ (B4 (B6 C (yB C C C C (H3 C (yQ ?_)))))))));refine B3 ?_;rw[w1];rw[w2];rw[w3];rw[w4]
   exact⟨j+1,⟨by omega,by omega⟩,by omega,rfl,⟨E6,E6,E6,E6,.of_eq (by rw[hnn]<;>rfl),P2 w5,D3⟩,⟨⟨_,rfl,E6,E6,D3⟩,⟨_,rfl,E6,E6,D3⟩,D3⟩,⟨rfl,D3⟩,rfl⟩
 . have u2:decide ((j:Int)<(tp:Int))=false:=A7 (by omega)
   obtain rfl:j=tp:=by omega
   obtain⟨x,hx⟩:=H8 (natOf ((t.take j).drop lo))
   rw[<-hx]at hn ⊢
   refine B2 (D7 (B6 C (B6 C (yB C C C C (yQ (B3 ?_))))));rw[u2];refine D8 C (F9 (B4 (X9 C (Ju C C C (B6 C ?_)))));refine yR (es:=[[_]]) C C C C C ?_;refine yT (es':=(zs++[x]).map dJ) (m:=((zs++[x]).map dJ).length) (by simp;omega) (by simp;omega) C C C C C (by simp) (by simp) ?_;refine X9 C (Pr (cs':=[_,_]) C C C C (yQ (B4 (B6 C (yB C C C C (H3 C (yQ (B3 ?_))))))));rw[hw1]
   exact⟨i+1,by omega,by omega,rfl,⟨E6,E6,E6,.of_eq (G4 (fun n=>SV.d (dI n)) hnx.symm),D3⟩,⟨⟨_,rfl,E6,E6,D3⟩,⟨_,rfl,E6,.of_eq (by rw[hn]<;>rfl),D3⟩,D3⟩,⟨(by rw[hn]<;>rfl),D3⟩,rfl⟩
def En (y:Nat):Nat->F6
 | 0=>[]
 | k+1=>dig (y / 10 ^ k % 10)::En y k
theorem PH (y k:Nat):En y (k+1)=En (y / 10) k++[dig (y % 10)]:=by
 induction k with
 | zero=>simp[En]
 | succ k ih=>
  rw[En,ih,En,List.cons_append,Nat.div_div_eq_div_mul,Nat.pow_succ,Nat.mul_comm 10]
theorem IZ (k y:Nat):En y k=BU k y:=by
 induction k generalizing y with
 | zero=>rfl
 | succ k ih=>rw[PH,ih,BU]
theorem Rv (y k:Nat):(En y k).length=k:=by rw[IZ,BC]
theorem Om (l:List Nat) (y:Nat):pads (l++[y])=BU 9 y++pads l:=by
 induction l with
 | nil=>simp[pads]
 | cons x l ih=>rw[List.cons_append,pads,ih,pads,G8]
theorem Qb (b:Bool) {l:List Nat} (h:gok l):val ((if b then [45]else [])++pads l)=sg b (K6 l):=by
 have hp:=RW l
 have hh:(pads l).head? ≠ some 45:=fun e=>by
  cases h1:pads l with
  | nil=>rw[h1]at e;cases e
  | cons x t=>
   rw[h1]at e hp
   have hx:x=45:=by simpa using e
   rw[hx]at hp
   simp[U7]at hp
 have hd:natOf ((pads l).dropWhile (· == 48))=K6 l:=by rw[LI,MJ h]
 cases b with
 | true=>
  have hb:BM ((if true then [45]else [])++pads l)=pads l:=by simp[BM]
  unfold val L9
  rw[hb,hp]
  simp only[if_true]
  by_cases h0:(pads l).dropWhile (· == 48)=[]
  . rw[h0]at hd
    rw[h0]
    have:K6 l=0:=by rw[<-hd];rfl
    simp[this,sg]
    rfl
  . have h1:((pads l).dropWhile (· == 48)).isEmpty=false:=by cases h2:(pads l).dropWhile (· == 48) with
     | nil=>exact G5 h2 h0
     | cons x t=>rfl
    rw[h1,hd]
    simp[sg]
 | false=>
  have hb:BM ((if false then [45]else [])++pads l)=pads l:=by simp[BM,hh]
  have hn:decide ((([]:F6)++pads l).head? = some 45)=false:=by simpa using hh
  unfold val L9
  rw[hb,hp]
  simp only[if_true,Bool.false_eq_true,if_false]at hn ⊢
  rw[hn,hd]
  simp[sg]
theorem wWriteJ (b:Bool) (l:List Nat) (hg:gok l) (hl:l.length<=100000):PCalls Tryz.prog 207 [.agg (dJm b l)] (.d (dS (J3 (sg b (K6 l))))):=by
 have hv:=Qb b hg
 have hpl:=BB l
 obtain⟨r,hr⟩:=H8 (J3 (sg b (K6 l)))
 rw[<-hr]
 refine L5 Tryz.func207 C Tryz.ntmps207 Tryz.results207 fun B w0=>?_
 refine D7 (yK (cs:=[_,_]) C C (H3 C (yQ (D7 (H3 C (yQ (B2 (D7 (H3 C ?_)))))))));refine yQ (B7 ?_);refine H9 (fun i:Nat=>⟨38,[(1,.bx 1 0),(3,.d (dS (pads (l.take i)))),(4,.d (dI i))],[(1,[.d (dB b),.d (.sl 1 (l.map dJ))])],[]⟩) (fun i=>i<=l.length) (fun i=>l.length-i) 0 (E7 _)
  ⟨rfl,⟨E6,E6,E6,D3⟩,⟨⟨_,rfl,E6,E6,D3⟩,D3⟩,D3,rfl⟩ ?_
 intro i hi
 rcases D5 i l.length with h|h
 rotate_left
 . have u1:decide ((i:Int)<((l.map dJ).length:Int))=false:=A7 (by rw[A8];omega)
   obtain rfl:i=l.length:=by omega
   rw[I2]
   cases b with
   | true=>
    have hc:=Ax ([45]++pads l) (by simp;omega)
    rw[show([45]++pads l:F6)=(if true then [45]else [])++pads l from rfl,hv,<-hr]at hc
    obtain⟨p,hp⟩:=H8 (pads l)
    rw[<-hp]at hc hpl ⊢
    have hc:PCalls Tryz.prog 204 [dS ([45]++p)] (.d (dS r)):=hc
    clear hp hv hr
    refine B2 (D7 (B6 C (X9 C (AL C C C (yN C (yB C C C C (yQ (B3 ?_))))))));rw[u1];refine D8 C (F9 (B2 (D7 (X9 C (AL C C C (yQ (G2 C (B4 (B6 C ?_)))))))));refine O2 (l1:=[45]) (l2:=p) (by simp;omega) C C ?_;refine H3 C (yQ (D7 (B6 C (yC (hc) C C (H3 C (yQ (C4 ?_)))))))
    exact M5 C C
   | false=>
    have hc:=Ax (pads l) (by omega)
    rw[show(pads l:F6)=(if false then [45]else [])++pads l from rfl,hv,<-hr]at hc
    obtain⟨p,hp⟩:=H8 (pads l)
    rw[<-hp]at hc ⊢
    have hc:PCalls Tryz.prog 204 [dS p] (.d (dS r)):=hc
    clear hp hv hr
    refine B2 (D7 (B6 C (X9 C (AL C C C (yN C (yB C C C C (yQ (B3 ?_))))))));rw[u1];refine D8 C (F9 (B2 (D7 (X9 C (AL C C C (yQ (D8 C (B1 (D7 ?_)))))))));refine B6 C (yC (hc) C C (H3 C (yQ (C4 ?_))))
    exact M5 C C
 have u1:decide ((i:Int)<((l.map dJ).length:Int))=true:=B0 (by rw[A8];omega)
 obtain⟨y,hy⟩:=DJ h
 have ey:=ix dJ l i i y rfl hy
 have hy9:y<1000000000:=hg y (B8 hy)
 have hnx:pads (l.take (i+1))=En y 9++pads (l.take i):=by rw[H4,hy,Option.toList,Om,IZ]
 have hp9:(pads (l.take i)).length<=900000:=by rw[BB,F4];omega
 obtain⟨p,hp⟩:=H8 (pads (l.take i))
 rw[<-hp]at hnx hp9 ⊢
 have hwi:=I8 ((i:Int)+1) (by omega)
 clear hp hv hr hpl
 refine B2 (D7 (B6 C (X9 C (AL C C C (yN C (yB C C C C (yQ (B3 ?_))))))));rw[u1];refine G2 C (B1 (B2 (B7 (D7 (X9 C (AL C C C (B6 C (yW ey (by omega) C C (K5 C C ?_)))))))));refine H3 C (yQ (D7 (H3 C (yQ (B7 ?_)))));refine H9 (fun k:Nat=>⟨38,[(1,.bx 1 0),(3,.d (dS (En y k++p))),(4,.d (dI i)),(5,.d (dI ((y / 10 ^ k:Nat):Int))),(6,.d (dI k))],[(1,[.d (dB b),.d (.sl 1 (l.map dJ))])],[]⟩) (fun k=>k<=9) (fun k=>9-k) 0 (E7 _)
  ⟨rfl,⟨E6,E6,E6,FN (by simp),E6,D3⟩,⟨⟨_,rfl,E6,E6,D3⟩,D3⟩,D3,rfl⟩ ?_
 intro k hk
 rcases D5 k 9 with hk9|hk9
 . have u2:decide ((k:Int)<9)=true:=B0 (by omega)
   have hdl:=Rv y k
   have hm9:y / 10 ^ k<1000000000:=Nat.lt_of_le_of_lt (Nat.div_le_self _ _) hy9
   have hlk:En y (k+1)=dig (y / 10 ^ k % 10)::En y k:=rfl
   have hdk:y / 10 ^ (k+1)=y / 10 ^ k / 10:=by rw[Nat.div_div_eq_div_mul,Nat.pow_succ]
   obtain⟨m,hm⟩:=H8 (y / 10 ^ k)
   rw[<-hm]at hm9 hlk hdk ⊢
   have hr10:m % 10<10:=Nat.mod_lt _ (by omega)
   have htm:((m:Int)).tmod 10=((m % 10:Nat):Int):=rfl
   obtain⟨r',hr2⟩:∃ r,r=m % 10:=⟨_,rfl⟩
   rw[<-hr2]at hr10 hlk htm
   have henc:=OA hr10
   have hw48:IntKind.i64.wrap (48+(r':Int))=48+(r':Int):=I8 _ (by omega)
   have hw32:IntKind.i32.wrap (48+(r':Int))=48+(r':Int):=Pv hr10
   have hwq:IntKind.i64.wrap ((m:Int).tdiv 10)=((m / 10:Nat):Int):=I8 ((m / 10:Nat):Int) (by omega)
   have hwk:=I8 ((k:Int)+1) (by omega)
   refine B2 (D7 (B6 C (yB C C C C (yQ (B3 ?_)))));rw[u2];refine G2 C (B1 (B2 (B7 (D7 (B6 C (yB C C C C (yB C C C C (yJ C ?_))))))));rw[htm];rw[hw48];rw[hw32];refine yJs henc C (B6 C ?_);refine O2 (l1:=[dig r']) (l2:=En y k++p) (by simp;omega) C C ?_;refine H3 C (yQ (B4 (B6 C (yB C C C C (H3 C (yQ (B4 (B6 C (yB C C C C ?_)))))))));refine H3 C (yQ (B3 ?_));rw[hwq]
   exact⟨k+1,by omega,by omega,rfl,⟨E6,.of_eq (by rw[hlk]<;>rfl),E6,.of_eq (by rw[hdk]<;>rfl),P2 hwk,D3⟩,⟨⟨_,rfl,E6,E6,D3⟩,D3⟩,D3,rfl⟩
 . have u2:decide ((k:Int)<9)=false:=A7 (by omega)
   obtain rfl:k=9:=by omega
   refine B2 (D7 (B6 C (yB C C C C (yQ (D8 C (F9 (B4 (B6 C (yB C C C C ?_)))))))));refine H3 C (yQ (B3 ?_));rw[u2]
   exact⟨i+1,by omega,by omega,rfl,⟨E6,.of_eq (by rw[hnx]<;>rfl),P2 hwi,D3⟩,⟨⟨_,rfl,E6,E6,D3⟩,D3⟩,D3,rfl⟩
def ID (b1:Bool) (x:Nat) (b2:Bool) (y:Nat):Bool×Nat:=if b1=b2 then (b1,x+y)else if y<=x then (b1,x-y)else (b2,y-x)
theorem addJ_sg (b1:Bool) (x:Nat) (b2:Bool) (y:Nat):sg (ID b1 x b2 y).1 (ID b1 x b2 y).2=sg b1 x+sg b2 y:=by
 unfold ID
 by_cases h:b1=b2
 . rw[B9 h]
   subst h
   cases b1<;>simp[sg]<;>omega
 . rw[B5 h]
   by_cases h2:y<=x
   . rw[B9 h2]
     cases b1<;>cases b2<;>simp[sg]at h ⊢ <;> omega
   . rw[B5 h2]
     cases b1<;>cases b2<;>simp[sg]at h ⊢ <;> omega
theorem wNAddJ (b1 b2:Bool) (x y:Nat) (h1:(N5 x).length<=100000) (h2:(N5 y).length<=100000):PCalls Tryz.prog 208 [.agg (dJm b1 (N5 x)),.agg (dJm b2 (N5 y))] (.d (.agg (dJm (ID b1 x b2 y).1 (N5 (ID b1 x b2 y).2)))):=by
 have c1:=wPlusJ (N5 x) (N5 y) (N7 x) (N7 y) h1 h2
 have c2:=wOrder (N5 x) (N5 y) (by omega)
 rw[N1,N1]at c1
 have hge:=ordR_ge x y
 have c3:y<=x->PCalls Tryz.prog 242 [.sl 1 ((N5 x).map dJ),.sl 1 ((N5 y).map dJ)] (.d (.sl 1 ((N5 (x-y)).map dJ))):=fun h=>by
  have:=NC (N5 x) (N5 y) (N7 x) (N7 y) (Z6 h) (by rw[N1,N1];exact h) h1
  rwa [N1,N1]at this
 have c4:¬ y<=x->PCalls Tryz.prog 242 [.sl 1 ((N5 y).map dJ),.sl 1 ((N5 x).map dJ)] (.d (.sl 1 ((N5 (y-x)).map dJ))):=fun h=>by
  have:=NC (N5 y) (N5 x) (N7 y) (N7 x) (Z6 (by omega)) (by rw[N1,N1];omega) h2
  rwa [N1,N1]at this
 obtain⟨k,hk⟩:=H8 (RZ (N5 x) (N5 y))
 rw[<-hk]at c2 hge
 unfold ID
 obtain⟨l1,hl1⟩:=H8 ((N5 x).map dJ)
 obtain⟨l2,hl2⟩:=H8 ((N5 y).map dJ)
 show PCalls Tryz.prog 208 [.agg [dB b1,.sl 1 ((N5 x).map dJ)],.agg [dB b2,.sl 1 ((N5 y).map dJ)]] _
 rw[<-hl1,<-hl2]at c1 c2 c3 ⊢
 rw[<-hl1,<-hl2]at c4
 clear hl1 hl2 hk
 by_cases hb:b1=b2
 . rw[B9 hb]
   subst hb
   have hbb:(b1==b1)=true:=by simp
   obtain⟨r,hr⟩:=H8 ((N5 (x+y)).map dJ)
   rw[<-hr]at c1
   show PCalls Tryz.prog 208 _ (.d (.agg [dB b1,.sl 1 ((N5 (x+y)).map dJ)]))
   rw[<-hr]
   refine L5 Tryz.func208 C Tryz.ntmps208 Tryz.results208 fun B w0=>?_
   refine D7 (yK (cs:=[_,_]) C C (yK (cs:=[_,_]) C C (yZ (cs:=[_,_]) C C (yQ (B2 (D7 (X9 C (AL C C C (X9 C ?_)))))))));refine AL C C C (yBb (c:=true) Tryz.underlying4 hbb C C (yQ (G2 C (B2 ?_))));refine R8 (id:=2) Tryz.mixed (by kernel_rfl) ?_;refine X9 C (AL C C C (X9 C (AL C C C (X9 C (AL C C C (yC (c1) C C (yG (ys:=[_,_]) C C (yS (cs':=[_,_]) C C C C C (yQ ?_)))))))));refine Px.Sep.mk (by kernel_rfl) ?_;refine C4 (A5 ?_)
   exact J5 _ (.agg D6 C C C C .nil) C
 rw[B5 hb]
 have hbb:(b1==b2)=false:=by simpa using hb
 by_cases hle:y<=x
 . rw[B9 hle]
   have c3:=c3 hle
   have u:decide (k ≥ 0)=true:=B0 (hge.2 hle)
   obtain⟨r,hr⟩:=H8 ((N5 (x-y)).map dJ)
   rw[<-hr]at c3
   show PCalls Tryz.prog 208 _ (.d (.agg [dB b1,.sl 1 ((N5 (x-y)).map dJ)]))
   rw[<-hr]
   refine L5 Tryz.func208 C Tryz.ntmps208 Tryz.results208 fun B w0=>?_
   refine D7 (yK (cs:=[_,_]) C C (yK (cs:=[_,_]) C C (yZ (cs:=[_,_]) C C (yQ (B2 (D7 (X9 C (AL C C C (X9 C ?_)))))))));refine AL C C C (yBb (c:=false) Tryz.underlying4 hbb C C (yQ (D8 C (B1 (B2 (D7 (X9 C (AL C C C (X9 C ?_)))))))));refine AL C C C (yC (c2) C C (yB C C C C (yQ (B3 ?_))));rw[u]
   refine G2 C (B2 ?_);refine R8 (id:=4) Tryz.mixed (by kernel_rfl) ?_;refine X9 C (AL C C C (X9 C (AL C C C (X9 C (AL C C C (yC (c3) C C (yG (ys:=[_,_]) C C (yS (cs':=[_,_]) C C C C C (yQ ?_)))))))));refine Px.Sep.mk (by kernel_rfl) ?_;refine C4 (A5 ?_)
   exact J5 _ (.agg D6 C C C C .nil) C
 . rw[B5 hle]
   have c4:=c4 hle
   have u:decide (k ≥ 0)=false:=A7 fun h=>hle (hge.1 h)
   obtain⟨r,hr⟩:=H8 ((N5 (y-x)).map dJ)
   rw[<-hr]at c4
   show PCalls Tryz.prog 208 _ (.d (.agg [dB b2,.sl 1 ((N5 (y-x)).map dJ)]))
   rw[<-hr]
   refine L5 Tryz.func208 C Tryz.ntmps208 Tryz.results208 fun B w0=>?_
   refine D7 (yK (cs:=[_,_]) C C (yK (cs:=[_,_]) C C (yZ (cs:=[_,_]) C C (yQ (B2 (D7 (X9 C (AL C C C (X9 C ?_)))))))));refine AL C C C (yBb (c:=false) Tryz.underlying4 hbb C C (yQ (D8 C (B1 (B2 (D7 (X9 C (AL C C C (X9 C ?_)))))))));refine AL C C C (yC (c2) C C (yB C C C C (yQ (B3 ?_))));rw[u]
   refine D8 C (B1 (B2 ?_));refine R8 (id:=5) Tryz.mixed (by kernel_rfl) ?_;refine X9 C (AL C C C (X9 C (AL C C C (X9 C (AL C C C (yC (c4) C C (yG (ys:=[_,_]) C C (yS (cs':=[_,_]) C C C C C (yQ ?_)))))))));refine Px.Sep.mk (by kernel_rfl) ?_;refine C4 ?_
   exact J5 _ (.agg D6 C C C C .nil) C
theorem val17 {a:F6} (h:(L9 a).1.length<=17):(val a).natAbs<100000000000000000:=by
 have h1:=An (U8 a)
 rw[BW]at h1
 have h2:(10:Nat) ^ (L9 a).1.length<=10 ^ 17:=Nat.pow_le_pow_right (by decide) h
 have e17:(10:Nat) ^ 17=100000000000000000:=by decide
 omega
theorem KB (a:F6) (ha:a.length<=1000000):PCalls Tryz.prog 205 [dS a] (.tup [dI (if (L9 a).1.length<=17 then val a else 0),dB (decide ((L9 a).1.length<=17))]):=by
 by_cases h:(L9 a).1.length<=17
 . rw[B9 h,B0 h];exact wRShort a ha h
 . rw[B5 h,A7 h];exact QG a ha (by omega)
theorem wRAddG (a b:F6) (ha:a.length<=90000) (hb:b.length<=90000):PCalls Tryz.prog 162 [dS a,dS b] (.d (dS (J3 (val a+val b)))):=by
 have c1:=KB a (by omega)
 have c2:=KB b (by omega)
 by_cases h:(L9 a).1.length<=17∧(L9 b).1.length<=17
 . have va:=val17 h.1
   have vb:=val17 h.2
   rw[B9 h.1,B0 h.1]at c1
   rw[B9 h.2,B0 h.2]at c2
   have hw:IntKind.i64.wrap (val a+val b)=val a+val b:=I8 _ (by omega)
   have c3:=wROf (val a+val b) (by omega) (by omega)
   obtain⟨r,hr⟩:=H8 (J3 (val a+val b))
   rw[<-hr]at c3 ⊢
   obtain⟨u,hu⟩:=H8 (val a)
   obtain⟨v,hv⟩:=H8 (val b)
   rw[<-hu]at c1
   rw[<-hv]at c2
   rw[<-hu,<-hv]at c3 hw
   refine L5 Tryz.func162 C Tryz.ntmps162 Tryz.results162 fun B w0=>?_
   refine D7 (H3 C (yQ (D7 (B6 C (yC (c1) C C (N9 C (yX C C (yX C C (H3 C ?_)))))))));refine H3 C (yQ (D7 (B6 C (yC (c2) C C (N9 C (yX C C (yX C C (H3 C (H3 C ?_)))))))));refine yQ (B2 (D7 (B6 C (B6 C (B6 C (L0 C C (yQ (G2 C (D7 ?_)))))))));refine B6 C (B6 C (yB C C C C ?_));rw[hw];refine yC (c3) C C (H3 C (yQ (C4 (A5 ?_))))
   exact M5 C C
 have hf:((decide ((L9 a).1.length<=17))&&(decide ((L9 b).1.length<=17)))=false:=by
  rw[Bool.and_eq_false_iff,decide_eq_false_iff_not,decide_eq_false_iff_not]
  rcases Decidable.em ((L9 a).1.length<=17)with h1|h1
  . exact .inr fun h2=>h ⟨h1,h2⟩
  . exact .inl h1
 have h1:=D9 (AE (L9 a).1) (AA a)
 have h2:=D9 (AE (L9 b).1) (AA b)
 have c3:=QE a (by omega)
 have c4:=QE b (by omega)
 rw[GA]at c3 c4 h1 h2
 have c5:=wNAddJ (L9 a).2 (L9 b).2 (natOf (L9 a).1) (natOf (L9 b).1) (by omega) (by omega)
 have s2:=addJ_sg (L9 a).2 (natOf (L9 a).1) (L9 b).2 (natOf (L9 b).1)
 rw[<-Ed,<-Ed]at s2
 have hlz:(N5 (ID (L9 a).2 (natOf (L9 a).1) (L9 b).2 (natOf (L9 b).1)).2).length<=100000:=by
  have hle:(ID (L9 a).2 (natOf (L9 a).1) (L9 b).2 (natOf (L9 b).1)).2<=natOf (L9 a).1+natOf (L9 b).1:=by
   unfold ID
   split
   . exact E0 _
   . split<;>show _-_<=_<;>omega
  refine D9 (Z6 hle) ?_
  have q1:=An (U8 a)
  have q2:=An (U8 b)
  have q3:=AA a
  have q4:=AA b
  obtain⟨K,hK⟩:=H8 (90000)
  rw[<-hK]at ha hb
  have q5:natOf (L9 a).1+natOf (L9 b).1<1000000000 ^ (K+1):=by
   have e1:(10:Nat) ^ (L9 a).1.length<=1000000000 ^ K:=D9 (Nat.pow_le_pow_right (by decide) (D9 q3 ha)) (Nat.pow_le_pow_left (by decide) _)
   have e2:(10:Nat) ^ (L9 b).1.length<=1000000000 ^ K:=D9 (Nat.pow_le_pow_right (by decide) (D9 q4 hb)) (Nat.pow_le_pow_left (by decide) _)
   have e3:(1000000000:Nat) ^ (K+1)=1000000000 ^ K*1000000000:=Nat.pow_succ ..
   obtain⟨p,hp⟩:=H8 ((1000000000:Nat) ^ K)
   rw[<-hp]at e1 e2 e3
   rw[e3]
   omega
  refine Decidable.byContradiction fun hgt=>?_
  have hx0:natOf (L9 a).1+natOf (L9 b).1≠0:=fun e=>by rw[e,U3]at hgt;simp at hgt
  have q6:=ST hx0
  have q7:(1000000000:Nat) ^ (K+1)<=1000000000 ^ ((N5 (natOf (L9 a).1+natOf (L9 b).1)).length-1):=Nat.pow_le_pow_right (by decide) (by omega)
  omega
 obtain⟨z,hz⟩:=H8 (ID (L9 a).2 (natOf (L9 a).1) (L9 b).2 (natOf (L9 b).1))
 rw[<-hz]at c5 s2 hlz
 have c6:=wWriteJ z.1 (N5 z.2) (N7 z.2) hlz
 rw[N1,s2]at c6
 obtain⟨r,hr⟩:=H8 (J3 (val a+val b))
 rw[<-hr]at c6 ⊢
 obtain⟨n1,hn1⟩:=H8 (dJm (L9 a).2 (N5 (natOf (L9 a).1)))
 obtain⟨n2,hn2⟩:=H8 (dJm (L9 b).2 (N5 (natOf (L9 b).1)))
 obtain⟨n3,hn3⟩:=H8 (dJm z.1 (N5 z.2))
 rw[<-hn1]at c3 c5
 rw[<-hn2]at c4 c5
 rw[<-hn3]at c5 c6
 obtain⟨p1,hp1⟩:=H8 (decide ((L9 a).1.length<=17))
 obtain⟨p2,hp2⟩:=H8 (decide ((L9 b).1.length<=17))
 obtain⟨u,hu⟩:=H8 (if (L9 a).1.length<=17 then val a else 0)
 obtain⟨v,hv⟩:=H8 (if (L9 b).1.length<=17 then val b else 0)
 rw[<-hp1,<-hu]at c1
 rw[<-hp2,<-hv]at c2
 rw[<-hp1,<-hp2]at hf
 clear hn1 hn2 hn3 hz s2 hp1 hp2 hu hv hlz h1 h2 h
 cases p1 with
 | false=>
  refine L5 Tryz.func162 C Tryz.ntmps162 Tryz.results162 fun B w0=>?_
  refine D7 (H3 C (yQ (D7 (B6 C (yC (c1) C C (N9 C (yX C C (yX C C (H3 C ?_)))))))));refine H3 C (yQ (D7 (B6 C (yC (c2) C C (N9 C (yX C C (yX C C (H3 C (H3 C ?_)))))))));refine yQ (B2 (D7 (B6 C (B6 C (yO C (K9 C C (yQ (D8 C (B1 ?_)))))))));refine D7 (B6 C (yC (c3) C C (B6 C (yC (c4) C C (yC (c5) C C (yC (c6) C C (H3 C (yQ (C4 ?_)))))))))
  exact M5 C C
 | true=>
  have hp:p2=false:=by simpa using hf
  subst hp
  refine L5 Tryz.func162 C Tryz.ntmps162 Tryz.results162 fun B w0=>?_
  refine D7 (H3 C (yQ (D7 (B6 C (yC (c1) C C (N9 C (yX C C (yX C C (H3 C ?_)))))))));refine H3 C (yQ (D7 (B6 C (yC (c2) C C (N9 C (yX C C (yX C C (H3 C (H3 C ?_)))))))));refine yQ (B2 (D7 (B6 C (B6 C (B6 C (L0 C C (yQ (D8 C (B1 ?_)))))))));refine D7 (B6 C (yC (c3) C C (B6 C (yC (c4) C C (yC (c5) C C (yC (c6) C C (H3 C (yQ (C4 ?_)))))))))
  exact M5 C C
theorem wRCmp0 (a:F6) (ha:a.length<=100000):PCalls Tryz.prog 136 [dS a,dS []] (.d (dI (FP a))):=by
 have c1:=Af a (by omega)
 have c2:=Af [] (by simp)
 rw[Il]at c2
 have hneg:=JZ a
 have hz:(L9 a).1.length=0↔val a=0:=by
  have h1:=BW a
  constructor
  . intro h
    rw[List.eq_nil_of_length_eq_zero h]at h1
    have:natOf []=0:=rfl
    omega
  . intro h
    rw[h]at h1
    rw[MH (U8 a) (Bg a) h1]
    rfl
 obtain⟨t,ht⟩:=H8 ((L9 a).1)
 obtain⟨b,hb⟩:=H8 ((L9 a).2)
 rw[<-ht,<-hb]at c1
 rw[<-ht]at hz
 rw[<-hb]at hneg
 clear ht hb
 obtain⟨r,hr⟩:=H8 (FP a)
 rw[<-hr]
 unfold FP at hr
 cases b with
 | true=>
  have h0:val a<0:=by simpa using hneg.symm
  rw[B9 h0]at hr
  subst hr
  refine L5 Tryz.func136 C Tryz.ntmps136 Tryz.results136 fun B w0=>?_
  refine D7 (H3 C (yQ (D7 (B6 C (yC (c1) C C (N9 C (yX C C (yX C C (H3 C ?_)))))))));refine H3 C (yQ (D7 (B6 C (yC (c2) C C (N9 C (yX C C (yX C C (H3 C (H3 C ?_)))))))));refine yQ (B2 (D7 (B6 C (B6 C (KA Tryz.underlying4 C C C (yQ (G2 C (B2 (D7 ?_)))))))));refine B6 C (yQ (G2 C (D7 (H3 C (yQ (C4 (A5 (A5 ?_))))))))
  exact M5 C C
 | false=>
  have h0:¬ val a<0:=by simpa using hneg.symm
  rw[B5 h0]at hr
  by_cases h2:t.length=0
  . have ht0:t=[]:=List.eq_nil_of_length_eq_zero h2
    rw[B5 (by have:=hz.1 h2;omega)]at hr
    subst hr
    subst ht0
    refine L5 Tryz.func136 C Tryz.ntmps136 Tryz.results136 fun B w0=>?_
    refine D7 (H3 C (yQ (D7 (B6 C (yC (c1) C C (N9 C (yX C C (yX C C (H3 C ?_)))))))));refine H3 C (yQ (D7 (B6 C (yC (c2) C C (N9 C (yX C C (yX C C (H3 C (H3 C ?_)))))))));refine yQ (B2 (D7 (B6 C (B6 C (KA Tryz.underlying4 C C C (yQ (D8 C (B1 (D7 ?_)))))))));refine H3 C (yQ (B2 (D7 (B6 C (yQ (D8 C (B1 (B2 (D7 ?_)))))))));refine B6 C (N3 C (B6 C (N3 C (yB C C C C (yQ (D8 C (B1 (B2 (D7 ?_)))))))));refine B6 C (B6 C (yBsl C C (yQ (D8 C (B1 (B2 (D7 (B6 C (B6 C ?_)))))))));refine yBsg C C (yQ (D8 C (B1 (D7 (H3 C (yQ (C4 ?_)))))))
    exact M5 C C
  . have h3:val a≠0:=fun e=>h2 (hz.2 e)
    rw[B9 (by omega)]at hr
    subst hr
    have u1:((t.length:Int) != (([]:F6).length:Int))=true:=by simp;intro e;exact h2 (by rw[e];rfl)
    have u2:decide ((t.length:Int)<(([]:F6).length:Int))=false:=A7 (by simp)
    refine L5 Tryz.func136 C Tryz.ntmps136 Tryz.results136 fun B w0=>?_
    refine D7 (H3 C (yQ (D7 (B6 C (yC (c1) C C (N9 C (yX C C (yX C C (H3 C ?_)))))))));refine H3 C (yQ (D7 (B6 C (yC (c2) C C (N9 C (yX C C (yX C C (H3 C (H3 C ?_)))))))));refine yQ (B2 (D7 (B6 C (B6 C (KA Tryz.underlying4 C C C (yQ (D8 C (B1 (D7 ?_)))))))));refine H3 C (yQ (B2 (D7 (B6 C (yQ (D8 C (B1 (B2 (D7 ?_)))))))));refine B6 C (N3 C (B6 C (N3 C (yB C C C C (yQ (B3 ?_))))));rw[u1];refine G2 C (B2 (D7 (B6 C (N3 C (B6 C (N3 C (yB C C C C (yQ (D8 C ?_)))))))));refine B1 (D7 (B6 C (H3 C (yQ (C4 (A5 ?_))))));rw[u2]
    exact M5 C C
open Go.RowKit Px Go.Sort Go.Lib
def Ak (O:List Cf) (nm:F6):Nat:=(O.takeWhile fun d=>ltS d.1 nm).length
def BJ (c:Cf) (O:List Cf):List Cf:=match O[Ak O c.1]? with
 | some d=>if d.1=c.1 then O.set (Ak O c.1) (d.1,Cl d.2 c.2)else O.take (Ak O c.1)++c::O.drop (Ak O c.1)
 | none=>O.take (Ak O c.1)++c::O.drop (Ak O c.1)
theorem posC_le (O:List Cf) (nm:F6):Ak O nm<=O.length:=(List.takeWhile_prefix _).length_le
theorem posC_lt {O:List Cf} {nm:F6} {j:Nat} {d:Cf} (h:O[j]? = some d) (hj:j<Ak O nm):ltS d.1 nm=true:=by
 induction O generalizing j with
 | nil=>simp at h
 | cons x O ih=>
  unfold Ak at hj
  rw[List.takeWhile_cons]at hj
  split at hj
  . rename_i hx
    cases j with
    | zero=>cases h;exact hx
    | succ j=>exact ih (j:=j) (by simpa using h) (by simpa[Ak]using hj)
  . simp at hj
theorem posC_at {O:List Cf} {nm:F6} {d:Cf} (h:O[Ak O nm]? = some d):ltS d.1 nm=false:=by
 induction O with
 | nil=>simp at h
 | cons x O ih=>
  unfold Ak at h ih
  rw[List.takeWhile_cons]at h
  split at h
  . rw[List.length_cons,List.getElem?_cons_succ]at h
    exact ih h
  . rename_i hx
    simp at h
    rw[<-h]
    simpa using hx
theorem NZ {O:List Cf} {nm:F6} {k:Nat} (h1:∀ j d,j<k->O[j]? = some d->ltS d.1 nm=true) (h2:∀ d,O[k]? = some d->ltS d.1 nm=false) (h3:k<=O.length):Ak O nm=k:=by
 have hl:=posC_le O nm
 rcases Nat.lt_trichotomy (Ak O nm) k with h|h|h
 . obtain⟨d,hd⟩:∃ d,O[Ak O nm]? = some d:=⟨_,A4 (by omega)⟩
   have:=h1 _ d h hd
   rw[posC_at hd]at this
   cases this
 . exact h
 . obtain⟨d,hd⟩:∃ d,O[k]? = some d:=⟨_,A4 (by omega)⟩
   have:=h2 d hd
   rw[posC_lt hd h]at this
   cases this
theorem Ba (c:Cf):BJ c []=[c]:=rfl
theorem AY (c d:Cf) (O:List Cf):BJ c (d::O)=if ltS d.1 c.1 then d::BJ c O else if d.1=c.1 then (d.1,Cl d.2 c.2)::O else c::d::O:=by
 by_cases h:ltS d.1 c.1=true
 . have hp:Ak (d::O) c.1=Ak O c.1+1:=by simp[Ak,List.takeWhile_cons,h]
   rw[B9 h]
   unfold BJ
   rw[hp,List.getElem?_cons_succ]
   cases O[Ak O c.1]? with
   | none=>simp
   | some x=>
    simp only
    split
    . simp
    . simp
 . have hp:Ak (d::O) c.1=0:=by simp[Ak,List.takeWhile_cons,h]
   rw[B5 h]
   unfold BJ
   rw[hp]
   simp
theorem insC_ev (A:F6->Int) (c:Cf) (O:List Cf):Bf A (BJ c O)=Bf A O+val c.2*A c.1:=by
 induction O with
 | nil=>rw[Ba];simp[Bf]
 | cons d O ih=>
  rw[AY]
  split
  . simp only[Bf,ih];omega
  . split
    . rename_i h
      simp only[Bf,R5,Int.add_mul]
      rw[h]
      omega
    . simp only[Bf];omega
theorem MU {c:Cf} {O:List Cf} {p:Cf} (h:p∈BJ c O):p.1=c.1 ∨ ∃ q∈O,q.1=p.1:=by
 induction O with
 | nil=>rw[Ba]at h;simp at h;exact .inl (by rw[h])
 | cons d O ih=>
  rw[AY]at h
  split at h
  . rcases List.mem_cons.1 h with rfl|h
    . exact .inr ⟨p,by simp,rfl⟩
    . rcases ih h with h|⟨q,hq,e⟩
      . exact .inl h
      . exact .inr ⟨q,by simp[hq],e⟩
  . split at h
    . rcases List.mem_cons.1 h with rfl|h
      . exact .inr ⟨d,by simp,rfl⟩
      . exact .inr ⟨p,by simp[h],rfl⟩
    . rcases List.mem_cons.1 h with rfl|h
      . exact .inl C
      . exact .inr ⟨p,h,C⟩
theorem SO {c:Cf} {O:List Cf} (h:LS O):LS (BJ c O):=by
 induction O with
 | nil=>rw[Ba];simp[LS]
 | cons d O ih=>
  obtain⟨h1,h2⟩:=List.pairwise_cons.1 h
  rw[AY]
  split
  . rename_i hlt
    refine List.pairwise_cons.2 ⟨fun p hp=>?_,ih h2⟩
    rcases MU hp with e|⟨q,hq,e⟩
    . rw[e];exact hlt
    . rw[<-e];exact h1 q hq
  . rename_i hlt
    split
    . exact List.pairwise_cons.2 ⟨h1,h2⟩
    . rename_i hne
      have hcd:ltS c.1 d.1=true:=by
       rcases X3 d.1 c.1 with h3|h3|h3
       . exact G5 h3 hlt
       . exact G5 h3 hne
       . exact h3
      refine List.pairwise_cons.2 ⟨fun p hp=>?_,h⟩
      rcases List.mem_cons.1 hp with rfl|hp
      . exact hcd
      . exact BX hcd (h1 p hp)
theorem SN {c:Cf} {O:List Cf} (hc:Cu c.2=true) (hO:∀ p∈O,Cu p.2=true):∀ p∈BJ c O,Cu p.2=true:=by
 induction O with
 | nil=>intro p hp;rw[Ba]at hp;simp at hp;rw[hp];exact hc
 | cons d O ih=>
  intro p hp
  rw[AY]at hp
  split at hp
  . rcases List.mem_cons.1 hp with rfl|hp
    . exact hO p (by simp)
    . exact ih (fun q hq=>hO q (by simp[hq])) p hp
  . split at hp
    . rcases List.mem_cons.1 hp with rfl|hp
      . exact Ct _
      . exact hO p (by simp[hp])
    . rcases List.mem_cons.1 hp with rfl|hp
      . exact hc
      . exact hO p hp
theorem HS (c:Cf) (O:List Cf):(BJ c O).length<=O.length+1∧0<(BJ c O).length:=by
 induction O with
 | nil=>rw[Ba];simp
 | cons d O ih=>
  rw[AY]
  split
  . simp;omega
  . split<;>simp
theorem PT {c:Cf} {O:List Cf} {B TB:Nat} (hc:c.2.length<=TB) (hO:∀ p∈O,p.2.length<=B) (hCB:TB<=B):∀ p∈BJ c O,p.2.length<=B+2:=by
 induction O with
 | nil=>intro p hp;rw[Ba]at hp;simp at hp;rw[hp];omega
 | cons d O ih=>
  intro p hp
  rw[AY]at hp
  split at hp
  . rcases List.mem_cons.1 hp with rfl|hp
    . have:=hO p (by simp);omega
    . exact ih (fun q hq=>hO q (by simp[hq])) p hp
  . split at hp
    . rcases List.mem_cons.1 hp with rfl|hp
      . exact LY (hO d (by simp)) (by omega)
      . have:=hO p (by simp[hp]);omega
    . rcases List.mem_cons.1 hp with rfl|hp
      . omega
      . have:=hO p hp;omega
def DK (e:List Cf):Nat->List Cf
 | 0=>[]
 | i+1=>match e[i]? with
  | none=>DK e i
  | some c=>BJ c (DK e i)
theorem rnI_ev (A:F6->Int) (e:List Cf) (i:Nat):Bf A (DK e i)=Bf A (e.take i):=by
 induction i with
 | zero=>rfl
 | succ i ih=>
  rw[DK]
  cases h:e[i]? with
  | none=>
   rw[List.getElem?_eq_none_iff]at h
   simp only[ih,E3 h,E3 (Nat.le_succ_of_le h)]
  | some c=>
   simp only
   rw[insC_ev,ih,H4,h,Option.toList,Hg]
   simp only[Bf]
   omega
theorem rnI_asc (e:List Cf) (i:Nat):LS (DK e i):=by
 induction i with
 | zero=>exact List.Pairwise.nil
 | succ i ih=>
  rw[DK]
  cases e[i]? with
  | none=>exact ih
  | some c=>exact SO ih
theorem rnI_isC {e:List Cf} (he:∀ c∈e,Cu c.2=true) (i:Nat):∀ p∈DK e i,Cu p.2=true:=by
 induction i with
 | zero=>intro p hp;cases hp
 | succ i ih=>
  rw[DK]
  cases h:e[i]? with
  | none=>exact ih
  | some c=>exact SN (he c (B8 h)) ih
theorem NP (e:List Cf) (i:Nat):(DK e i).length<=i:=by
 induction i with
 | zero=>exact E0 _
 | succ i ih=>
  rw[DK]
  cases e[i]? with
  | none=>exact Nat.le_succ_of_le ih
  | some c=>have:=(HS c (DK e i)).1;simp only;omega
theorem Qy {e:List Cf} {B:Nat} (h:∀ c∈e,c.2.length<=B) (i:Nat):∀ p∈DK e i,p.2.length<=B+2*i:=by
 induction i with
 | zero=>intro p hp;cases hp
 | succ i ih=>
  rw[DK]
  cases hc:e[i]? with
  | none=>intro p hp;have:=ih p hp;omega
  | some c=>
   intro p hp
   have:=PT (B:=B+2*i) (TB:=B) (h c (B8 hc)) ih (by omega) p hp
   omega
theorem Qx {e:List Cf} (he:∀ c∈e,Cu c.2=true):(DK e e.length).filter (fun c=>!(c.2==[]))=nf e:=by
 have hasc:=rnI_asc e e.length
 have hic:=rnI_isC he e.length
 have hev:∀ k,cf k (DK e e.length)=cf k e:=fun k=>by rw[cf,rnI_ev,I2]
 obtain⟨O,hO⟩:=H8 (DK e e.length)
 rw[<-hO]at hasc hic hev ⊢
 have hnd:(O.map (·.1)).Nodup:=List.pairwise_map.2 (hasc.imp fun {a b} h e=>by rw[e,U2]at h;cases h)
 have hval:∀ p∈O,p.2=J3 (cf p.1 e):=fun p hp=>by
  rw[<-hev,So hnd,GN hnd hp]
  exact(SM (hic p hp)).symm
 refine OL (hasc.filter _) (MG e) fun p=>?_
 rw[List.mem_filter,CZ]
 constructor
 . rintro⟨h1,h2⟩
   have h3:=hval p h1
   refine⟨fun h=>?_,h3⟩
   rw[h,S9]at h3
   rw[h3]at h2
   simp at h2
 . rintro⟨h1,h2⟩
   have h3:p.1∈O.map (·.1):=Decidable.byContradiction fun h=>h1 (by rw[<-hev];exact ET h)
   obtain⟨q,hq,e1⟩:=H2.1 h3
   have h4:=hval q hq
   rw[e1]at h4
   have h5:q=p:=Prod.ext e1 (h4.trans h2.symm)
   rw[h5]at hq
   refine⟨hq,?_⟩
   have h6:p.2≠[]:=fun h=>h1 (Ey.1 (h2 ▸ h))
   simpa using h6
end Go.Proofs.YtddfimjiihggmaaGreatDoor
namespace Go.Proofs.YtddfimjiihggmaaGreatDoor.Px
open Go.RowKit
variable {kd:IntKind} {w:World} {B:Nat} {w0:Cx} {st:PS} {a:Act} {g:Gh}
def Jl:SV->Bool
 | .d (.sl _ [])=>true
 | .ts _ _ []=>true
 | .d (.val (.slice none 0 0))=>true
 | _=>false
theorem Me (hr:Rep B w0 g st a w) {y:Operand} (h:Jl (st.ev y)=true):∃ A c,a.eval y=.slice A 0 c:=by
 have h1:=hr.eval y
 generalize st.ev y=s at h h1
 unfold Jl at h
 split at h
 . obtain⟨A,c,news,hv,-⟩:=DRep.row h1
   exact⟨A,c,hv⟩
 . obtain⟨A,c,news,hv,-⟩:=DRep.row h1.1
   exact⟨A,c,hv⟩
 . exact⟨none,0,DRep.val_eq h1⟩
 . cases h
section
variable {P:Program} {Q:Exit->PS->Prop} {c:Code}
theorem NU (i q:Nat) {cs cs2:List SV} (hi:st.bget i=some cs) (hq:cs.take q=cs2) (h:PW P B w0 c Q (st.bput i cs2)) (hlt:Nat.blt i 500000=true:=by rfl):PW P B w0 c Q st:=fun g a w hr=>by
 subst hq
 have hlt5:i<500000:=C0 hlt
 refine h g a w { hr with lim:=hr.lim,size:=hr.size,slots:=hr.slots,tdom:=hr.tdom,tlen:=hr.tlen,glob:=hr.glob,boxes:=fun j cs' hj hj5=>?_,maps:=fun j ms hj hge=>?_,dom:=fun j b hj=>?_ }
 . rw[K7]at hj
   by_cases e:j=i
   . subst e
     rw[B9 rfl]at hj
     cases hj
     obtain⟨b,xs,T,q1,q2,q3,q4,q5⟩:=hr.boxes j cs hi hj5
     refine⟨b,xs,T,q1,q2,by rw[F4];omega,fun k c0 hk=>?_,fun k u hk hu=>q5 k u (by rw[F4]at hk;omega) hu⟩
     have hk':k<q:=by have:=(A6.1 hk).1;rw[F4]at this;omega
     rw[E8 hk']at hk
     exact q4 k c0 hk
   . rw[B5 e]at hj
     exact hr.boxes j cs' hj hj5
 . rw[K7,B5 (by omega)]at hj
   exact hr.maps j ms hj hge
 . rw[K7]
   by_cases e:j=i
   . rw[B9 e];simp
   . rw[B5 e];exact hr.dom j b hj
end
section
variable {P:Program} {sq:Bool} {ops:Array Oper} {K:PS->Prop} {rest:List Oper} {d:Option Nat} {ty:TypeId} {pos:String} {af:Array Edge} {gd:Option (Nat×Bool)}
theorem Kn (T:TypeId) (x y:Operand) {E k bytes i n:Nat} [hA:AppOf P T E k bytes] (hx:st.ev x=.bs i n E k) (hy:Jl (st.ev y)=true) (hd:I1 ⟨d,.call { callee:=.builtin .append,args:=#[x,y],argTypes:=#[T,T] },ty,pos,af,gd⟩ st=true):
 M6 P ⟨d,.call { callee:=.builtin .append,args:=#[x,y],argTypes:=#[T,T] },ty,pos,af,gd⟩ st (.bs i n E k) .no:=fun st2 ha=>
 OpS.value (ha.dst hd) fun _ _ g a w h=>by
  have h1:=h.eval x
  rw[ha.ev x (by simp[Op.operands,Call.operands]),hx]at h1
  obtain⟨A2,c2,hv2⟩:=Me h (y:=y) (by rw[ha.ev y (by simp[Op.operands,Call.operands])];exact hy)
  obtain⟨b,c,q1,q2,q3,q4,q5⟩:=h1
  refine⟨.slice (some ⟨b,0,none⟩) n c,w,?_,Below.refl _ _,b,c,q1,C,q3,q4,q5⟩
  obtain⟨ti,z,p1,p2,p3,p4,p5⟩:=hA.inf
  simp only[execOp,resolve,invoke,builtin,Sem.run_bind,Sem.run_pure,D4,List.map_toArray,List.map_cons,List.map_nil,q2,hv2]
  cases A2<;>simp[Builtin.append_,run_underlying hA.und,sizeOf,typeInfo,p1,Builtin.lenOf,Builtin.firstCells,loadCells,loadCellsFrom,q3,storeCells,Result.andThen]
theorem yTe {T E k bytes i n:Nat} {x y:Operand} [AppOf P T E k bytes] (hx:st.ev x=.bs i n E k) (hy:Jl (st.ev y)=true) (h:YR P sq ops K rest (st.put d (.bs i n E k))) (zz:zk ops st ⟨d,.call { callee:=.builtin .append,args:=#[x,y],argTypes:=#[T,T] },ty,pos,af,gd⟩ .no=true:=by kernel_rfl):
 YR P sq ops K (⟨d,.call { callee:=.builtin .append,args:=#[x,y],argTypes:=#[T,T] },ty,pos,af,gd⟩::rest) st:=M3 (Kn T x y hx hy (zd zz)) (zo zz) (zw zz) h
theorem Oz (T:TypeId) (x y:Operand) {E k:Nat} [hS:SliceOf P T E k] (hx:st.ev x=.d (.val (.slice none 0 0))) (hy:st.ev y=.d (.val (.int kd 0))) (hd:I1 ⟨d,.slice T x (some y) none none,ty,pos,af,gd⟩ st=true):
 M6 P ⟨d,.slice T x (some y) none none,ty,pos,af,gd⟩ st (.d (.val (.slice none 0 0))) .no:=fun st2 ha=>
 OpS.value (ha.dst hd) fun _ _ g a w h=>by
  have h1:=h.eval x
  rw[ha.ev x (by simp[Op.operands]),hx]at h1
  have h2:=h.eval y
  rw[ha.ev y (by simp[Op.operands]),hy]at h2
  refine⟨.slice none 0 0,w,?_,Below.refl _ _,DRep.val _ C⟩
  simp[execOp,Instr.sliceAt,Instr.slice,Instr.sliceBounds,Instr.sliceBound,DRep.val_eq h1,DRep.val_eq h2,asIntOf,hS.und,hS.size,Result.andThen]
theorem ySn {T E k:Nat} {x y:Operand} [SliceOf P T E k] (hx:st.ev x=.d (.val (.slice none 0 0))) (hy:st.ev y=.d (.val (.int kd 0))) (h:YR P sq ops K rest (st.put d (.d (.val (.slice none 0 0))))) (zz:zk ops st ⟨d,.slice T x (some y) none none,ty,pos,af,gd⟩ .no=true:=by kernel_rfl):
 YR P sq ops K (⟨d,.slice T x (some y) none none,ty,pos,af,gd⟩::rest) st:=M3 (Oz T x y hx hy (zd zz)) (zo zz) (zw zz) h
end
section
variable {P:Program} {ops:Array Oper} {K:PS->Prop} {rest:List Oper} {ty ty2:TypeId} {pos pos2:String} {af af2:Array Edge} {gd gd2:Option (Nat×Bool)}
theorem Sa (hr:Rep B w0 g st a w) {e:Nat} (he:e<st.n) (v:Value):(a.put (some e) v).eval (.tmp e)=v:=by
 show(a.tmps.setIfInBounds e v).getD e undef=v
 rw[Hb _ _ _ _ _ (by rw[hr.size];exact he),B9 C]
theorem yTa {T E k bytes n m iz i e1 e2:Nat} {x y z:Operand} {us vs:List Value} [hA:AppOf P T E k bytes] [hS:SliceOf P T E k]
 (hm:m<=n) (hb:n*bytes<=140737488351232) (hn:n<=140737488351232) (hul:us.length=n*k) (hvs:us.drop (m*k)=vs)
 (hx:st.ev x=.bs i n E k) (hi:st.bget i=some (us.map fun u=>.d (.val u))) (hy:st.ev y=.d (.val (.int kd m))) (hz:(st.put (some e1) .any).ev z=.bs iz 0 E k) (hiz:st.bget iz=some (([]:List Value).map fun u=>.d (.val u)))
 (h:YR P true ops K rest ((((st.put (some e1) .any).kill iz).bput iz (vs.map fun u=>.d (.val u))).put (some e2) (.bs iz (n-m) E k)))
 (hd1:I1 ⟨some e1,.slice T x (some y) none none,ty,pos,af,gd⟩ st=true:=by kernel_rfl) (hw1:st.want ops ⟨some e1,.slice T x (some y) none none,ty,pos,af,gd⟩=some true:=by rfl)
 (hd2:I1 ⟨some e2,.call { callee:=.builtin .append,args:=#[z,.tmp e1],argTypes:=#[T,T] },ty2,pos2,af2,gd2⟩ st=true:=by kernel_rfl) (hw2:(st.put (some e1) .any).want ops ⟨some e2,.call { callee:=.builtin .append,args:=#[z,.tmp e1],argTypes:=#[T,T] },ty2,pos2,af2,gd2⟩=some true:=by rfl)
 (hlt:Nat.blt i 500000=true:=by rfl) (hltz:Nat.blt iz 500000=true:=by rfl) (hsm:Nat.blt (iz % 500000) 10000=true:=by rfl):
 YR P true ops K (⟨some e1,.slice T x (some y) none none,ty,pos,af,gd⟩::⟨some e2,.call { callee:=.builtin .append,args:=#[z,.tmp e1],argTypes:=#[T,T] },ty2,pos2,af2,gd2⟩::rest) st:=by
 subst hvs
 have hlt5:i<500000:=C0 hlt
 have hltz5:iz<500000:=C0 hltz
 have hsm5:Oe iz:=C0 hsm
 clear hlt hltz hsm
 refine .any C fun B w0 Q hQ g a w hr=>?_
 have h1:=hr.eval x
 rw[hx]at h1
 have hy1:=hr.eval y
 rw[hy]at hy1
 obtain⟨b,c,xs,p1,p2,p3,p4,p5,p6,p7,p8⟩:=Mn hr hlt5 h1 hi hul
 have he1:e1<st.n:=H6 hd1 e1 rfl
 obtain⟨A1,hA1⟩:∃ A:Option Addr,A=if c=m then some ⟨b,0,none⟩else some ⟨b,m*k,none⟩:=⟨_,rfl⟩
 have hv1:(execOp a.eval ⟨some e1,.slice T x (some y) none none,ty,pos,af,gd⟩).run P w=.ok (.value (.slice A1 (n-m) (c-m))) w:=by
  have hn2:(0:Int)<=(m:Int)∧(m:Int)<=(n:Int):=⟨by omega,by omega⟩
  simp only[execOp,Instr.sliceAt,Instr.slice,Instr.sliceBounds,Instr.sliceBound,p2,DRep.val_eq hy1,asIntOf,Sem.run_bind,Sem.run_pure,D4,hS.und,hn2,and_self,if_true,hS.size,Option.map_some,Option.map_none,Addr.add_lit,H1,E4]
  rw[hA1]
 have hr1:=hr.put (v:=.slice A1 (n-m) (c-m)) (x:=.any) trivial (some e1) (fun j hj=>by cases hj;exact he1)
 unfold wpList
 rw[B9 (M4 hr hw1)]
 refine .inl ?_
 unfold Oper.wp
 rw[hv1]
 have hz1:=hr1.eval z
 rw[hz]at hz1
 obtain⟨bz,cz,xz,z1,z2,z3,z4,z5,z6,z7,z8⟩:=Mn (vs:=[]) hr1 hltz5 hz1 (by rw[Hl];exact hiz) (by simp)
 have hcell:∀ (j:Nat) u,(us.drop (m*k))[j]? = some u->w.cell? ⟨b,m*k+j,none⟩=some u:=fun j u hj=>by
  rw[List.getElem?_drop]at hj
  exact AF p7 (b:=b) (by rw[p2];rfl) (m*k+j) u hj
 have hone2:∀ u∈us.drop (m*k),u.oneCell'=true:=fun u hu=>p8 u (List.mem_of_mem_drop hu)
 obtain⟨ti,zz,q1,q2,q3,q4,q5⟩:=hA.inf
 have hl2:(us.drop (m*k)).length=(n-m)*k:=by rw[M7,hul,Nat.sub_mul]
 obtain⟨v',w',r1,r2,r3,r4,r5,r6,r7⟩:=Cp (P:=P) w 0 T ty2 E ti zz k bytes hA.und q1 q2 q3 q4 q5 ((a.put (some e1) (.slice A1 (n-m) (c-m))).eval z) 0 [] z7 A1 (n-m) (c-m) (us.drop (m*k)) hl2 (fun h0=>⟨⟨b,m*k,none⟩,by rw[hA1,B5 (by omega)],fun j u hj=>by rw[Addr.add_lit];exact hcell j u hj⟩) hone2 (by unfold maxLen;omega) (by rw[E4];exact D9 (Nat.mul_le_mul_right _ (Nat.sub_le _ _)) (by omega)) (E7 _)
 rw[E4,List.nil_append]at r2
 have hob:((a.put (some e1) (.slice A1 (n-m) (c-m))).eval z).ownBlock=some bz:=by rw[z2];rfl
 have hfin:∃ gb cap cur,v'=.slice (some ⟨gb,0,none⟩) (n-m) cap∧w'.heap[gb]? = some (.cells cur E (0,0))∧n-m<=cap∧cap<=maxLen∧cur.size=cap*k∧cur.toList.take ((n-m)*k)=us.drop (m*k):=by
  obtain⟨hxl,(⟨q0,q9⟩|⟨gb,cap,cur,t0,t1,t2,t3,t4,t5,t6⟩)⟩:=r2
  . have:=r7 q9
    rw[q0,z2]at this
    cases this
  . exact⟨gb,cap,cur,t0,t2,t3,t4,t5,t6⟩
 obtain⟨gb,cap,cur,rfl,t2,t3,t4,t5,t6⟩:=hfin
 have hbb:gb=bz∨w.heap.size<=gb:=by
  rcases r6 with r6|r6
  . rw[hob]at r6;exact .inl (by simpa[Value.ownBlock]using r6)
  . exact .inr (by have:gb=w.heap.size:=by simpa[Value.ownBlock]using r6
                   omega)
 have hcur:∀ (j:Nat) (u:Value),(us.drop (m*k))[j]? = some u->cur[j]? = some u∧u.oneCell'=true:=fun j u hj=>by
  refine⟨?_,hone2 u (B8 hj)⟩
  rw[<-t6]at hj
  have hj':j<(n-m)*k:=by have:=(A6.1 hj).1;rw[F4]at this;omega
  rw[E8 hj']at hj
  simpa using hj
 have hr':=hr1.rebox hltz5 hsm5 z1 r3 (fun k hk hne=>r4 k hk (by rw[hob];exact fun e=>hne (J0 e).symm)) hbb cur t2 (us.drop (m*k)) (by rw[hl2,t5];exact Nat.mul_le_mul_right _ t3) hcur
 have hv2:=Sa hr he1 (.slice A1 (n-m) (c-m))
 have hrun:(execOp (a.put (some e1) (.slice A1 (n-m) (c-m))).eval ⟨some e2,.call { callee:=.builtin .append,args:=#[z,.tmp e1],argTypes:=#[T,T] },ty2,pos2,af2,gd2⟩).run P w=.ok (.value (.slice (some ⟨gb,0,none⟩) (n-m) cap)) w':=by
  simp only[execOp,resolve,invoke,builtin,Sem.run_bind,Sem.run_pure,D4,List.map_toArray,List.map_cons,List.map_nil,hv2,r1]
 show wpList P ops _ (_::rest) _ w
 unfold wpList
 rw[B9 (M4 hr1 hw2)]
 refine .inl ?_
 unfold Oper.wp
 rw[hrun]
 refine h.sound hQ (hr'.put (x:=.bs iz (n-m) E k) ⟨gb,cap,by simp[Gh.addb],rfl,t3,t4,by simp[World.shape?,t2,t5]⟩ _ ?_)
 intro j hj
 exact H6 (st:=st) hd2 j hj
end
section
variable {P:Program} {l:List Oper}
theorem JQ {Q Q':Exit->PS->Prop} {y:Code} {id bid:Nat} (J:PS) (hm:P.follows .mixedOrders=true) (h:PA P B w0 l J l.length (List.replicate l.length false) st) (hj:PW P B w0 y Q' J) (hp:∀ c s,¬ Q (.panic c) s:=by exact fun _ _ h=>h) (hnd:Ni l=true:=by rfl):PW P B w0 (.region id l.toArray true) (As bid (U4 (PW P B w0 y Q') Q)) st:=fun g a w hr=>by
 have hw:Rep B w0 g st a { w with drawn:=w.drawn+1 }:=hr.grow ⟨rfl,rfl,rfl,E0 _,fun _ _=>rfl⟩
 have:=h (La (As bid (U4 (PW P B w0 y Q') Q))) (fun s hs=>RK hs hj) (fun c s hh=>hh) g a _ hw
 have pr:=Y3 (B:=B) (w0:=w0) (Q:=As bid (U4 (PW P B w0 y Q') Q))
 refine wpIn_mono (wpIn_region_any hm (Ci pr.1 hnd ?_)) pr.2
 have e:(List.replicate l.length false).toArray=Array.replicate l.toArray.size false:=by simp
 rw[e]at this
 simpa using this
end
section
variable {P:Program} {ops:Array Oper} {K:PS->Prop} {rest:List Oper}
end
end Go.Proofs.YtddfimjiihggmaaGreatDoor.Px
namespace Go.Proofs.YtddfimjiihggmaaGreatDoor
open Go.RowKit Px
variable {neg:Bool} {c x a:UInt8} {i:Nat}
abbrev vC (l:List Cf):List Value:=l.flatMap fun h=>[vS h.1,vS h.2]
abbrev cC (l:List Cf):List SV:=(vC l).map fun u=>SV.d (.val u)
theorem Ee (l:List Cf):(vC l).length=l.length*2:=by
 induction l with
 | nil=>rfl
 | cons h l ih=>
  show(vS h.1::vS h.2::vC l).length=_
  simp only[List.length_cons,ih]
  omega
theorem LO (l:List Cf) {n:Nat} (h:l.length=n):O9 2 n ((vC l).map .val)=l.map dCf:=by
 subst h
 induction l with
 | nil=>rfl
 | cons x l ih=>
  show [dS x.1,dS x.2]::O9 2 l.length ((vC l).map .val)=dCf x::l.map dCf
  rw[ih]
theorem NH (vs:List Value):Ag (vs.map fun u=>SV.d (.val u))=some (vs.map DV.val):=KK (fun u=>DV.val u) vs
theorem GJ (vs:List Value) (i:Nat):(vs.map fun u=>SV.d (.val u)).map (SV.kill i)=vs.map fun u=>SV.d (.val u):=by
 rw[List.map_map]
 exact List.map_congr_left fun u _=>C
theorem vC_set (l:List Cf) {k:Nat} {x:Cf} (q:F6) (hx:l[k]? = some x):(cC l).set (((k:Int)).toNat*2+1) (.d (dS q))=cC (l.set k (x.1,q)):=by
 rw[H1]
 induction l generalizing k with
 | nil=>simp at hx
 | cons h l ih=>
  cases k with
  | zero=>
   simp only[List.getElem?_cons_zero,Option.some.injEq]at hx
   subst hx
   rfl
  | succ k=>
   have:=ih (k:=k) (by simpa using hx)
   rw[show(k+1)*2+1=k*2+1+1+1 by omega]
   show SV.d (.val (vS h.1))::SV.d (.val (vS h.2))::(cC l).set (k*2+1) (.d (dS q))=_
   rw[this]
   rfl
theorem vC_at (l:List Cf) {k:Nat} {x:Cf} (hx:l[k]? = some x):(cC l)[((k:Int)).toNat*2+0]? = some (.d (dS x.1))∧(cC l)[((k:Int)).toNat*2+1]? = some (.d (dS x.2)):=by
 rw[H1]
 induction l generalizing k with
 | nil=>simp at hx
 | cons h l ih=>
  cases k with
  | zero=>
   simp only[List.getElem?_cons_zero,Option.some.injEq]at hx
   subst hx
   exact⟨rfl,C⟩
  | succ k=>
   have:=ih (k:=k) (by simpa using hx)
   rw[show(k+1)*2+1=k*2+1+1+1 by omega,show(k+1)*2+0=k*2+0+1+1 by omega]
   exact this
theorem vC_drop (l:List Cf) (k:Nat):(vC l).drop (k*2)=vC (l.drop k):=by
 induction l generalizing k with
 | nil=>simp[vC]
 | cons h l ih=>
  cases k with
  | zero=>rfl
  | succ k=>
   rw[show(k+1)*2=k*2+1+1 by omega]
   exact ih k
theorem vC_take (l:List Cf) (k:Nat):(vC l).take (k*2)=vC (l.take k):=by
 induction l generalizing k with
 | nil=>simp[vC]
 | cons h l ih=>
  cases k with
  | zero=>rfl
  | succ k=>
   rw[show(k+1)*2=k*2+1+1 by omega]
   show vS h.1::vS h.2::(vC l).take (k*2)=vS h.1::vS h.2::vC (l.take k)
   rw[ih]
theorem Qc (l r:List Cf):vC (l++r)=vC l++vC r:=List.flatMap_append
theorem cC_lt {l:List Cf} {k:Nat} (h:k<l.length):Nat.blt (((k:Int)).toNat*2+1) (cC l).length=true:=by
 refine Nat.ble_eq_true_of_le ?_
 rw[A8,Ee,H1]
 omega
abbrev cT:Nat:=113
abbrev rsS:Nat->List Cf->SV
 | 0,_=>.d (.val (.slice none 0 0))
 | _+1,O=>.bs 79 O.length cT 2
abbrev rsB:Nat->List Cf->List (Nat×List SV)
 | 0,_=>[]
 | _+1,O=>[(79,cC O)]
abbrev kT:Nat:=cT*100000+7
def CJ (c:Cf):Bool:=!(c.2==[])
theorem Ec (e:List Cf) (hl:e.length<=1000) (hf:∀ c∈e,c.2.length<=70000):PCalls Tryz.prog 185 [.sl 2 (e.map dCf)] (.d (.sl 2 (((DK e e.length).filter CJ).map dCf))):=by
 obtain⟨r,hr⟩:=H8 ((DK e e.length).filter CJ)
 rw[<-hr]
 have hfl:=fun i=>Qy hf i
 refine L5 Tryz.func185 C Tryz.ntmps185 Tryz.results185 fun B w0=>?_
 refine D7 (H3 C (yQ (D7 (H3 C (yQ (B2 (D7 (H3 C (yQ ?_)))))))));refine B7 ?_;refine H9 (fun i:Nat=>⟨102,[(0,.d (.sl 2 (e.map dCf))),(3,rsS i (DK e i)),(4,.d (dI i))],rsB i (DK e i),[]⟩) (fun i=>i<=e.length) (fun i=>e.length-i) 0 (E7 _)
  ⟨rfl,⟨E6,E6,E6,D3⟩,D3,D3,rfl⟩ ?_
 intro i hi
 rcases D5 i e.length with h|h
 rotate_left
 . have u1:decide ((i:Int)<((e.map dCf).length:Int))=false:=A7 (by rw[A8];omega)
   obtain rfl:i=e.length:=by omega
   have hrl:=NP e e.length
   obtain⟨O,hO⟩:=H8 (DK e e.length)
   obtain⟨i,hi2⟩:=H8 (e.length)
   rw[<-hO]at hr hrl ⊢
   rw[<-hi2]at hO u1 ⊢
   have hfin:PW Tryz.prog B w0 ((Code.skip).seq Code.skip) (fun _ _=>True) ⟨0,[],[],[]⟩->True:=fun _=>trivial
   clear hfin
   cases i with
   | zero=>
    have hO0:O=[]:=by rw[hO];rfl
    subst hO0
    have hr0:r=[]:=hr
    subst hr0
    refine B2 (D7 (B6 C (B6 C (yN C (yB C C C C (yQ (B3 ?_)))))));rw[u1];refine D8 C (F9 (D7 (H3 C (yQ (B2 (D7 (H3 C (yQ (B7 ?_)))))))));refine H9 (fun j:Nat=>⟨102,[(3,.d (.val (.slice none 0 0))),(7,.d (.val (.slice none 0 0))),(8,.d (dI j))],[],[]⟩) (fun j=>j=0) (fun _=>0) 0 C ⟨rfl,⟨E6,E6,E6,D3⟩,D3,D3,C⟩ ?_
    rintro j rfl
    refine B2 (D7 (B6 C (B6 C (yNl C (yB C C C C (yQ (D8 C (F9 (D7 ?_)))))))));refine B6 C (H3 C (yQ (C4 ?_)))
    exact J5 _ (.tnil 2 C .nil) C
   | succ i=>
    refine Br 3 79 (es:=O.map dCf) (ds:=(vC O).map .val) (by rw[A8];exact Ee O) (LO O C) (NH _) C C ?_;refine B2 (D7 (B6 C (B6 C (yN C (yB C C C C (yQ (B3 ?_)))))));rw[u1];refine D8 C (F9 (D7 (H3 C (yQ ?_))));refine JP 7 kT 2 C C C ?_;refine B2 (D7 (H3 C (yQ (B7 ?_))));refine H9 (fun j:Nat=>⟨102,[(3,.d (.sl 2 (O.map dCf))),(7,.ts kT 2 (((O.take j).filter CJ).map dCf)),(8,.d (dI j))],[],[(kT,(((O.take j).filter CJ).map dCf).length)]⟩) (fun j=>j<=O.length) (fun j=>O.length-j) 0 (E7 _)
     ⟨rfl,⟨E6,E6,E6,D3⟩,D3,⟨rfl,D3⟩,rfl⟩ ?_
    intro j hj
    rcases D5 j O.length with h2|h2
    . have u2:decide ((j:Int)<((O.map dCf).length:Int))=true:=B0 (by rw[A8];omega)
      obtain⟨⟨c0,c1⟩,hc⟩:∃ a,O[j]? = some a:=⟨_,A4 h2⟩
      have em:=ix dCf O j j (c0,c1) rfl hc
      have hw:=I8 ((j:Int)+1) (by omega)
      have hnx:(O.take (j+1)).filter CJ=(O.take j).filter CJ++(if c1=[]then []else [(c0,c1)]):=by
       rw[H4,hc,Option.toList,List.filter_append]
       by_cases h3:c1=[]
       . simp[CJ,h3]
       . simp[CJ,h3]
      have hzl:((O.take j).filter CJ).length<=1000:=D9 (List.length_filter_le _ _) (by rw[F4];omega)
      obtain⟨zs,hzs⟩:=H8 ((O.take j).filter CJ)
      rw[<-hzs]at hnx hzl ⊢
      clear hzs
      by_cases h3:c1=[]
      . have u3:(c1==[])=true:=by simp[h3]
        rw[B9 h3,List.append_nil]at hnx
        refine B2 (D7 (B6 C (B6 C (yN C (yB C C C C (yQ (B3 ?_)))))));rw[u2];refine G2 C (B1 (B2 (B7 (D7 (B6 C (B6 C (yW em (by omega) C C (Q3 C C (K5 C C ?_)))))))));refine L8 C C (yQ (B3 ?_));rw[u3];refine D8 C (B1 (B4 (B6 C (yB C C C C (H3 C (yQ (B3 ?_)))))))
        exact⟨j+1,by omega,by omega,rfl,⟨E6,.of_eq (by rw[hnx]<;>rfl),P2 hw,D3⟩,D3,⟨(by rw[hnx]<;>rfl),D3⟩,rfl⟩
      . have u3:(c1==[])=false:=by simp[h3]
        rw[B5 h3]at hnx
        refine B2 (D7 (B6 C (B6 C (yN C (yB C C C C (yQ (B3 ?_)))))));rw[u2];refine G2 C (B1 (B2 (B7 (D7 (B6 C (B6 C (yW em (by omega) C C (Q3 C C (K5 C C ?_)))))))));refine L8 C C (yQ (B3 ?_));rw[u3];refine G2 C (B4 (CM C (B6 C (B6 C (yW em (by omega) C C (T3 (ys:=[_,_]) C C C ?_))))));refine yR (es:=[[_,_]]) C C C C C ?_;refine yT (es':=(zs++[(c0,c1)]).map dCf) (m:=((zs++[(c0,c1)]).map dCf).length) (by simp;omega) (by simp;omega) C C C C C (by simp) (by simp) ?_;refine DX C (yQ (B4 (B6 C (yB C C C C (H3 C (yQ (B3 ?_)))))))
        exact⟨j+1,by omega,by omega,rfl,⟨E6,.of_eq (by rw[hnx]<;>rfl),P2 hw,D3⟩,D3,⟨(by rw[hnx]<;>rfl),D3⟩,rfl⟩
    . have u2:decide ((j:Int)<((O.map dCf).length:Int))=false:=A7 (by rw[A8];omega)
      obtain rfl:j=O.length:=by omega
      rw[I2,<-hr]
      refine B2 (D7 (B6 C (B6 C (yN C (yB C C C C (yQ (B3 ?_)))))));rw[u2];refine D8 C (F9 (D7 (CM C (DX C (yQ (C4 ?_))))))
      exact M5 C C
 have u1:decide ((i:Int)<((e.map dCf).length:Int))=true:=B0 (by rw[A8];omega)
 obtain⟨⟨c0,c1⟩,hc⟩:∃ a,e[i]? = some a:=⟨_,A4 h⟩
 have em:=ix dCf e i i (c0,c1) rfl hc
 have hw:=I8 ((i:Int)+1) (by omega)
 have hq:=hf _ (B8 hc)
 simp only at hq
 have hnx:DK e (i+1)=BJ (c0,c1) (DK e i):=by rw[DK,hc]
 have hOl:=NP e i
 have hOf:=hfl i
 clear hfl hr
 cases i with
 | zero=>
  have hnx:DK e (0+1)=[(c0,c1)]:=hnx
  refine B2 (D7 (B6 C (B6 C (yN C (yB C C C C (yQ (B3 ?_)))))));rw[u1];refine G2 C (B1 (B2 (B7 (D7 (H3 C (yQ (B2 (B7 ?_))))))));refine H9 (fun k:Nat=>⟨102,[(0,.d (.sl 2 (e.map dCf))),(3,.d (.val (.slice none 0 0))),(4,.d (dI (0:Nat))),(5,.d (dI k))],[],[]⟩) (fun k=>k=0) (fun _=>0) 0 C ⟨rfl,⟨E6,E6,E6,E6,D3⟩,D3,D3,C⟩ ?_
  rintro k rfl
  refine B2 (B2 ?_);refine J2 Tryz.mixed (by kernel_rfl) ?_;refine B6 C (B6 C (yNl C (yB C C C C (B6 C (yO C (yO C (yO C (yO C (yO C ?_)))))))));refine yO C (yO C (yO C (yO C (yO C (yO C (K9 C C (yQ (D8 C (F9 ?_)))))))));refine B2 (B2 ?_);refine J2 Tryz.mixed (by kernel_rfl) ?_;refine B6 C (B6 C (yNl C (yB C C C C (B6 C (yO C (yO C (yO C (yO C (yO C ?_)))))))));refine yO C (yO C (yO C (yO C (yO C (yO C (K9 C C (yQ (D8 C (B1 ?_)))))))));refine D7 (yEb C (B6 C (B6 C (ySn C C (yTe C C (EZ C (yQ ?_)))))));refine Br 6 66 (es:=[]) (ds:=[]) C C C C C ?_;refine JQ ⟨102,[(0,.d (.sl 2 (e.map dCf))),(3,.bs 79 1 cT 2),(4,.d (dI (0:Nat)))],[(79,cC [(c0,c1)])],[]⟩ Tryz.mixed ?_ ?_
  refine S5 0 C C (by kernel_rfl) (by kernel_rfl) O7 ?_;refine S5 1 C C (by kernel_rfl) (by kernel_rfl) O7 ?_;refine S5 3 C C (by kernel_rfl) (by kernel_rfl) O7 ?_
  refine S5 4 C C (by kernel_rfl) (by kernel_rfl) O7 ?_;refine S5 9 C C (by kernel_rfl) (by kernel_rfl) O7 ?_;refine I7 [_,_] C C ⟨⟨_,C,?_⟩,⟨_,C,?_⟩,D3⟩;refine ySz C C ?_
  refine yQ ?_;refine I7 [_] C C ⟨⟨_,C,?_⟩,D3⟩;refine yW em (by omega) C C (yQ ?_);refine I7 [_] C C ⟨⟨_,C,?_⟩,D3⟩;refine T3 (ys:=[_,_]) C C C (yQ ?_)
  refine I7 [_] C C ⟨⟨_,C,?_⟩,D3⟩;refine yR (es:=[[_,_]]) C C C C C ?_;refine yQ ?_;refine I7 [_] C C ⟨⟨_,C,?_⟩,D3⟩
  refine yTn (vs:=[vS c0,vS c1]) (m:=1) (es:=[dCf (c0,c1)]) (by omega) (by omega) (by omega) (by omega) C C C C C (yQ ?_);refine I7 [_] C C ⟨⟨_,C,?_⟩,D3⟩;refine yTe C C (yQ ?_);refine I7 [_] C C ⟨⟨_,C,?_⟩,D3⟩;refine EZ C (yQ ?_);refine AN C ⟨rfl,⟨E6,E6,E6,D3⟩,⟨⟨_,C,K8 C⟩,D3⟩,D3,C⟩
  refine yW em (by omega) C C (yQ ?_);refine I7 [_,_] C C ⟨⟨_,C,?_⟩,⟨_,C,?_⟩,D3⟩;refine ySz C C (yQ ?_);refine I7 [_] C C ⟨⟨_,C,?_⟩,D3⟩
  refine T3 (ys:=[_,_]) C C C (yQ ?_);refine I7 [_] C C ⟨⟨_,C,?_⟩,D3⟩;refine yR (es:=[[_,_]]) C C C C C ?_;refine yQ ?_;refine I7 [_] C C ⟨⟨_,C,?_⟩,D3⟩
  refine yTn (vs:=[vS c0,vS c1]) (m:=1) (es:=[dCf (c0,c1)]) (by omega) (by omega) (by omega) (by omega) C C C C C (yQ ?_);refine I7 [_] C C ⟨⟨_,C,?_⟩,D3⟩;refine yTe C C (yQ ?_);refine I7 [_] C C ⟨⟨_,C,?_⟩,D3⟩;refine EZ C (yQ ?_);refine AN C ⟨rfl,⟨E6,E6,E6,D3⟩,⟨⟨_,C,K8 C⟩,D3⟩,D3,C⟩
  refine T3 (ys:=[_,_]) C C C (yQ ?_);refine I7 [_,_] C C ⟨⟨_,C,?_⟩,⟨_,C,?_⟩,D3⟩;refine ySz C C (yQ ?_);refine I7 [_] C C ⟨⟨_,C,?_⟩,D3⟩
  refine yR (es:=[[_,_]]) C C C C C ?_;refine yQ ?_;refine I7 [_] C C ⟨⟨_,C,?_⟩,D3⟩
  refine yTn (vs:=[vS c0,vS c1]) (m:=1) (es:=[dCf (c0,c1)]) (by omega) (by omega) (by omega) (by omega) C C C C C (yQ ?_);refine I7 [_] C C ⟨⟨_,C,?_⟩,D3⟩;refine yTe C C (yQ ?_);refine I7 [_] C C ⟨⟨_,C,?_⟩,D3⟩;refine EZ C (yQ ?_);refine AN C ⟨rfl,⟨E6,E6,E6,D3⟩,⟨⟨_,C,K8 C⟩,D3⟩,D3,C⟩
  refine yR (es:=[[_,_]]) C C C C C ?_;refine yQ ?_;refine I7 [_] C C ⟨⟨_,C,?_⟩,D3⟩;refine ySz C C (yQ ?_);refine I7 [_] C C ⟨⟨_,C,?_⟩,D3⟩
  refine yTn (vs:=[vS c0,vS c1]) (m:=1) (es:=[dCf (c0,c1)]) (by omega) (by omega) (by omega) (by omega) C C C C C (yQ ?_);refine I7 [_] C C ⟨⟨_,C,?_⟩,D3⟩;refine yTe C C (yQ ?_);refine I7 [_] C C ⟨⟨_,C,?_⟩,D3⟩;refine EZ C (yQ ?_);refine AN C ⟨rfl,⟨E6,E6,E6,D3⟩,⟨⟨_,C,K8 C⟩,D3⟩,D3,C⟩;refine B4 (B6 C (yB C C C C (H3 C (yQ (B3 ?_)))))
  exact⟨0+1,by omega,by omega,rfl,⟨E6,.of_eq (by rw[hnx]<;>rfl),P2 hw,D3⟩,⟨⟨_,rfl,K8 (by rw[hnx]<;>rfl)⟩,D3⟩,D3,(by simp[PS.closed,SV.ok,G1,Nat.beq,-List.map_take,-List.map_set])⟩
 | succ i=>
  have hOp:0<(DK e (i+1)).length:=by
   have:=(HS (c0,c1) (DK e (i+1)))
   have h2:DK e (i+1)=match e[i]? with
    | none=>DK e i
    | some c=>BJ c (DK e i):=rfl
   rw[h2]
   cases he:e[i]? with
   | none=>rw[List.getElem?_eq_none_iff]at he;omega
   | some c=>exact(HS c _).2
  obtain⟨O,hO⟩:=H8 (DK e (i+1))
  rw[<-hO]at hnx hOl hOf hOp ⊢
  clear hO
  have hOl2:O.length<=1000:=by omega
  show PW Tryz.prog B w0 _ _ ⟨102,[(0,.d (.sl 2 (e.map dCf))),(3,.bs 79 O.length cT 2),(4,.d (dI (i+1:Nat)))],[(79,cC O)],[]⟩
  refine B2 (D7 (B6 C (B6 C (yN C (yB C C C C (yQ (B3 ?_)))))));rw[u1];refine G2 C (B1 (B2 (B7 (D7 (H3 C (yQ (B2 (B7 ?_))))))));refine H9 (fun k:Nat=>⟨102,[(0,.d (.sl 2 (e.map dCf))),(3,.bs 79 O.length cT 2),(4,.d (dI (i+1:Nat))),(5,.d (dI k))],[(79,cC O)],[]⟩) (fun k=>k<=O.length ∧ ∀ j d,j<k->O[j]? = some d->ltS d.1 c0=true) (fun k=>O.length-k) 0 ⟨by omega,fun j d hj=>by omega⟩
   ⟨rfl,⟨E6,E6,E6,E6,D3⟩,⟨⟨_,rfl,K8 rfl⟩,D3⟩,D3,(by simp[PS.closed,SV.ok,G1,Nat.beq,-List.map_take,-List.map_set])⟩ ?_
  rintro k ⟨hk,hlt⟩
  rcases D5 k O.length with h3|h3
  . have t1:decide ((k:Int)<(O.length:Int))=true:=B0 (by omega)
    obtain⟨⟨d0,d1⟩,hd⟩:∃ a,O[k]? = some a:=⟨_,A4 h3⟩
    obtain⟨a1,a2⟩:=vC_at O hd
    have hwk:=I8 ((k:Int)+1) (by omega)
    rcases Bool.eq_false_or_eq_true (ltS d0 c0)with h4|h4
    . have h48:lt8 d0 c0=true:=h4
      refine B2 (B2 ?_);refine J2 Tryz.mixed (by kernel_rfl) ?_;refine B6 C (AM C (yNb C (yB C C C C (B6 C ?_))));rw[t1];refine AM C (B6 C (Ad (by omega) (by omega) C C C (X9 C (AL C C a1 (B6 C (B6 C (yW em (by omega) C C (Q3 C C (K5 C C ?_)))))))));refine yBsl C C (L0 C C (yQ (B3 ?_)));rw[h48];refine G2 C (B1 (B7 (B4 (B6 C (yB C C C C (H3 C (yQ (BA (B3 ?_)))))))));rw[hwk]
      exact⟨k+1,⟨by omega,fun j d hj hd2=>by
       rcases D5 j k with h6|h6
       . exact hlt j d h6 hd2
       . obtain rfl:j=k:=by omega
         rw[hd]at hd2
         cases hd2
         exact h4⟩,by omega,rfl,⟨E6,E6,E6,E6,D3⟩,⟨⟨_,rfl,K8 rfl⟩,D3⟩,D3,(by simp[PS.closed,SV.ok,G1,Nat.beq,-List.map_take,-List.map_set])⟩
    . have hpos:Ak O c0=k:=NZ hlt (fun d hd2=>by rw[hd]at hd2;cases hd2;exact h4) hk
      have h48:lt8 d0 c0=false:=h4
      by_cases h5:d0=c0
      . have u5:(d0==c0)=true:=by simp[h5]
        have hins:BJ (c0,c1) O=O.set k (d0,J3 (val d1+val c1)):=by
         unfold BJ
         rw[hpos,hd]
         simp only
         rw[B9 h5]
        have hlen:(O.set k (d0,J3 (val d1+val c1))).length=O.length:=List.length_set ..
        have hfd:=hOf _ (B8 hd)
        have k1:=wRAddG d1 c1 (by simp only at hfd;omega) (by omega)
        have hs:=vC_set O (J3 (val d1+val c1)) hd
        have hl2:=cC_lt h3
        rw[hins]at hnx
        obtain⟨q,hq2⟩:=H8 (J3 (val d1+val c1))
        rw[<-hq2]at k1 hs hlen hnx
        clear hq2 hins
        refine B2 (B2 ?_);refine J2 Tryz.mixed (by kernel_rfl) ?_;refine B6 C (AM C (yNb C (yB C C C C (B6 C ?_))));rw[t1];refine AM C (B6 C (Ad (by omega) (by omega) C C C (X9 C (AL C C a1 (B6 C (B6 C (yW em (by omega) C C (Q3 C C (K5 C C ?_)))))))));refine yBsl C C (L0 C C (yQ (B3 ?_)));rw[h48];refine D8 C (F9 (B2 (B2 ?_)));refine J2 Tryz.mixed (by kernel_rfl) ?_;refine B6 C (AM C (yNb C (yB C C C C (B6 C ?_))));rw[t1];refine AM C (B6 C (Ad (by omega) (by omega) C C C (X9 C (AL C C a1 (B6 C (B6 C (yW em (by omega) C C (Q3 C C (K5 C C ?_)))))))));refine N6 C C (L0 C C (yQ (B3 ?_)));rw[u5];refine G2 C (B2 ?_);refine J2 Tryz.mixed (by kernel_rfl) ?_;refine AM C (B6 C (AM C (B6 C (Ad (by omega) (by omega) C C C (X9 C (AL C C a2 (B6 C (B6 C (yW em (by omega) C C ?_)))))))));refine Q3 C C (K5 C C (yC (k1) C C (Ad (by omega) (by omega) C C C (X9 C ?_))));refine X8 C C C hs ?_ hl2;refine yQ (F9 (B4 (B6 C (yB C C C C (H3 C (yQ (B3 ?_)))))));rw[hw]
        exact⟨i+1+1,by omega,by omega,rfl,⟨E6,.of_eq (by rw[hnx];show SV.bs 79 O.length cT 2=SV.bs 79 _ cT 2;rw[hlen]),E6,D3⟩,⟨⟨_,rfl,K8 (by rw[hnx])⟩,D3⟩,D3,(by simp[PS.closed,SV.ok,G1,Nat.beq,-List.map_take,-List.map_set])⟩
      . have u5:(d0==c0)=false:=by simp[h5]
        have hins:BJ (c0,c1) O=O.take k++(c0,c1)::O.drop k:=by
         unfold BJ
         rw[hpos,hd]
         simp only
         rw[B5 h5]
        rw[hins]at hnx
        have hdl:(O.drop k).length=O.length-k:=M7
        have htl:(O.take k).length=k:=by rw[F4];omega
        have hlen:(O.take k++(c0,c1)::O.drop k).length=k+1+(O.length-k):=by rw[C9,List.length_cons,htl,hdl];omega
        have hv1:(vC O).length=O.length*2:=Ee O
        have hv2:=vC_drop O k
        have hv3:(((cC O).map (SV.kill 66)).map (SV.kill 66)).take (k*2)=cC (O.take k):=by rw[GJ,GJ,<-List.map_take,vC_take]
        have hv4:(vC (O.take k)).length=k*2:=by rw[Ee,htl]
        have hv5:(vC (O.drop k)).length=(O.length-k)*2:=by rw[Ee,hdl]
        have hv6:O9 2 (O.length-k) ((vC (O.drop k)).map .val)=(O.drop k).map dCf:=LO _ hdl
        have hv7:(vC (O.take k)++[vS c0,vS c1]++vC (O.drop k))=vC (O.take k++(c0,c1)::O.drop k):=by rw[Qc];show _=vC (O.take k)++([vS c0,vS c1]++vC (O.drop k));rw[G8]
        obtain⟨TK,hTK⟩:=H8 (O.take k)
        obtain⟨DR,hDR⟩:=H8 (O.drop k)
        rw[<-hTK,<-hDR]at hnx hlen hv7
        rw[<-hTK]at hv3 hv4
        rw[<-hDR]at hv2 hv5 hv6 hdl
        clear hTK hDR hins hpos hlt
        refine B2 (B2 ?_);refine J2 Tryz.mixed (by kernel_rfl) ?_;refine B6 C (AM C (yNb C (yB C C C C (B6 C ?_))));rw[t1];refine AM C (B6 C (Ad (by omega) (by omega) C C C (X9 C (AL C C a1 (B6 C (B6 C (yW em (by omega) C C (Q3 C C (K5 C C ?_)))))))));refine yBsl C C (L0 C C (yQ (B3 ?_)));rw[h48];refine D8 C (F9 (B2 (B2 ?_)));refine J2 Tryz.mixed (by kernel_rfl) ?_;refine B6 C (AM C (yNb C (yB C C C C (B6 C ?_))));rw[t1];refine AM C (B6 C (Ad (by omega) (by omega) C C C (X9 C (AL C C a1 (B6 C (B6 C (yW em (by omega) C C (Q3 C C (K5 C C ?_)))))))));refine N6 C C (L0 C C (yQ (B3 ?_)));rw[u5];refine D8 C (B1 (D7 (yEb C (AM C (B6 C (yTa (us:=vC O) (vs:=vC DR) (n:=O.length) (m:=k) (i:=79) (iz:=66) (by omega) (by omega) (by omega) hv1 hv2 C C C C C (EZ C (yQ ?_))))))));refine Br 6 66 (es:=DR.map dCf) (ds:=(vC DR).map .val) (by rw[A8,hv5]) hv6 (NH _) rfl rfl ?_;refine NU 79 (k*2) C hv3 ?_;refine JQ ⟨102,[(0,.d (.sl 2 (e.map dCf))),(3,.bs 79 (k+1+(O.length-k)) cT 2),(4,.d (dI (i+1:Nat)))],[(79,cC (TK++(c0,c1)::DR))],[]⟩ Tryz.mixed ?_ ?_
        refine S5 0 C C (by kernel_rfl) (by kernel_rfl) O7 ?_;refine S5 1 C C (by kernel_rfl) (by kernel_rfl) O7 ?_;refine S5 3 C C (by kernel_rfl) (by kernel_rfl) O7 ?_
        refine S5 4 C C (by kernel_rfl) (by kernel_rfl) O7 ?_;refine S5 9 C C (by kernel_rfl) (by kernel_rfl) O7 ?_;refine I7 [_,_] C C ⟨⟨_,C,?_⟩,⟨_,C,?_⟩,D3⟩
        refine yDb (by omega) (by omega) C C (yQ ?_);refine I7 [_] C C ⟨⟨_,C,?_⟩,D3⟩;refine yW em (by omega) C C (yQ ?_);refine I7 [_] C C ⟨⟨_,C,?_⟩,D3⟩
        refine T3 (ys:=[_,_]) C C C (yQ ?_);refine I7 [_] C C ⟨⟨_,C,?_⟩,D3⟩;refine yR (es:=[[_,_]]) C C C C C ?_;refine yQ ?_;refine I7 [_] C C ⟨⟨_,C,?_⟩,D3⟩
        refine Lh (n:=k) (us:=vC TK) (vs:=[vS c0,vS c1]) (m:=1) (es:=[dCf (c0,c1)]) (by omega) (by omega) (by omega) C C hv4 C C C (yQ ?_);refine I7 [_] C C ⟨⟨_,C,?_⟩,D3⟩
        refine Lh (n:=k+1) (us:=vC TK++[vS c0,vS c1]) (vs:=vC DR) (m:=O.length-k) (es:=DR.map dCf) (by omega) (by omega) (by omega) hv6 hv5 (by rw[C9,hv4];show k*2+2=_;omega) rfl rfl rfl ?_;refine yQ ?_;refine I7 [_] C C ⟨⟨_,C,?_⟩,D3⟩;refine EZ C (yQ ?_)
        refine AN C ⟨rfl,⟨E6,E6,E6,D3⟩,⟨⟨_,C,K8 (G4 (fun l=>List.map (fun u=>SV.d (.val u)) l) hv7)⟩,D3⟩,D3,(by simp[PS.closed,SV.ok,G1,Nat.beq,-List.map_take,-List.map_set])⟩
        refine yW em (by omega) C C (yQ ?_);refine I7 [_,_] C C ⟨⟨_,C,?_⟩,⟨_,C,?_⟩,D3⟩;refine yDb (by omega) (by omega) C C (yQ ?_);refine I7 [_] C C ⟨⟨_,C,?_⟩,D3⟩
        refine T3 (ys:=[_,_]) C C C (yQ ?_);refine I7 [_] C C ⟨⟨_,C,?_⟩,D3⟩;refine yR (es:=[[_,_]]) C C C C C ?_;refine yQ ?_;refine I7 [_] C C ⟨⟨_,C,?_⟩,D3⟩
        refine Lh (n:=k) (us:=vC TK) (vs:=[vS c0,vS c1]) (m:=1) (es:=[dCf (c0,c1)]) (by omega) (by omega) (by omega) C C hv4 C C C (yQ ?_);refine I7 [_] C C ⟨⟨_,C,?_⟩,D3⟩
        refine Lh (n:=k+1) (us:=vC TK++[vS c0,vS c1]) (vs:=vC DR) (m:=O.length-k) (es:=DR.map dCf) (by omega) (by omega) (by omega) hv6 hv5 (by rw[C9,hv4];show k*2+2=_;omega) rfl rfl rfl ?_;refine yQ ?_;refine I7 [_] C C ⟨⟨_,C,?_⟩,D3⟩;refine EZ C (yQ ?_)
        refine AN C ⟨rfl,⟨E6,E6,E6,D3⟩,⟨⟨_,C,K8 (G4 (fun l=>List.map (fun u=>SV.d (.val u)) l) hv7)⟩,D3⟩,D3,(by simp[PS.closed,SV.ok,G1,Nat.beq,-List.map_take,-List.map_set])⟩
        refine T3 (ys:=[_,_]) C C C (yQ ?_);refine I7 [_,_] C C ⟨⟨_,C,?_⟩,⟨_,C,?_⟩,D3⟩;refine yDb (by omega) (by omega) C C (yQ ?_)
        refine I7 [_] C C ⟨⟨_,C,?_⟩,D3⟩;refine yR (es:=[[_,_]]) C C C C C ?_;refine yQ ?_;refine I7 [_] C C ⟨⟨_,C,?_⟩,D3⟩
        refine Lh (n:=k) (us:=vC TK) (vs:=[vS c0,vS c1]) (m:=1) (es:=[dCf (c0,c1)]) (by omega) (by omega) (by omega) C C hv4 C C C (yQ ?_);refine I7 [_] C C ⟨⟨_,C,?_⟩,D3⟩
        refine Lh (n:=k+1) (us:=vC TK++[vS c0,vS c1]) (vs:=vC DR) (m:=O.length-k) (es:=DR.map dCf) (by omega) (by omega) (by omega) hv6 hv5 (by rw[C9,hv4];show k*2+2=_;omega) rfl rfl rfl ?_;refine yQ ?_;refine I7 [_] C C ⟨⟨_,C,?_⟩,D3⟩;refine EZ C (yQ ?_)
        refine AN C ⟨rfl,⟨E6,E6,E6,D3⟩,⟨⟨_,C,K8 (G4 (fun l=>List.map (fun u=>SV.d (.val u)) l) hv7)⟩,D3⟩,D3,(by simp[PS.closed,SV.ok,G1,Nat.beq,-List.map_take,-List.map_set])⟩
        refine yR (es:=[[_,_]]) C C C C C ?_;refine yQ ?_;refine I7 [_] C C ⟨⟨_,C,?_⟩,D3⟩;refine yDb (by omega) (by omega) C C (yQ ?_);refine I7 [_] C C ⟨⟨_,C,?_⟩,D3⟩
        refine Lh (n:=k) (us:=vC TK) (vs:=[vS c0,vS c1]) (m:=1) (es:=[dCf (c0,c1)]) (by omega) (by omega) (by omega) C C hv4 C C C (yQ ?_);refine I7 [_] C C ⟨⟨_,C,?_⟩,D3⟩
        refine Lh (n:=k+1) (us:=vC TK++[vS c0,vS c1]) (vs:=vC DR) (m:=O.length-k) (es:=DR.map dCf) (by omega) (by omega) (by omega) hv6 hv5 (by rw[C9,hv4];show k*2+2=_;omega) rfl rfl rfl ?_;refine yQ ?_;refine I7 [_] C C ⟨⟨_,C,?_⟩,D3⟩;refine EZ C (yQ ?_)
        refine AN C ⟨rfl,⟨E6,E6,E6,D3⟩,⟨⟨_,C,K8 (G4 (fun l=>List.map (fun u=>SV.d (.val u)) l) hv7)⟩,D3⟩,D3,(by simp[PS.closed,SV.ok,G1,Nat.beq,-List.map_take,-List.map_set])⟩
        refine B4 (B6 C (yB C C C C (H3 C (yQ (B3 ?_)))));rw[hw]
        exact⟨i+1+1,by omega,by omega,rfl,⟨E6,.of_eq (by rw[hnx];show SV.bs 79 _ cT 2=SV.bs 79 _ cT 2;rw[hlen]),E6,D3⟩,⟨⟨_,rfl,K8 (by rw[hnx])⟩,D3⟩,D3,(by simp[PS.closed,SV.ok,G1,Nat.beq,-List.map_take,-List.map_set])⟩
  . have t1:decide ((k:Int)<(O.length:Int))=false:=A7 (by omega)
    obtain rfl:k=O.length:=by omega
    have hpos:Ak O c0=O.length:=NZ hlt (fun d hd2=>by rw[I0 (E0 _)]at hd2;cases hd2) hk
    have hins:BJ (c0,c1) O=O++[(c0,c1)]:=by
     unfold BJ
     rw[hpos,I0 (E0 _)]
     simp only
     rw[I2,List.drop_length]
    rw[hins]at hnx
    have hlen:(O++[(c0,c1)]).length=O.length+1:=by simp
    have hv1:(vC O).length=O.length*2:=Ee O
    have hv2:(vC O).drop (O.length*2)=[]:=by rw[<-hv1,List.drop_length]
    have hv3:(((cC O).map (SV.kill 66)).map (SV.kill 66)).take (O.length*2)=cC O:=by rw[GJ,GJ];exact E3 (by rw[A8,hv1];omega)
    have hv7:vC O++[vS c0,vS c1]=vC (O++[(c0,c1)]):=by rw[Qc];rfl
    clear hins hpos hlt
    refine B2 (B2 ?_);refine J2 Tryz.mixed (by kernel_rfl) ?_;refine B6 C (AM C (yNb C (yB C C C C (B6 C ?_))));rw[t1];refine yO C (yO C (yO C (yO C (yO C (yO C (yO C (yO C (yO C (yO C ?_)))))))));refine yO C (K9 C C (yQ (D8 C (F9 (B2 (B2 ?_))))));refine J2 Tryz.mixed (by kernel_rfl) ?_;refine B6 C (AM C (yNb C (yB C C C C (B6 C ?_))));rw[t1];refine yO C (yO C (yO C (yO C (yO C (yO C (yO C (yO C (yO C (yO C ?_)))))))));refine yO C (K9 C C (yQ (D8 C (B1 (D7 (yEb C (AM C (B6 C (yTa (us:=vC O) (vs:=[]) (n:=O.length) (m:=O.length) (i:=79) (iz:=66) (by omega) (by omega) (by omega) hv1 hv2 C C C C C ?_)))))))));refine EZ C (yQ ?_);refine Br 6 66 (es:=[]) (ds:=[]) (by simp) (by rw[Nat.sub_self];rfl) rfl rfl rfl ?_;refine NU 79 (O.length*2) C hv3 ?_;refine JQ ⟨102,[(0,.d (.sl 2 (e.map dCf))),(3,.bs 79 (O.length+1) cT 2),(4,.d (dI (i+1:Nat)))],[(79,cC (O++[(c0,c1)]))],[]⟩ Tryz.mixed ?_ ?_
    refine S5 0 C C (by kernel_rfl) (by kernel_rfl) O7 ?_;refine S5 1 C C (by kernel_rfl) (by kernel_rfl) O7 ?_;refine S5 3 C C (by kernel_rfl) (by kernel_rfl) O7 ?_
    refine S5 4 C C (by kernel_rfl) (by kernel_rfl) O7 ?_;refine S5 9 C C (by kernel_rfl) (by kernel_rfl) O7 ?_;refine I7 [_,_] C C ⟨⟨_,C,?_⟩,⟨_,C,?_⟩,D3⟩
    refine yDb (by omega) (by omega) C C (yQ ?_);refine I7 [_] C C ⟨⟨_,C,?_⟩,D3⟩;refine yW em (by omega) C C (yQ ?_);refine I7 [_] C C ⟨⟨_,C,?_⟩,D3⟩
    refine T3 (ys:=[_,_]) C C C (yQ ?_);refine I7 [_] C C ⟨⟨_,C,?_⟩,D3⟩;refine yR (es:=[[_,_]]) C C C C C ?_;refine yQ ?_;refine I7 [_] C C ⟨⟨_,C,?_⟩,D3⟩
    refine Lh (n:=O.length) (us:=vC O) (vs:=[vS c0,vS c1]) (m:=1) (es:=[dCf (c0,c1)]) (by omega) (by omega) (by omega) C C hv1 C C C (yQ ?_);refine I7 [_] C C ⟨⟨_,C,?_⟩,D3⟩
    refine yTe C C (yQ ?_);refine I7 [_] C C ⟨⟨_,C,?_⟩,D3⟩;refine EZ C (yQ ?_)
    refine AN C ⟨rfl,⟨E6,E6,E6,D3⟩,⟨⟨_,C,K8 (G4 (fun l=>List.map (fun u=>SV.d (.val u)) l) hv7)⟩,D3⟩,D3,(by simp[PS.closed,SV.ok,G1,Nat.beq,-List.map_take,-List.map_set])⟩
    refine yW em (by omega) C C (yQ ?_);refine I7 [_,_] C C ⟨⟨_,C,?_⟩,⟨_,C,?_⟩,D3⟩;refine yDb (by omega) (by omega) C C (yQ ?_);refine I7 [_] C C ⟨⟨_,C,?_⟩,D3⟩
    refine T3 (ys:=[_,_]) C C C (yQ ?_);refine I7 [_] C C ⟨⟨_,C,?_⟩,D3⟩;refine yR (es:=[[_,_]]) C C C C C ?_;refine yQ ?_;refine I7 [_] C C ⟨⟨_,C,?_⟩,D3⟩
    refine Lh (n:=O.length) (us:=vC O) (vs:=[vS c0,vS c1]) (m:=1) (es:=[dCf (c0,c1)]) (by omega) (by omega) (by omega) C C hv1 C C C (yQ ?_);refine I7 [_] C C ⟨⟨_,C,?_⟩,D3⟩
    refine yTe C C (yQ ?_);refine I7 [_] C C ⟨⟨_,C,?_⟩,D3⟩;refine EZ C (yQ ?_)
    refine AN C ⟨rfl,⟨E6,E6,E6,D3⟩,⟨⟨_,C,K8 (G4 (fun l=>List.map (fun u=>SV.d (.val u)) l) hv7)⟩,D3⟩,D3,(by simp[PS.closed,SV.ok,G1,Nat.beq,-List.map_take,-List.map_set])⟩
    refine T3 (ys:=[_,_]) C C C (yQ ?_);refine I7 [_,_] C C ⟨⟨_,C,?_⟩,⟨_,C,?_⟩,D3⟩;refine yDb (by omega) (by omega) C C (yQ ?_)
    refine I7 [_] C C ⟨⟨_,C,?_⟩,D3⟩;refine yR (es:=[[_,_]]) C C C C C ?_;refine yQ ?_;refine I7 [_] C C ⟨⟨_,C,?_⟩,D3⟩
    refine Lh (n:=O.length) (us:=vC O) (vs:=[vS c0,vS c1]) (m:=1) (es:=[dCf (c0,c1)]) (by omega) (by omega) (by omega) C C hv1 C C C (yQ ?_);refine I7 [_] C C ⟨⟨_,C,?_⟩,D3⟩
    refine yTe C C (yQ ?_);refine I7 [_] C C ⟨⟨_,C,?_⟩,D3⟩;refine EZ C (yQ ?_)
    refine AN C ⟨rfl,⟨E6,E6,E6,D3⟩,⟨⟨_,C,K8 (G4 (fun l=>List.map (fun u=>SV.d (.val u)) l) hv7)⟩,D3⟩,D3,(by simp[PS.closed,SV.ok,G1,Nat.beq,-List.map_take,-List.map_set])⟩
    refine yR (es:=[[_,_]]) C C C C C ?_;refine yQ ?_;refine I7 [_] C C ⟨⟨_,C,?_⟩,D3⟩;refine yDb (by omega) (by omega) C C (yQ ?_);refine I7 [_] C C ⟨⟨_,C,?_⟩,D3⟩
    refine Lh (n:=O.length) (us:=vC O) (vs:=[vS c0,vS c1]) (m:=1) (es:=[dCf (c0,c1)]) (by omega) (by omega) (by omega) C C hv1 C C C (yQ ?_);refine I7 [_] C C ⟨⟨_,C,?_⟩,D3⟩
    refine yTe C C (yQ ?_);refine I7 [_] C C ⟨⟨_,C,?_⟩,D3⟩;refine EZ C (yQ ?_)
    refine AN C ⟨rfl,⟨E6,E6,E6,D3⟩,⟨⟨_,C,K8 (G4 (fun l=>List.map (fun u=>SV.d (.val u)) l) hv7)⟩,D3⟩,D3,(by simp[PS.closed,SV.ok,G1,Nat.beq,-List.map_take,-List.map_set])⟩
    refine B4 (B6 C (yB C C C C (H3 C (yQ (B3 ?_)))));rw[hw]
    exact⟨i+1+1,by omega,by omega,rfl,⟨E6,.of_eq (by rw[hnx];show SV.bs 79 _ cT 2=SV.bs 79 _ cT 2;rw[hlen]),E6,D3⟩,⟨⟨_,rfl,K8 (by rw[hnx])⟩,D3⟩,D3,(by simp[PS.closed,SV.ok,G1,Nat.beq,-List.map_take,-List.map_set])⟩
theorem Iw (s:F6) (hs:s.length<=1000000):PCalls Tryz.prog 159 [dS s] (.d (dB (Bx s))):=by
 have c1:=QL s (by omega)
 cases h:I4 s with
 | false=>
  rw[h]at c1
  have e:Bx s=false:=by simp[Bx,h]
  rw[e]
  refine L5 Tryz.func159 C Tryz.ntmps159 Tryz.results159 fun B w0=>?_
  refine D7 (H3 C (yQ (D7 (B6 C (yC (c1) C C (B6 C (yO C (yO C (yO C ?_)))))))));refine K9 C C (B6 C (yO C (yO C (yO C (K9 C C (H3 C (yQ (C4 ?_))))))))
  exact M5 C C
 | true=>
  rw[h]at c1
  obtain⟨x,l,rfl⟩:∃ x l,s=x::l:=by
   cases s with
   | nil=>simp[I4]at h
   | cons x l=>exact⟨x,l,C⟩
  have hx:(x::l:F6)[(0:Int).toNat]? = some x:=rfl
  by_cases h1:97<=x.toNat
  . have t1:decide ((x.toNat:Int) ≥ 97)=true:=B0 (by omega)
    have e:Bx (x::l)=decide (x.toNat<=122):=by simp[Bx,h,h1]
    rw[e]
    refine L5 Tryz.func159 C Tryz.ntmps159 Tryz.results159 fun B w0=>?_
    refine D7 (H3 C (yQ (D7 (B6 C (yC (c1) C C (B6 C (B6 C (U9 hx (by omega) C C (yB C C C C ?_)))))))));refine L0 C C (B6 C ?_);rw[t1];refine B6 C (U9 hx (by omega) C C (yB C C C C (L0 C C (H3 C (yQ (C4 ?_))))))
    exact J5 _ (.tmp C .nil) (G4 (fun b=>SV.d (dB b)) (decide_eq_decide.2 (by omega)))
  . have t1:decide ((x.toNat:Int) ≥ 97)=false:=A7 (by omega)
    have e:Bx (x::l)=false:=by simp[Bx,h,h1]
    rw[e]
    refine L5 Tryz.func159 C Tryz.ntmps159 Tryz.results159 fun B w0=>?_
    refine D7 (H3 C (yQ (D7 (B6 C (yC (c1) C C (B6 C (B6 C (U9 hx (by omega) C C (yB C C C C ?_)))))))));refine L0 C C (B6 C ?_);rw[t1];refine yO C (yO C (yO C (K9 C C (H3 C (yQ (C4 ?_))))))
    exact M5 C C
theorem KC (e:List Cf) (hl:e.length<=1000000) (hn:∀ c∈e,c.1.length<=1000000) (hf:∀ c∈e,c.2.length<=1000000):PCalls Tryz.prog 113 [.sl 2 (e.map dCf)] (.d (dI (X0 e))):=by
 obtain⟨r,hr⟩:=H8 (X0 e)
 rw[<-hr]
 rw[X0]at hr
 by_cases h16:16<e.length
 . have t0:decide (((e.map dCf).length:Int) > 16)=true:=B0 (by rw[A8];omega)
   rw[B9 h16]at hr
   subst hr
   refine L5 Tryz.func113 C Tryz.ntmps113 Tryz.results113 fun B w0=>?_
   refine D7 (H3 C (yQ (B2 (D7 (B6 C (yN C (yB C C C C (yQ (B3 ?_)))))))))
   rw[t0];refine G2 C ?_;refine B2 ?_;refine B4 ?_;refine H3 C ?_;refine yQ ?_;refine C4 ?_;refine A5 ?_
   exact M5 C C
 rw[B5 h16]at hr
 have t0:decide (((e.map dCf).length:Int) > 16)=false:=A7 (by rw[A8];omega)
 refine L5 Tryz.func113 C Tryz.ntmps113 Tryz.results113 fun B w0=>?_
 refine D7 (H3 C (yQ (B2 (D7 (B6 C (yN C (yB C C C C (yQ (B3 ?_)))))))))
 rw[t0];refine D8 C ?_;refine B1 ?_;refine B2 ?_;refine B2 ?_;refine B4 ?_;refine H3 C ?_;refine yQ ?_;refine B7 ?_
 refine H9 (fun i:Nat=>⟨27,[(0,.d (.sl 2 (e.map dCf))),(3,.d (dI i))],[],[]⟩) (fun i=>i<=e.length ∧ ∀ d∈e.take i,cE d=0) (fun i=>e.length-i) 0 ⟨E7 _,fun d hd=>by simp at hd⟩
  ⟨rfl,⟨E6,E6,D3⟩,D3,D3,rfl⟩ ?_
 rintro i ⟨hi,hok⟩
 rcases D5 i e.length with h|h
 rotate_left
 . have t1:decide ((i:Int)<((e.map dCf).length:Int))=false:=A7 (by rw[A8];omega)
   obtain rfl:i=e.length:=by omega
   rw[I2]at hok
   rw[Ml hok]at hr
   subst hr
   refine B2 (D7 (B6 C (B6 C (yN C (yB C C C C (yQ (B3 ?_)))))));rw[t1];refine D8 C (F9 (D7 (H3 C (yQ (C4 ?_)))))
   exact M5 C C
 have t1:decide ((i:Int)<((e.map dCf).length:Int))=true:=B0 (by rw[A8];omega)
 obtain⟨⟨c0,c1⟩,hc⟩:∃ a,e[i]? = some a:=⟨_,A4 h⟩
 have em:=ix dCf e i i (c0,c1) rfl hc
 have hw:=I8 ((i:Int)+1) (by omega)
 have hq:=hf _ (B8 hc)
 have hqn:=hn _ (B8 hc)
 simp only at hq hqn
 have k1:=Iw c0 (by omega)
 have k2:=wRCheck c1 (by omega)
 have hat:=Sl hc hok
 have hnx:=KN (p:=fun d=>cE d=0) hc hok
 simp only[cE]at hat hnx
 cases hn:Bx c0 with
 | false=>
  rw[hn]at k1 hat
  rw[hat (by simp)]at hr
  have hr:r=23:=by simpa using hr
  subst hr
  refine B2 (D7 (B6 C (B6 C (yN C (yB C C C C (yQ (B3 ?_)))))));rw[t1];refine G2 C (B1 (B2 (B7 (B2 (D7 (B6 C (B6 C (yW em (by omega) C C (Q3 C C ?_)))))))));refine K5 C C (yC (k1) C C (yU C C C (yQ (G2 C (D7 (H3 C (yQ (C4 (A5 ?_)))))))));refine C3 (A5 (A5 (C3 (A5 ?_))))
  exact M5 C C
 | true=>
  rw[hn]at k1 hat hnx
  cases hs:Cu c1 with
  | false=>
   rw[hs]at k2 hat
   rw[hat (by simp)]at hr
   have hr:r=1:=by simpa using hr
   subst hr
   refine B2 (D7 (B6 C (B6 C (yN C (yB C C C C (yQ (B3 ?_)))))));rw[t1];refine G2 C (B1 (B2 (B7 (B2 (D7 (B6 C (B6 C (yW em (by omega) C C (Q3 C C ?_)))))))));refine K5 C C (yC (k1) C C (yU C C C (yQ (D8 C (B1 (D7 (B6 C (B6 C (yW em (by omega) C C ?_)))))))));refine Q3 C C (K5 C C (yC (k2) C C (yB C C C C (yQ (G2 C (D7 (H3 C (yQ (C4 ?_)))))))));refine C3 (A5 (A5 (C3 (A5 ?_))))
   exact M5 C C
  | true=>
   rw[hs]at k2 hnx
   refine B2 (D7 (B6 C (B6 C (yN C (yB C C C C (yQ (B3 ?_)))))));rw[t1];refine G2 C (B1 (B2 (B7 (B2 (D7 (B6 C (B6 C (yW em (by omega) C C (Q3 C C ?_)))))))));refine K5 C C (yC (k1) C C (yU C C C (yQ (D8 C (B1 (D7 (B6 C (B6 C (yW em (by omega) C C ?_)))))))));refine Q3 C C (K5 C C (yC (k2) C C (yB C C C C (yQ (D8 C (B1 (B4 (B6 C (yB C C C C ?_)))))))));refine H3 C (yQ (B3 ?_))
   exact⟨i+1,⟨by omega,hnx (by simp)⟩,by omega,rfl,⟨E6,P2 hw,D3⟩,D3,D3,rfl⟩
theorem Qw {e:List Cf} (he:∀ c∈e,Cu c.2=true):(DK e e.length).filter CJ=nf e:=Qx he
theorem rn_nf {e:List Cf} (he:X0 e=0):(DK e e.length).filter CJ=nf e:=Qx fun c hc=>((T7.1 he).2 c hc).2
theorem OT (e:List Cf) (hl:e.length<=1000000) (hn:∀ c∈e,c.1.length<=1000000) (hf:∀ c∈e,c.2.length<=70000):PCalls Tryz.prog 135 [.sl 2 (e.map dCf)] (.tup [.sl 2 ((Pu e).map dCf),dI (X0 e)]):=by
 have k1:=KC e hl hn fun c hc=>by have:=hf c hc;omega
 by_cases h:X0 e=0
 . obtain⟨h1,h2⟩:=T7.1 h
   have k2:=Ec e (by omega) hf
   rw[rn_nf h]at k2
   rw[Pu,B9 h,h]
   rw[h]at k1
   obtain⟨r,hr⟩:=H8 (nf e)
   rw[<-hr]at k2 ⊢
   refine L5 Tryz.func135 C Tryz.ntmps135 Tryz.results135 fun B w0=>?_
   refine D7 (H3 C (H3 C (yQ (B2 (D7 (B6 C (yC (k1) C C (H3 C (yQ ?_)))))))));refine D7 (B6 C (yB C C C C (yQ (D8 C (B1 (D7 (B6 C (yC (k2) C C (H3 C ?_)))))))));refine H3 C (yQ (C4 ?_))
   exact Y7 C C C
 . have t:(X0 e != 0)=true:=by simpa using h
   rw[Pu,B5 h]
   obtain⟨x,hx⟩:=H8 (X0 e)
   rw[<-hx]at k1 t ⊢
   refine L5 Tryz.func135 C Tryz.ntmps135 Tryz.results135 fun B w0=>?_
   refine D7 (H3 C (H3 C (yQ (B2 (D7 (B6 C (yC (k1) C C (H3 C (yQ ?_)))))))));refine D7 (B6 C (yB C C C C (yQ (B3 ?_))));rw[t];refine G2 C (D7 (B6 C (H3 C (H3 C (yQ (C4 (A5 ?_)))))))
   exact J5 _ (.tnil 2 C (.tmp C .nil)) C
def Rc (d:F6):Bool:=d.all U7&&(!(d==[]) && !(decide (d.head? = some 48) && !(d==[48])))
def Pt (t:F6):Cf×Bool:=if BL 42 t then (if Rc (R0 42 t)then ((P7 42 t,J3 (val (R0 42 t))),Bx (P7 42 t))else ((t,[49]),false))else ((t,[49]),Bx t)
theorem OG {s:F6} (h:∀ x∈s,x≠c):T6 c s=none:=by
 induction s with
 | nil=>rfl
 | cons b l ih=>rw[T6,B5 (h b (List.mem_cons_self ..)),ih fun x hx=>h x (List.mem_cons_of_mem _ hx)];rfl
theorem OH {s:F6} (h:∀ x∈s.take i,x≠c) (hi:s[i]? = some c):T6 c s=some (s.take i,s.drop (i+1)):=by
 induction i generalizing s with
 | zero=>
  cases s with
  | nil=>cases hi
  | cons b l=>
   have:b=c:=by simpa using hi
   rw[T6,B9 this];rfl
 | succ i ih=>
  cases s with
  | nil=>cases hi
  | cons b l=>
   rw[T6,B5 (h b (by simp)),ih (fun x hx=>h x (by simp[hx])) (by simpa using hi)]
   rfl
theorem NJ {s:F6} (h:∀ x∈s.take i,x≠c) (hi:s[i]? = some x) (hx:x≠c):∀ x∈s.take (i+1),x≠c:=fun y hy=>by
 rw[H4,hi]at hy
 rcases List.mem_append.1 hy with h1|h1
 . exact h y h1
 . simp at h1;rw[h1];exact hx
theorem Rb {d:F6} (h:d[i]? = some x) (hx:U7 x=false):Rc d=false:=by
 have:d.all U7=false:=by rw[List.all_eq_false];exact⟨x,B8 h,by simp[hx]⟩
 rw[Rc,this];rfl
theorem QF (t:F6) (ht:t.length<=65536):PCalls Tryz.prog 184 [dS t] (.tup [.agg (dCf (Pt t).1),dB (Pt t).2]):=by
 obtain⟨r,hr⟩:=H8 (Pt t)
 rw[<-hr]
 obtain⟨⟨r0,r1⟩,r2⟩:=r
 refine L5 Tryz.func184 C Tryz.ntmps184 Tryz.results184 fun B w0=>?_
 refine D7 (yZ (cs:=[_,_]) C C (H3 C (yQ (D7 (H3 C (yQ (B2 (D7 (H3 C ?_)))))))));refine yQ (B7 ?_);refine H9 (fun i:Nat=>⟨68,[(0,.d (dS t)),(2,.bx 2 0),(4,.d (dI (-1))),(5,.d (dI i))],[(2,[.d (dS []),.d (dS [])])],[]⟩) (fun i=>i<=t.length ∧ ∀ x∈t.take i,x≠42) (fun i=>t.length-i) 0 ⟨E7 _,fun x hx=>by simp at hx⟩
  ⟨rfl,⟨E6,E6,E6,E6,D3⟩,⟨⟨_,rfl,H5 _⟩,D3⟩,D3,rfl⟩ ?_
 rintro i ⟨hi,hno⟩
 rcases D5 i t.length with h|h
 rotate_left
 . have t1:decide ((i:Int)<(t.length:Int))=false:=A7 (by omega)
   obtain rfl:i=t.length:=by omega
   rw[I2]at hno
   have e1:Pt t=((t,[49]),Bx t):=by rw[Pt,show BL 42 t=false by rw[BL,OG hno];rfl];rfl
   rw[e1]at hr
   cases hr
   have k1:=Iw t (by omega)
   obtain⟨b,hb⟩:=H8 (Bx t)
   rw[<-hb]at k1 ⊢
   refine B2 (D7 (B6 C (B6 C (N3 C (yB C C C C (yQ (B3 ?_)))))));rw[t1];refine D8 C (F9 (D7 (B6 C (yG (ys:=[_,_]) C C (yZ (cs:=[_,_]) C C (yS (cs':=[_,_]) C C C C C (yQ (B2 (D7 ?_)))))))));refine B6 C (yB C C C C (yQ (D8 C (B1 (B2 ?_)))));refine J2 Tryz.mixed (by kernel_rfl) ?_;refine Ae (ys:=[_,_]) C C C C (X9 C (AL C C C (yC (k1) C C (yS (cs':=[_,_]) C C C C C (H3 C (yQ (C4 ?_)))))))
   exact J5 _ (.agg D6 C C C C (.tmp C .nil)) C
 have t1:decide ((i:Int)<(t.length:Int))=true:=B0 (by omega)
 obtain⟨x,hx⟩:=DJ h
 have hxi:t[((i:Nat):Int).toNat]? = some x:=by rw[H1];exact hx
 have hw:=I8 ((i:Int)+1) (by omega)
 by_cases h42:x=42
 rotate_left
 . have t2:((x.toNat:Int)==42)=false:=G9 fun h=>h42 (UInt8.toNat_inj.1 (by have:(42:UInt8).toNat=42:=rfl;omega))
   have hn2:=NJ hno hx h42
   refine B2 (D7 (B6 C (B6 C (N3 C (yB C C C C (yQ (B3 ?_)))))));rw[t1];refine G2 C (B1 (B2 (B7 (D7 (B6 C (B6 C (U9 hxi (by omega) C C (yB C C C C (yQ ?_)))))))));refine B3 ?_;rw[t2]
   refine D8 C (B1 (B4 (B6 C (yB C C C C (H3 C (yQ (B3 ?_)))))))
   exact⟨i+1,⟨by omega,hn2⟩,by omega,rfl,⟨E6,E6,E6,P2 hw,D3⟩,⟨⟨_,rfl,H5 _⟩,D3⟩,D3,rfl⟩
 subst h42
 have hct:=OH hno hx
 have e1:Pt t=if Rc (t.take i)then ((t.drop (i+1),J3 (val (t.take i))),Bx (t.drop (i+1)))else ((t,[49]),false):=by rw[Pt,BL,R0,P7,hct];rfl
 rw[e1]at hr
 clear e1 hct hno
 have t2:(((42:UInt8).toNat:Int)==42)=true:=rfl
 have t3:decide ((i:Int) ≥ 0)=true:=B0 (by omega)
 have hd1:t.take ((i:Int)).toNat=t.take i:=by rw[H1]
 have hd2:t.drop (((i:Int)+1)).toNat=t.drop (i+1):=by rw[show((i:Int)+1).toNat=i+1 by omega]
 have hdl:(t.take i).length<=65536:=by rw[F4];omega
 have hnl:(t.drop (i+1)).length<=65536:=by rw[M7];omega
 obtain⟨d,hd⟩:=H8 (t.take i)
 obtain⟨nm,hnm⟩:=H8 (t.drop (i+1))
 rw[<-hd]at hd1 hdl hr
 rw[<-hnm]at hd2 hnl hr
 clear hd hnm
 have k1:=Iw nm (by omega)
 have k2:=Ax d (by omega)
 obtain⟨b,hb⟩:=H8 (Bx nm)
 obtain⟨q,hq⟩:=H8 (J3 (val d))
 rw[<-hb]at k1 hr
 rw[<-hq]at k2 hr
 clear hb hq
 have hi1:(i:Int)+1<=t.length:=by omega
 have hi0:(i:Int)<=t.length:=by omega
 obtain⟨n,hn⟩:∃ n:Int,n=(i:Int):=⟨_,rfl⟩
 rw[<-hn]at hxi hw t1 t3 hd1 hd2 hi1 hi0 ⊢
 have hn0:0<=n:=by omega
 clear hn hx h hi
 refine B2 (D7 (B6 C (B6 C (N3 C (yB C C C C (yQ (B3 ?_)))))));rw[t1];refine G2 C (B1 (B2 (B7 (D7 (B6 C (B6 C (U9 hxi hn0 C C (yB C C C C (yQ ?_)))))))));refine G2 C (D7 (B6 C (H3 C (yQ (F9 (D7 (B6 C (yG (ys:=[_,_]) C C (yZ (cs:=[_,_]) C C ?_)))))))));refine yS (cs':=[_,_]) C C C C C (yQ (B2 (D7 (B6 C (yB C C C C (yQ (B3 ?_)))))));rw[t2];rw[t3]
 refine G2 C (D7 (B6 C (B6 C (W6 hn0 hi0 hd1 C C (H3 C (yQ (B2 (D7 (H3 C ?_)))))))));refine yQ (B7 ?_);refine H9 (fun j:Nat=>⟨68,[(0,.d (dS t)),(2,.bx 2 0),(4,.d (dI n)),(6,.bx 6 0),(7,.d (dS d)),(8,.d (dI j))],[(2,[.d (dS []),.d (dS [])]),(6,[.d (dS t),.d (dS [49])])],[]⟩) (fun j=>j<=d.length∧(d.take j).all U7=true) (fun j=>d.length-j) 0 ⟨E7 _,C⟩
  ⟨rfl,⟨E6,E6,E6,E6,E6,E6,D3⟩,⟨⟨_,rfl,H5 _⟩,⟨_,rfl,H5 _⟩,D3⟩,D3,rfl⟩ ?_
 rintro j ⟨hj,hal⟩
 rcases D5 j d.length with h|h
 . have u1:decide ((j:Int)<(d.length:Int))=true:=B0 (by omega)
   obtain⟨x,hx⟩:=DJ h
   have hxj:d[((j:Nat):Int).toNat]? = some x:=by rw[H1];exact hx
   have hwj:=I8 ((j:Int)+1) (by omega)
   by_cases h1:x.toNat<48
   . have u2:decide ((x.toNat:Int)<48)=true:=B0 (by omega)
     rw[Rb hx (by simp[U7];omega)]at hr
     cases hr
     refine B2 (D7 (B6 C (B6 C (N3 C (yB C C C C (yQ (B3 ?_)))))));rw[u1];refine G2 C (B1 (B2 (B7 (D7 (B6 C (B6 C (U9 hxj (by omega) C C (yB C C C C (B6 C ?_)))))))));rw[u2];refine yO C (yO C (yO C (yO C (L0 C C (yQ (G2 C (D7 (Ae (ys:=[_,_]) C C C C (yS (cs':=[_,_]) C C C C C ?_)))))))));refine H3 C (yQ (C4 (C3 (A5 (A5 (C3 (A5 (A5 ?_))))))))
     exact J5 _ (.agg D6 C C C C (.tmp C .nil)) C
   have u2:decide ((x.toNat:Int)<48)=false:=A7 (by omega)
   by_cases h2:57<x.toNat
   . have u3:decide ((x.toNat:Int) > 57)=true:=B0 (by omega)
     rw[Rb hx (by simp[U7];omega)]at hr
     cases hr
     refine B2 (D7 (B6 C (B6 C (N3 C (yB C C C C (yQ (B3 ?_)))))));rw[u1];refine G2 C (B1 (B2 (B7 (D7 (B6 C (B6 C (U9 hxj (by omega) C C (yB C C C C (B6 C ?_)))))))));rw[u2];refine B6 C (B6 C (U9 hxj (by omega) C C (yB C C C C (K9 C C (yQ (B3 ?_))))));rw[u3];refine G2 C (D7 (Ae (ys:=[_,_]) C C C C (yS (cs':=[_,_]) C C C C C (H3 C (yQ (C4 (C3 (A5 (A5 ?_)))))))));refine C3 (A5 (A5 ?_))
     exact J5 _ (.agg D6 C C C C (.tmp C .nil)) C
   have u3:decide ((x.toNat:Int) > 57)=false:=A7 (by omega)
   have hal2:(d.take (j+1)).all U7=true:=by
    rw[H4,hx,List.all_append,hal]
    simp[U7];omega
   refine B2 (D7 (B6 C (B6 C (N3 C (yB C C C C (yQ (B3 ?_)))))));rw[u1];refine G2 C (B1 (B2 (B7 (D7 (B6 C (B6 C (U9 hxj (by omega) C C (yB C C C C (B6 C ?_)))))))));rw[u2];refine B6 C (B6 C (U9 hxj (by omega) C C (yB C C C C (K9 C C (yQ (B3 ?_))))));rw[u3];refine D8 C (B1 (B4 (B6 C (yB C C C C (H3 C (yQ (B3 ?_)))))))
   exact⟨j+1,⟨by omega,hal2⟩,by omega,rfl,⟨E6,E6,E6,E6,E6,P2 hwj,D3⟩,⟨⟨_,rfl,H5 _⟩,⟨_,rfl,H5 _⟩,D3⟩,D3,rfl⟩
 have u1:decide ((j:Int)<(d.length:Int))=false:=A7 (by omega)
 obtain rfl:j=d.length:=by omega
 rw[I2]at hal
 cases hdc:d with
 | nil=>
  subst hdc
  rw[show Rc []=false from rfl]at hr
  cases hr
  refine B2 (D7 (B6 C (B6 C (N3 C (yB C C C C (yQ (D8 C (F9 (B2 ?_)))))))));refine D7 (B6 C (N6 C C (B6 C (yO C (yO C (yO C (yO C (yO C (yO C ?_)))))))));refine yO C (L0 C C (yQ (G2 C (D7 (Ae (ys:=[_,_]) C C C C (yS (cs':=[_,_]) C C C C C (H3 C (yQ (C4 ?_)))))))));refine A5 (A5 ?_);rw[u1]
  exact J5 _ (.agg D6 C C C C (.tmp C .nil)) C
 | cons x l=>
 have hx:d[(0:Int).toNat]? = some x:=by rw[hdc];rfl
 have u0:(d==[])=false:=by rw[hdc];rfl
 rw[<-hdc]
 have hok:Rc d = !(decide (x=48) && !(d==[48])):=by rw[Rc,hal,u0,hdc];simp
 rw[hok]at hr
 clear hok hdc hal hj h
 by_cases h1:x=48
 . have u4:((x.toNat:Int)==48)=true:=by rw[h1];rfl
   cases u5:(d==[48]) with
   | false=>
    rw[u5,B0 h1]at hr
    cases hr
    have u6:(d != [48])=true:=by simp[bne,u5]
    refine B2 (D7 (B6 C (B6 C (N3 C (yB C C C C (yQ (B3 ?_)))))));rw[u1];refine D8 C (F9 (B2 (D7 (B6 C (N6 C C (B6 C ?_))))));rw[u0];refine B6 C (U9 hx (by omega) C C (yB C C C C (B6 C ?_)))
    rw[u4];refine B6 C ?_;refine L8 C C ?_;refine L0 C C ?_;refine K9 C C ?_;refine yQ ?_;refine B3 ?_;rw[u5];refine G2 C ?_;refine B2 ?_;refine B4 ?_
    refine Ae (ys:=[_,_]) C C C C (yS (cs':=[_,_]) C C C C C (H3 C (yQ (C4 (A5 (A5 ?_))))))
    exact J5 _ (.agg D6 C C C C (.tmp C .nil)) C
   | true=>
    rw[u5,B0 h1]at hr
    cases hr
    refine B2 (D7 (B6 C (B6 C (N3 C (yB C C C C (yQ (B3 ?_)))))));rw[u1];refine D8 C (F9 (B2 (D7 (B6 C (N6 C C (B6 C ?_))))));rw[u0];refine B6 C (U9 hx (by omega) C C (yB C C C C (B6 C ?_)))
    rw[u4];refine B6 C ?_;refine L8 C C ?_;refine L0 C C ?_;refine K9 C C ?_;refine yQ ?_;refine B3 ?_;rw[u5];refine D8 C ?_;refine B1 ?_;refine J2 Tryz.mixed (by kernel_rfl) ?_
    refine B6 C (yC (k2) C C (B6 C (B6 C (yB C C C C ?_))));rw[hw];refine V3 (by omega) hi1 hd2 C C (X9 C (X8 (cs':=[_,_]) C C C C (X9 C (X8 (cs':=[_,_]) C C C C (yQ (B2 ?_))))));refine J2 Tryz.mixed (by kernel_rfl) ?_;refine Ae (ys:=[_,_]) C C C C (X9 C (AL C C C (yC (k1) C C (yS (cs':=[_,_]) C C C C C (H3 C (yQ (C4 ?_)))))))
    exact J5 _ (.agg D6 C C C C (.tmp C .nil)) C
 . have u4:((x.toNat:Int)==48)=false:=G9 fun h=>h1 (UInt8.toNat_inj.1 (by have:(48:UInt8).toNat=48:=rfl;omega))
   rw[A7 h1]at hr
   cases hr
   refine B2 (D7 (B6 C (B6 C (N3 C (yB C C C C (yQ (B3 ?_)))))));rw[u1];refine D8 C (F9 (B2 (D7 (B6 C (N6 C C (B6 C ?_))))));rw[u0];refine B6 C (U9 hx (by omega) C C (yB C C C C (B6 C ?_)))
   rw[u4];refine yO C ?_;refine yO C ?_;refine K9 C C ?_;refine K9 C C ?_;refine yQ ?_;refine D8 C ?_;refine B1 ?_;refine J2 Tryz.mixed (by kernel_rfl) ?_;refine B6 C ?_
   refine yC (k2) C C (B6 C (B6 C (yB C C C C ?_)));rw[hw];refine V3 (by omega) hi1 hd2 C C (X9 C (X8 (cs':=[_,_]) C C C C (X9 C (X8 (cs':=[_,_]) C C C C (yQ (B2 ?_))))));refine J2 Tryz.mixed (by kernel_rfl) ?_;refine Ae (ys:=[_,_]) C C C C (X9 C (AL C C C (yC (k1) C C (yS (cs':=[_,_]) C C C C C (H3 C (yQ (C4 ?_)))))))
   exact J5 _ (.agg D6 C C C C (.tmp C .nil)) C
theorem NY {d:F6}:Rc d=true↔Gu d=d∧d.head? ≠ some 45:=by
 constructor
 . intro h
   unfold Rc at h
   simp only[D1]at h
   obtain⟨h1,h2,h3⟩:=h
   cases d with
   | nil=>simp at h2
   | cons x l=>
   have hx:U7 x=true:=by rw[List.all_cons,D1]at h1;exact h1.1
   have hx45:(x::l).head? ≠ some 45:=fun e=>by
    have e:x=45:=by simpa using e
    rw[e]at hx
    cases hx
   refine⟨?_,hx45⟩
   by_cases h48:x::l=[48]
   . rw[h48];kernel_rfl
   have hx48:x≠48:=fun e=>by
    rw[e]at h3 h48
    rw[show((48::l:F6)==[48])=false by simpa using h48]at h3
    simp at h3
   have hb:BM (x::l)=x::l:=by rw[BM,B5 hx45]
   have hg:L9 (x::l)=(x::l,false):=by
    unfold L9
    rw[hb,B9 h1,List.dropWhile_cons,B5 (by simpa using hx48),A7 hx45]
    rfl
   have hc:J3 (val (x::l))=x::l:=by rw[Bi,hg];rfl
   unfold Gu
   rw[hc,B5 (by simp)]
 . rintro⟨h1,h2⟩
   unfold Gu at h1
   split at h1
   . rw[<-h1];rfl
   . rename_i hne
     rw[Bi]at h1
     split at h1
     . rw[<-h1]at h2;simp at h2
     . have ha:=U8 d
       have hh:=Bg d
       rw[h1]at ha hh
       have hne2:d≠[]:=fun e=>hne (by rw[e];kernel_rfl)
       unfold Rc
       rw[ha,A7 hh]
       simpa using hne2
theorem NO (t:F6):Qh t=if (Pt t).2 then some (Pt t).1 else none:=by
 unfold Qh Pt
 cases BL 42 t with
 | true=>
  rw[B9 rfl,B9 rfl]
  unfold Qg
  by_cases h:Rc (R0 42 t)=true
  . obtain⟨h1,h2⟩:=NY.1 h
    rw[B9 h]
    simp only
    by_cases h3:Bx (P7 42 t)=true
    . rw[B9 ⟨h1,h2,h3⟩,B9 h3]
    . rw[B5 (fun h=>h3 h.2.2),B5 h3]
  . rw[B5 h,B5 (fun h4=>h (NY.2 ⟨h4.1,h4.2.1⟩))]
    rfl
 | false=>
  show Qg [49] t=if Bx t=true then some (t,[49])else none
  have e1:Gu [49]=[49]:=by kernel_rfl
  have e2:J3 (val [49])=[49]:=by kernel_rfl
  unfold Qg
  by_cases h3:Bx t=true
  . rw[B9 ⟨e1,by simp,h3⟩,B9 h3,e2]
  . rw[B5 (fun h=>h3 h.2.2),B5 h3]
theorem tmP_isC {t:F6} {c:Cf} (h:Qh t=some c):Cu c.2=true:=by
 have hR:∀ d nm,Qg d nm=some c->Cu c.2=true:=fun d nm h=>by
  unfold Qg at h
  split at h
  . cases h;exact Ct _
  . cases h
 unfold Qh at h
 split at h
 . exact hR _ _ h
 . exact hR _ _ h
theorem Fy {p:Bool×F6} {c:Cf} (h:AW p=some c):Cu c.2=true:=by
 unfold AW at h
 rw[C7]at h
 obtain⟨d,h1,h2⟩:=h
 split at h2
 . rw[<-h2];exact Ct _
 . rw[<-h2];exact tmP_isC h1
def Dj (l:List (Bool×F6)) (zs:List Cf):Int×List Cf:=if l.all (fun p=>(AW p).isSome)then (if 16<(zs++l.filterMap AW).length then (4,[])else (0,nf (zs++l.filterMap AW)))else (3,[])
theorem GO {p:Bool×F6} {l:List (Bool×F6)} {zs:List Cf} (h:AW p=none):Dj (p::l) zs=(3,[]):=by
 unfold Dj
 rw[B5 (by rw[List.all_cons,h];simp)]
theorem Hd {p:Bool×F6} {l:List (Bool×F6)} {zs:List Cf} {c:Cf} (h:AW p=some c):Dj (p::l) zs=Dj l (zs++[c]):=by
 unfold Dj
 rw[List.all_cons,h,List.filterMap_cons,h,show(some c).isSome=true from rfl,Bool.true_and]
 simp
theorem SZ (s:F6) (h0:s≠[48]):Dj (S3 s) []=(Ki s,Hq s):=by
 rw[Ki,Hq,B5 h0,B5 h0]
 show(if Lc s=true then (if 16<([]++GE s).length then ((4:Int),([]:List Cf))else (0,nf ([]++GE s)))else (3,[]))=_
 rw[List.nil_append]
 by_cases h:Lc s=true
 . rw[B9 h,B9 h,B9 h]
   by_cases h2:16<(GE s).length
   . rw[B9 h2,B9 h2,B9 h2]
   . rw[B5 h2,B5 h2,B5 h2]
 . rw[B5 h,B5 h,B5 h]
theorem Ob:AW (false,[])=none:=by kernel_rfl
theorem Mc (zs:List Cf):Dj [(false,[])] zs=(3,[]):=GO Ob
theorem MB (b:Bool):Dx b []=[(b,[])]:=by rw[Bu];rfl
theorem Lp (b:Bool):AW (b,[])=none:=by cases b<;>kernel_rfl
theorem Ny {r:F6} (h:BL 32 r=false) {zs:List Cf} {c:Cf} (hc:AW (neg,R0 32 r)=some c):Dj (Dx neg r) zs=Dj [] (zs++[c]):=by
 rw[Bu,h,Hd hc]
 rfl
theorem Sj {X:F6} (h:a≠32):R0 32 (a::32::X)=[a]∧P7 32 (a::32::X)=X:=by
 have:T6 32 (a::32::X)=some ([a],X):=by rw[T6,B5 h,T6,B9 rfl];rfl
 rw[R0,P7,this]
 exact⟨rfl,C⟩
theorem LC {r:F6} {X:F6} (h:BL 32 r=true) (hR:P7 32 r=a::32::X) (ha:a=43∨a=45) {zs:List Cf} {c:Cf} (hc:AW (neg,R0 32 r)=some c):Dj (Dx neg r) zs=Dj (Dx (a==45) X) (zs++[c]):=by
 have h32:a≠32:=by rcases ha with rfl|rfl<;>decide
 obtain⟨e1,e2⟩:=Sj (X:=X) h32
 rw[Bu,h,Hd hc,B9 rfl,hR,e1,e2,B9 (by rcases ha with rfl|rfl<;>simp)]
 rcases ha with rfl|rfl<;>rfl
theorem DA {r:F6} (h:BL 32 r=true) (hR:∀ a X,P7 32 r=a::32::X->¬ (a=43∨a=45)) {zs:List Cf} {c:Cf} (hc:AW (neg,R0 32 r)=some c):Dj (Dx neg r) zs=(3,[]):=by
 rw[Bu,h,Hd hc,B9 rfl]
 by_cases h2:R0 32 (P7 32 r)=[43]∨R0 32 (P7 32 r)=[45]
 . rw[B9 h2]
   cases hb:T6 32 (P7 32 r) with
   | some p=>
    have h3:=AU hb
    rw[R0,hb]at h2
    simp only at h2
    rcases h2 with h2|h2
    . rw[h2]at h3;exact G5 (.inl C) (hR 43 p.2 h3)
    . rw[h2]at h3;exact G5 (.inr C) (hR 45 p.2 h3)
   | none=>
    have e:P7 32 (P7 32 r)=[]:=by rw[P7,hb]
    rw[e,MB]
    exact GO (Lp _)
 . rw[B5 h2]
   exact Mc _
end Go.Proofs.YtddfimjiihggmaaGreatDoor