/- Plain: a string cut at a byte as the reference does it: part by part. -/
import Derived.Test.YtddfimjiihggmaaGreatDoorB11
set_option maxHeartbeats 16000000
set_option maxRecDepth 20000
namespace Go.Proofs.YtddfimjiihggmaaGreatDoor
variable {c b:UInt8} {f:Nat}
structure CutI (c:UInt8) (s:F6) (i f:Nat) (zs:List F6):Prop where
 fi:f<=i
 il:i<=s.length
 no:c ∉ (s.drop f).take (i-f)
 eq:zs++R7 c (s.drop f)=R7 c s
 zl:zs.length<=i
theorem CutI.start (c:UInt8) (s:F6):CutI c s 0 0 []:=⟨E0 _,E7 _,by simp,by simp,E0 _⟩
theorem CutI.split {s:F6} {i:Nat} (hf:f<=i) (hb:s[i]? = some b):s.drop f=(s.drop f).take (i-f)++b::s.drop (i+1):=by
 obtain⟨h1,h2⟩:=A6.1 hb
 conv=>lhs;rw[<-List.take_append_drop (i-f) (s.drop f)]
 rw[List.drop_drop,show f+(i-f)=i by omega,I5 h1,h2]
theorem CutI.hit {s:F6} {i:Nat} {zs:List F6} (h:CutI c s i f zs) (hb:s[i]? = some c):CutI c s (i+1) (i+1) (zs++[(s.drop f).take (i-f)]):=by
 have hl:=(A6.1 hb).1
 refine⟨E0 _,hl,by simp,?_,by have:=h.zl;simp;omega⟩
 rw[<-h.eq]
 conv=>rhs;rw[CutI.split h.fi hb]
 rw[spl_app h.no,G8]
 rfl
theorem CutI.miss {s:F6} {i:Nat} {zs:List F6} (h:CutI c s i f zs) (hb:s[i]? = some b) (hn:b≠c):CutI c s (i+1) f zs:=by
 have hl:=(A6.1 hb).1
 have hf:=h.fi
 refine⟨by omega,hl,fun hc=>?_,h.eq,by have:=h.zl;omega⟩
 rw[show i+1-f=(i-f)+1 by omega,H4,List.getElem?_drop,show f+(i-f)=i by omega,hb]at hc
 rcases List.mem_append.1 hc with hc|hc
 . exact h.no hc
 . simp at hc;exact hn hc.symm
theorem CutI.done {s:F6} {zs:List F6} (h:CutI c s s.length f zs):zs++[s.drop f]=R7 c s:=by
 have hn:=h.no
 rw[E3 (by simp)]at hn
 rw[<-h.eq,NN hn]
theorem CutI.part {s:F6} {i:Nat}:((s.drop f).take (i-f)).length<=s.length:=by simp;omega
open Go.RowKit Px
variable {α:Type} {i:Nat}
abbrev sgT:Nat:=9*100000+3
abbrev ctTk:Nat:=9*100000+4
theorem wSegs (s:F6) (hs:s.length<=1100000):PCalls Tryz.prog 157 [dS s] (.d (BF (R7 46 s))):=by
 obtain⟨R,hR⟩:=H8 (R7 46 s)
 rw[<-hR]
 refine L5 Tryz.func157 C Tryz.ntmps157 Tryz.results157 fun B w0=>?_
 refine D7 (H3 C (yQ (D7 (yEb C (EZ C (H3 C (yQ ?_)))))));refine Lt 3 6 sgT (n:=0) (es:=[]) (ds:=[]) C C C C C C C C ?_;refine B2 (D7 (H3 C (yQ (B7 ?_))));refine H9 (fun p:Nat×Nat×List F6=>⟨32,[(0,.d (dS s)),(3,.ts sgT 1 (p.2.2.map dC)),(4,.d (dI p.2.1)),(5,.d (dI p.1))],[],[(sgT,(p.2.2.map dC).length)]⟩) (fun p=>CutI 46 s p.1 p.2.1 p.2.2) (fun p=>s.length-p.1) (0,0,[]) (CutI.start _ _)
  ⟨rfl,⟨E6,E6,E6,E6,D3⟩,D3,⟨rfl,D3⟩,rfl⟩ ?_
 rintro⟨i,f,zs⟩ hI
 simp only at hI ⊢
 have hfi:=hI.fi
 have hil:=hI.il
 have hzl:=hI.zl
 have hfn:((f:Nat):Int).toNat=f:=H1 f
 have hin:((i:Nat):Int).toNat=i:=H1 i
 rcases D5 i s.length with h|h
 rotate_left
 . have u1:decide ((i:Int)<(s.length:Int))=false:=A7 (by omega)
   obtain rfl:i=s.length:=by omega
   have hd:=hI.done
   have hD:s.drop ((f:Int)).toNat=s.drop f:=by rw[hfn]
   have hf1:(f:Int)<=(s.length:Int):=by omega
   obtain⟨d,hdd⟩:=H8 (s.drop f)
   rw[<-hdd]at hd hD
   rw[hR,<-hd]
   clear hR hd hdd hI hin hfn h
   refine B2 (D7 (B6 C (B6 C (N3 C (yB C C C C (yQ (B3 ?_)))))));rw[u1];refine D8 C (F9 (D7 (CM C (B6 C (B6 C (V3 (by omega) hf1 hD C C ?_))))));refine yR (es:=[[_]]) C C C C C ?_;refine yT (es':=(zs++[d]).map dC) (m:=((zs++[d]).map dC).length) (by simp;omega) (by simp;omega) C C C C C (by simp) (by simp) ?_;refine DX C (yQ (C4 ?_))
   exact M5 C C
 have u1:decide ((i:Int)<(s.length:Int))=true:=B0 (by omega)
 obtain⟨x,hx⟩:=DJ h
 have hxi:s[((i:Nat):Int).toNat]? = some x:=by rw[hin];exact hx
 have hw:=I8 ((i:Int)+1) (by omega)
 have arith:s.length-(i+1)<s.length-i:=by omega
 by_cases hxc:x=46
 . have t2:((x.toNat:Int)==46)=true:=by rw[hxc];rfl
   have hn:CutI 46 s (i+1) (i+1) (zs++[(s.drop f).take (i-f)]):=hI.hit (by rw[hx,hxc])
   have hP:(s.take ((i:Int)).toNat).drop ((f:Int)).toNat=(s.drop f).take (i-f):=by rw[hfn,hin,List.drop_take]
   obtain⟨p,hp⟩:=H8 ((s.drop f).take (i-f))
   rw[<-hp]at hn hP
   have h1:(f:Int)<=(i:Int):=by omega
   have h2:(i:Int)<=(s.length:Int):=by omega
   clear hp hI hx hin hfn hR
   refine B2 (D7 (B6 C (B6 C (N3 C (yB C C C C (yQ (B3 ?_)))))));rw[u1];refine G2 C (B1 (B2 (B7 (D7 (B6 C (B6 C (U9 hxi (by omega) C C (yB C C C C (yQ ?_)))))))));refine B3 ?_;rw[t2]
   refine G2 C (B4 (CM C (B6 C (B6 C (B6 C (ySlh (by omega) h1 h2 hP C C C ?_))))));refine yR (es:=[[_]]) C C C C C ?_;refine yT (es':=(zs++[p]).map dC) (m:=((zs++[p]).map dC).length) (by simp;omega) (by simp;omega) C C C C C (by simp) (by simp) ?_;refine B6 C (yB C C C C (DX C (H3 C (yQ (B4 (B6 C (yB C C C C (H3 C (yQ ?_)))))))));refine B3 ?_
   exact⟨(i+1,i+1,zs++[p]),hn,arith,C,⟨E6,E6,P2 hw,P2 hw,D3⟩,D3,⟨rfl,D3⟩,C⟩
 . have t2:((x.toNat:Int)==46)=false:=G9 fun h=>hxc (UInt8.toNat_inj.1 (by have:(46:UInt8).toNat=46:=rfl;omega))
   have hn:CutI 46 s (i+1) f zs:=hI.miss hx hxc
   clear hI hx hin hfn hR
   refine B2 (D7 (B6 C (B6 C (N3 C (yB C C C C (yQ (B3 ?_)))))));rw[u1];refine G2 C (B1 (B2 (B7 (D7 (B6 C (B6 C (U9 hxi (by omega) C C (yB C C C C (yQ ?_)))))))));refine B3 ?_;rw[t2]
   refine D8 C (B1 (B4 (B6 C (yB C C C C (H3 C (yQ (B3 ?_)))))))
   exact⟨(i+1,f,zs),hn,arith,C,⟨E6,E6,E6,P2 hw,D3⟩,D3,⟨rfl,D3⟩,C⟩
theorem QN (s:F6) (c:UInt8) (hs:s.length<=1100000):PCalls Tryz.prog 85 [dS s,.val (.int .u8 c.toNat)] (.d (BF (R7 c s))):=by
 obtain⟨R,hR⟩:=H8 (R7 c s)
 rw[<-hR]
 refine L5 Tryz.func85 C Tryz.ntmps85 Tryz.results85 fun B w0=>?_
 refine D7 (H3 C (yQ (D7 (yEb C (EZ C (H3 C (yQ ?_)))))));refine Lt 5 8 ctTk (n:=0) (es:=[]) (ds:=[]) C C C C C C C C ?_;refine B2 (D7 (H3 C (yQ (B7 ?_))));refine H9 (fun p:Nat×Nat×List F6=>⟨35,[(0,.d (dS s)),(1,.d (.val (.int .u8 c.toNat))),(5,.ts ctTk 1 (p.2.2.map dC)),(6,.d (dI p.2.1)),(7,.d (dI p.1))],[],[(ctTk,(p.2.2.map dC).length)]⟩) (fun p=>CutI c s p.1 p.2.1 p.2.2) (fun p=>s.length-p.1) (0,0,[]) (CutI.start _ _)
  ⟨rfl,⟨E6,E6,E6,E6,E6,D3⟩,D3,⟨rfl,D3⟩,rfl⟩ ?_
 rintro⟨i,f,zs⟩ hI
 simp only at hI ⊢
 have hfi:=hI.fi
 have hil:=hI.il
 have hzl:=hI.zl
 have hfn:((f:Nat):Int).toNat=f:=H1 f
 have hin:((i:Nat):Int).toNat=i:=H1 i
 rcases D5 i s.length with h|h
 rotate_left
 . have u1:decide ((i:Int)<(s.length:Int))=false:=A7 (by omega)
   obtain rfl:i=s.length:=by omega
   have hd:=hI.done
   have hD:s.drop ((f:Int)).toNat=s.drop f:=by rw[hfn]
   have hf1:(f:Int)<=(s.length:Int):=by omega
   obtain⟨d,hdd⟩:=H8 (s.drop f)
   rw[<-hdd]at hd hD
   rw[hR,<-hd]
   clear hR hd hdd hI hin hfn h
   refine B2 (D7 (B6 C (B6 C (N3 C (yB C C C C (yQ (B3 ?_)))))));rw[u1];refine D8 C (F9 (D7 (CM C (B6 C (B6 C (V3 (by omega) hf1 hD C C ?_))))));refine yR (es:=[[_]]) C C C C C ?_;refine yT (es':=(zs++[d]).map dC) (m:=((zs++[d]).map dC).length) (by simp;omega) (by simp;omega) C C C C C (by simp) (by simp) ?_;refine DX C (yQ (C4 ?_))
   exact M5 C C
 have u1:decide ((i:Int)<(s.length:Int))=true:=B0 (by omega)
 obtain⟨x,hx⟩:=DJ h
 have hxi:s[((i:Nat):Int).toNat]? = some x:=by rw[hin];exact hx
 have hw:=I8 ((i:Int)+1) (by omega)
 have arith:s.length-(i+1)<s.length-i:=by omega
 by_cases hxc:x=c
 . have t2:((x.toNat:Int)==(c.toNat:Int))=true:=by rw[hxc];exact beq_self_eq_true _
   have hn:CutI c s (i+1) (i+1) (zs++[(s.drop f).take (i-f)]):=hI.hit (by rw[hx,hxc])
   have hP:(s.take ((i:Int)).toNat).drop ((f:Int)).toNat=(s.drop f).take (i-f):=by rw[hfn,hin,List.drop_take]
   obtain⟨p,hp⟩:=H8 ((s.drop f).take (i-f))
   rw[<-hp]at hn hP
   have h1:(f:Int)<=(i:Int):=by omega
   have h2:(i:Int)<=(s.length:Int):=by omega
   clear hp hI hx hin hfn hR
   refine B2 (D7 (B6 C (B6 C (N3 C (yB C C C C (yQ (B3 ?_)))))));rw[u1];refine G2 C (B1 (B2 (B7 (D7 (B6 C (B6 C (U9 hxi (by omega) C C (B6 C (yB C C C C ?_)))))))));refine yQ (B3 ?_)
   rw[t2];refine G2 C ?_;refine B2 ?_;refine B4 ?_;refine CM C ?_;refine B6 C ?_;refine B6 C ?_;refine B6 C ?_;refine ySlh (by omega) h1 h2 hP C C C ?_
   refine yR (es:=[[_]]) C C C C C ?_;refine yT (es':=(zs++[p]).map dC) (m:=((zs++[p]).map dC).length) (by simp;omega) (by simp;omega) C C C C C (by simp) (by simp) ?_;refine DX C (yQ (B4 (B6 C (yB C C C C (H3 C (yQ (B4 (B6 C (yB C C C C ?_)))))))));refine H3 C (yQ (B3 ?_))
   exact⟨(i+1,i+1,zs++[p]),hn,arith,C,⟨E6,E6,E6,P2 hw,P2 hw,D3⟩,D3,⟨rfl,D3⟩,C⟩
 . have t2:((x.toNat:Int)==(c.toNat:Int))=false:=G9 fun h=>hxc (UInt8.toNat_inj.1 (by omega))
   have hn:CutI c s (i+1) f zs:=hI.miss hx hxc
   clear hI hx hin hfn hR
   refine B2 (D7 (B6 C (B6 C (N3 C (yB C C C C (yQ (B3 ?_)))))));rw[u1];refine G2 C (B1 (B2 (B7 (D7 (B6 C (B6 C (U9 hxi (by omega) C C (B6 C (yB C C C C ?_)))))))));refine yQ (B3 ?_)
   rw[t2];refine D8 C ?_;refine B1 ?_;refine B4 ?_;refine B6 C ?_;refine yB C C C C ?_;refine H3 C ?_;refine yQ ?_;refine B3 ?_
   exact⟨(i+1,f,zs),hn,arith,C,⟨E6,E6,E6,E6,P2 hw,D3⟩,D3,⟨rfl,D3⟩,C⟩
theorem Qk {p:α->Bool} {l:List α} {x:α} (h:l[i]? = some x) (h0:(l.take i).all p=true) (hx:p x=true):(l.take (i+1)).all p=true:=by
 rw[H4,h,List.all_append,h0]
 simp[hx]
theorem all_no {p:α->Bool} {l:List α} {x:α} (h:l[i]? = some x) (hx:p x=false):l.all p=false:=by
 rw[List.all_eq_false]
 exact⟨x,B8 h,by simp[hx]⟩
theorem wRTmp (s:F6) (hs:s.length<=1100000):PCalls Tryz.prog 112 [dS s] (.d (dB (M0 I4 s))):=by
 have k1:=wSegs s hs
 have hsl:=Co 46 s
 have hll:=Ah 46 s
 obtain⟨R,hR⟩:=H8 (M0 I4 s)
 rw[<-hR]
 unfold M0 Hc at hR
 obtain⟨S,hS⟩:=H8 (R7 46 s)
 rw[<-hS]at k1 hsl hll hR
 clear hS
 refine L5 Tryz.func112 C Tryz.ntmps112 Tryz.results112 fun B w0=>?_
 refine D7 (H3 C (yQ (D7 (B6 C (yC (k1) C C (H3 C (yQ (B2 (D7 ?_)))))))));refine H3 C (yQ (B7 ?_));refine H9 (fun i:Nat=>⟨36,[(3,.d (BF S)),(4,.d (dI i))],[],[]⟩) (fun i=>i<=S.length∧(S.take i).all (fun x=>JG x||I4 x)=true) (fun i=>S.length-i) 0 ⟨E7 _,C⟩
  ⟨rfl,⟨E6,E6,D3⟩,D3,D3,rfl⟩ ?_
 rintro i ⟨hi,hI⟩
 rcases D5 i S.length with h|h
 rotate_left
 . have u1:decide ((i:Int)<((S.map fun s=>[dS s]).length:Int))=false:=A7 (by rw[A8];omega)
   rw[E3 h]at hI
   rw[hI,Bool.and_true]at hR
   have u2:decide (((S.map fun s=>[dS s]).length:Int)<=6)=R:=by rw[hR,A8];exact decide_eq_decide.2 (by omega)
   refine B2 (D7 (B6 C (B6 C (yN C (yB C C C C (yQ (B3 ?_)))))));rw[u1];refine D8 C (F9 (D7 (B6 C (yN C (yB C C C C (H3 C (yQ (C4 ?_))))))))
   exact J5 _ (.tmp C .nil) (G4 (fun b=>SV.d (dB b)) u2.symm)
 have u1:decide ((i:Int)<((S.map fun s=>[dS s]).length:Int))=true:=B0 (by rw[A8];omega)
 obtain⟨x,hx⟩:=DJ h
 have ex:=ix (fun s=>[dS s]) S i i x rfl hx
 have hw:=I8 ((i:Int)+1) (by omega)
 have hxl:=hsl _ (B8 hx)
 have k2:=QL x (by omega)
 have arith:S.length-(i+1)<S.length-i:=by omega
 have hnx:=Qk hx hI
 have hno:=all_no (p:=fun x=>JG x||I4 x) hx
 clear hI hx hsl hll
 obtain⟨nb,hnb⟩:=H8 (I4 x)
 simp only[JG]at hnx hno hR
 rw[<-hnb]at k2 hnx hno
 by_cases h1:x=[42]
 . have t1:(!(x==[42]))=false:=by simp[h1]
   refine B2 (D7 (B6 C (B6 C (yN C (yB C C C C (yQ (B3 ?_)))))));rw[u1];refine G2 C (B1 (B2 (B7 (D7 (B6 C (B6 C (yW ex (by omega) C C (K5 C C (L8 C C ?_)))))))));refine B6 C ?_;rw[t1]
   refine yO C (yO C (yO C (yO C (yO C (K9 C C (B6 C (yO C (yO C (yO C ?_)))))))));refine yO C (yO C (yO C (K9 C C (yQ (D8 C (B1 (B4 (B6 C (yB C C C C ?_)))))))));refine H3 C (yQ (B3 ?_))
   exact⟨i+1,⟨h,hnx (by simp[h1])⟩,arith,rfl,⟨E6,P2 hw,D3⟩,D3,D3,rfl⟩
 have t1:(!(x==[42]))=true:=by simp[h1]
 by_cases h2:x=[43]
 . have t2:(!(x==[43]))=false:=by simp[h2]
   refine B2 (D7 (B6 C (B6 C (yN C (yB C C C C (yQ (B3 ?_)))))));rw[u1];refine G2 C (B1 (B2 (B7 (D7 (B6 C (B6 C (yW ex (by omega) C C (K5 C C (L8 C C ?_)))))))));refine B6 C ?_;rw[t1]
   refine B6 C (B6 C (yW ex (by omega) C C (K5 C C (L8 C C (L0 C C (B6 C ?_))))));rw[t2];refine yO C (yO C (yO C (yO C (yO C (yO C (K9 C C (yQ (D8 C (B1 ?_)))))))));refine B4 (B6 C (yB C C C C (H3 C (yQ (B3 ?_)))))
   exact⟨i+1,⟨h,hnx (by simp[h2])⟩,arith,rfl,⟨E6,P2 hw,D3⟩,D3,D3,rfl⟩
 have t2:(!(x==[43]))=true:=by simp[h2]
 cases nb with
 | true=>
  refine B2 (D7 (B6 C (B6 C (yN C (yB C C C C (yQ (B3 ?_)))))));rw[u1];refine G2 C (B1 (B2 (B7 (D7 (B6 C (B6 C (yW ex (by omega) C C (K5 C C (L8 C C ?_)))))))));refine B6 C ?_;rw[t1]
  refine B6 C (B6 C (yW ex (by omega) C C (K5 C C (L8 C C (L0 C C (B6 C ?_))))));rw[t2];refine B6 C (B6 C (yW ex (by omega) C C (K5 C C (yC (k2) C C (yU C C C (L0 C C (yQ (D8 C (B1 ?_)))))))));refine B4 (B6 C (yB C C C C (H3 C (yQ (B3 ?_)))))
  exact⟨i+1,⟨h,hnx (by simp)⟩,arith,C,⟨E6,P2 hw,D3⟩,D3,D3,C⟩
 | false=>
  rw[hno (by simp[h1,h2]),Bool.and_false]at hR
  subst hR
  refine B2 (D7 (B6 C (B6 C (yN C (yB C C C C (yQ (B3 ?_)))))));rw[u1];refine G2 C (B1 (B2 (B7 (D7 (B6 C (B6 C (yW ex (by omega) C C (K5 C C (L8 C C ?_)))))))));refine B6 C ?_;rw[t1]
  refine B6 C (B6 C (yW ex (by omega) C C (K5 C C (L8 C C (L0 C C (B6 C ?_))))));rw[t2];refine B6 C (B6 C (yW ex (by omega) C C (K5 C C (yC (k2) C C (yU C C C (L0 C C (yQ (G2 C (D7 ?_)))))))));refine H3 C (yQ (C4 (C3 (A5 (A5 (C3 (A5 ?_)))))))
  exact M5 C C
theorem QM (r:Ru) (hb:OK r):PCalls Tryz.prog 61 [.agg (X6 r)] (.d (dI (Y8 r))):=by
 obtain⟨n,ls⟩:=r
 obtain⟨hb1,hb2⟩:=hb
 simp only at hb1 hb2
 have k0:=Iv n
 have kn:=kwT_nil n
 obtain⟨E,hE⟩:=H8 (Y8 (n,ls))
 rw[<-hE]
 rw[Y8,rE]at hE
 obtain⟨kw,hkw⟩:=H8 (HQ n)
 rw[<-hkw]at k0 kn
 clear hkw
 cases h:Z0 n with
 | none=>
  rw[h]at kn
  have t0:(kw==[])=true:=kn
  simp only[h]at hE
  subst hE
  refine L5 Tryz.func61 C Tryz.ntmps61 Tryz.results61 fun B w0=>?_
  refine D7 (yK (cs:=[_,_]) C C (H3 C (yQ (B2 (D7 (X9 C (AL C C C (yC (k0) C C (N6 C C ?_)))))))));refine yQ (B3 ?_);rw[t0];refine G2 C (D7 (H3 C (yQ (C4 (A5 ?_)))))
  exact M5 C C
 | some k=>
 rw[h]at kn
 have t0:(kw==[])=false:=kn
 simp only[h]at hE
 clear h kn
 by_cases h1:64<ls.length
 . have t1:decide (((ls.map W9).length:Int) > 64)=true:=B0 (by rw[A8];omega)
   rw[B9 h1]at hE
   subst hE
   refine L5 Tryz.func61 C Tryz.ntmps61 Tryz.results61 fun B w0=>?_
   refine D7 (yK (cs:=[_,_]) C C (H3 C (yQ (B2 (D7 (X9 C (AL C C C (yC (k0) C C (N6 C C ?_)))))))));refine yQ (B3 ?_);rw[t0];refine D8 C (B1 (B2 (D7 (X9 C (AL C C C (yN C (yB C C C C (yQ (B3 ?_)))))))));rw[t1];refine G2 C (D7 (H3 C (yQ (C4 (A5 ?_)))))
   exact M5 C C
 have t1:decide (((ls.map W9).length:Int) > 64)=false:=A7 (by rw[A8];omega)
 rw[B5 h1]at hE
 refine L5 Tryz.func61 C Tryz.ntmps61 Tryz.results61 fun B w0=>?_
 refine D7 (yK (cs:=[_,_]) C C (H3 C (yQ (B2 (D7 (X9 C (AL C C C (yC (k0) C C (N6 C C ?_)))))))));refine yQ (B3 ?_);rw[t0];refine D8 C (B1 (B2 (D7 (X9 C (AL C C C (yN C (yB C C C C (yQ (B3 ?_)))))))));rw[t1];refine D8 C (B1 (B2 (D7 (H3 C (yQ (B7 ?_))))));refine H9 (fun i:Nat=>⟨38,[(1,.bx 1 0),(3,.d (dI i))],[(1,[.d (dI n),.d (.sl 3 (ls.map W9))])],[]⟩) (fun i=>i<=ls.length∧Hy (M0 I4) X0 (ls.drop i)=E) (fun i=>ls.length-i) 0 ⟨E7 _,hE.symm⟩
  ⟨rfl,⟨E6,E6,D3⟩,⟨⟨_,rfl,H5 _⟩,D3⟩,D3,rfl⟩ ?_
 rintro i ⟨hi,hI⟩
 rcases D5 i ls.length with h|h
 rotate_left
 . have u1:decide ((i:Int)<((ls.map W9).length:Int))=false:=A7 (by rw[A8];omega)
   have:E=0:=by rw[<-hI,J6 h];rfl
   subst this
   refine B2 (D7 (B6 C (X9 C (AL C C C (yN C (yB C C C C (yQ (B3 ?_))))))));rw[u1];refine D8 C (F9 (D7 (H3 C (yQ (C4 ?_)))))
   exact M5 C C
 have u1:decide ((i:Int)<((ls.map W9).length:Int))=true:=B0 (by rw[A8];omega)
 obtain⟨⟨a,c,e⟩,hl⟩:∃ a,ls[i]? = some a:=⟨_,A4 h⟩
 have ex:=ix W9 ls i i (a,c,e) rfl hl
 have hw:=I8 ((i:Int)+1) (by omega)
 obtain⟨b1,b2,b3⟩:=hb2 _ (B8 hl)
 simp only at b1 b2 b3
 have k1:=wRTmp a (by omega)
 have k2:=KC e b2 (fun c hc=>(b3 c hc).1) fun c hc=>by have:=(b3 c hc).2;omega
 have arith:ls.length-(i+1)<ls.length-i:=by omega
 rw[Ib hl]at hI
 simp only at hI
 clear hE hl
 cases ht:M0 I4 a with
 | false=>
  rw[ht]at k1 hI
  rw[B5 (by simp)]at hI
  subst hI
  refine B2 (D7 (B6 C (X9 C (AL C C C (yN C (yB C C C C (yQ (B3 ?_))))))));rw[u1];refine G2 C (B1 (B2 (B7 (B2 (D7 (X9 C (AL C C C (B6 C (yW ex (by omega) C C ?_)))))))));refine Q3 C C (K5 C C (yC (k1) C C (yU C C C (yQ (G2 C (D7 (H3 C (yQ (C4 ?_)))))))));refine A5 (C3 (A5 (A5 (C3 (A5 ?_)))))
  exact M5 C C
 | true=>
 rw[ht]at k1 hI
 rw[B9 rfl]at hI
 obtain⟨x,hx⟩:=H8 (X0 e)
 rw[<-hx]at k2 hI
 by_cases h0:x=0
 . have t2:(x != 0)=false:=by simp[h0]
   rw[B9 h0]at hI
   refine B2 (D7 (B6 C (X9 C (AL C C C (yN C (yB C C C C (yQ (B3 ?_))))))));rw[u1];refine G2 C (B1 (B2 (B7 (B2 (D7 (X9 C (AL C C C (B6 C (yW ex (by omega) C C ?_)))))))));refine Q3 C C (K5 C C (yC (k1) C C (yU C C C (yQ (D8 C (B1 (D7 (X9 C (AL C C C ?_)))))))));refine B6 C (yW ex (by omega) C C (Q3 C C (K5 C C (yC (k2) C C (H3 C (yQ (D7 (B6 C (yB C C C C ?_)))))))));refine yQ (B3 ?_);rw[t2];refine D8 C (B1 (B4 (B6 C (yB C C C C (H3 C (yQ (B3 ?_)))))))
   exact⟨i+1,⟨h,hI⟩,arith,C,⟨E6,P2 hw,D3⟩,⟨⟨_,C,H5 _⟩,D3⟩,D3,C⟩
 . have t2:(x != 0)=true:=by simp[h0]
   rw[B5 h0]at hI
   subst hI
   refine B2 (D7 (B6 C (X9 C (AL C C C (yN C (yB C C C C (yQ (B3 ?_))))))));rw[u1];refine G2 C (B1 (B2 (B7 (B2 (D7 (X9 C (AL C C C (B6 C (yW ex (by omega) C C ?_)))))))));refine Q3 C C (K5 C C (yC (k1) C C (yU C C C (yQ (D8 C (B1 (D7 (X9 C (AL C C C ?_)))))))));refine B6 C (yW ex (by omega) C C (Q3 C C (K5 C C (yC (k2) C C (H3 C (yQ (D7 (B6 C (yB C C C C ?_)))))))));refine yQ (B3 ?_);rw[t2];refine G2 C (D7 (B6 C (H3 C (yQ (C4 (C3 (A5 (A5 (C3 ?_)))))))));refine A5 ?_
   exact M5 C C
def MT (w:F6):Int:=((Df w).map (·.1)).getD 0
theorem kndL_at:∀ k:Nat,k<19->∃ kk,kndL[k]? = some kk∧kk.1=(k+1:Nat)∧HQ ((k+1:Nat):Int)=kk.2.1:=by decide
theorem wKindOf (w:F6):PCalls Tryz.prog 86 [dS w] (.d (dI (MT w))):=by
 obtain⟨r,hr⟩:=H8 (MT w)
 rw[<-hr]
 unfold MT Df at hr
 have hkl:kndL.length=19:=rfl
 refine L5 Tryz.func86 C Tryz.ntmps86 Tryz.results86 fun B w0=>?_
 refine D7 (H3 C (yQ (B2 (D7 (H3 C (yQ (B7 ?_)))))));refine H9 (fun i:Nat=>⟨13,[(0,.d (dS w)),(3,.d (dI ((i+1:Nat):Int)))],[],[]⟩) (fun i=>i<=19∧(((kndL.drop i).find? fun k=>k.2.1==w).map (·.1)).getD 0=r) (fun i=>19-i) 0 ⟨E7 _,hr.symm⟩
  ⟨rfl,⟨E6,E6,D3⟩,D3,D3,rfl⟩ ?_
 rintro i ⟨hi,hI⟩
 clear hr
 rcases D5 i 19 with h|h
 rotate_left
 . have u1:decide (((i+1:Nat):Int)<=19)=false:=A7 (by omega)
   rw[J6 (by omega)]at hI
   have hI2:(0:Int)=r:=hI
   subst hI2
   refine B2 (D7 (B6 C (yB C C C C (yQ (B3 ?_)))));rw[u1];refine D8 C (F9 (D7 (H3 C (yQ (C4 ?_)))))
   exact M5 C C
 have u1:decide (((i+1:Nat):Int)<=19)=true:=B0 (by omega)
 obtain⟨kk,e1,e2,e3⟩:=kndL_at i h
 have hw:IntKind.i64.wrap (((i+1:Nat):Int)+1)=((i+1+1:Nat):Int):=I8 _ (by omega)
 have c1:=Iv ((i+1:Nat):Int)
 rw[e3]at c1
 obtain⟨q1,q2⟩:=A6.1 e1
 rw[I5 q1,q2,List.find?_cons]at hI
 obtain⟨z,hz⟩:=H8 (kk.2.1)
 rw[<-hz]at c1 hI
 have arith:19-(i+1)<19-i:=by omega
 cases he:(z==w) with
 | true=>
  rw[he]at hI
  have hI2:((i+1:Nat):Int)=r:=by rw[<-e2];exact hI
  subst hI2
  clear hI e1 e2 e3 q1 q2 hz
  refine B2 (D7 (B6 C (yB C C C C (yQ (B3 ?_)))));rw[u1];refine G2 C (B1 (B2 (B7 (D7 (B6 C (yC (c1) C C (B6 C (N6 C C (yQ ?_)))))))));refine B3 ?_;rw[he];refine G2 C (D7 (B6 C (H3 C (yQ (C4 (C3 (A5 (A5 (C3 ?_)))))))));refine A5 ?_
  exact M5 C C
 | false=>
  rw[he]at hI
  clear e1 e2 e3 q1 q2 hz
  refine B2 (D7 (B6 C (yB C C C C (yQ (B3 ?_)))));rw[u1];refine G2 C (B1 (B2 (B7 (D7 (B6 C (yC (c1) C C (B6 C (N6 C C (yQ ?_)))))))));refine B3 ?_;rw[he];refine D8 C (B1 (B4 (B6 C (yB C C C C (H3 C (yQ (B3 ?_)))))))
  exact⟨i+1,⟨h,hI⟩,arith,C,⟨E6,P2 hw,D3⟩,D3,D3,C⟩
def NQ (s:F6):Ln×Bool:=
 match R7 32 s with
 | w::t::_::_=>if (w=Q7∨w=N4)∧M0 I4 t=true then ((t,decide (w=N4),Hq (s.drop (w.length+t.length+2))),decide (Ki (s.drop (w.length+t.length+2))=0))else (([],false,[]),false)
 | _=>(([],false,[]),false)
theorem rdV_eq (s:F6):RE (M0 I4) At s=if (NQ s).2=true then some (NQ s).1 else none:=by
 have key:∀ (b:Ln×Bool),b=NQ s->RE (M0 I4) At s=if b.2=true then some b.1 else none:=by
  intro b hb
  unfold NQ at hb
  unfold RE
  obtain⟨L,hL⟩:=H8 (R7 32 s)
  rw[<-hL]at hb ⊢
  match L,hb with
  | [],hb=>subst hb;rfl
  | [_],hb=>subst hb;rfl
  | [_,_],hb=>subst hb;rfl
  | w::t::_::_,hb=>
   dsimp only at hb ⊢
   by_cases h:(w=Q7∨w=N4)∧M0 I4 t=true
   . rw[B9 h]at hb ⊢
     subst hb
     rw[At]
     by_cases h0:Ki (s.drop (w.length+t.length+2))=0
     . rw[B9 h0];simp[h0]
     . rw[B5 h0];simp[h0]
   . rw[B5 h]at hb ⊢
     subst hb
     rfl
 exact key _ C
theorem Qp {s w t:F6} {x:F6} {l:List F6} (h:R7 32 s=w::t::x::l):w.length+t.length+2<=s.length:=by
 have h1:=Az 32 s
 cases e:T6 32 s with
 | none=>rw[e,h]at h1;simp at h1
 | some p=>
  rw[e,h]at h1
  obtain⟨q1,q2⟩:=List.cons.inj h1
  have hs:=AU e
  have h2:=Az 32 p.2
  cases e':T6 32 p.2 with
  | none=>rw[e',<-q2]at h2;simp at h2
  | some p'=>
   rw[e',<-q2]at h2
   obtain⟨q3,q4⟩:=List.cons.inj h2
   have hr:=AU e'
   rw[hs,hr,q1,q3]
   simp
   omega
theorem FF {c:UInt8} {s w:F6} (h:w∈R7 c s):w.length<=s.length:=Co c s w h
theorem QH (s:F6) (hs:s.length<=65536):PCalls Tryz.prog 87 [dS s] (.tup [.agg (W9 (NQ s).1),dB (NQ s).2]):=by
 have k1:=QN s 32 (by omega)
 obtain⟨⟨r0,r1⟩,hR⟩:=H8 (NQ s)
 obtain⟨ra,rc,re⟩:=r0
 rw[<-hR]
 unfold NQ at hR
 have hlen:=fun w (h:w∈R7 32 s)=>FF h
 have h3:=@Qp s
 obtain⟨L,hL⟩:=H8 (R7 32 s)
 rw[<-hL]at k1 hR hlen h3
 clear hL
 by_cases hl:L.length<3
 . have t1:decide (((L.map fun s=>[dS s]).length:Int)<3)=true:=B0 (by rw[A8];omega)
   have:(((ra,rc,re),r1):Ln×Bool)=(([],false,[]),false):=by
    rw[hR]
    split
    . simp at hl;omega
    . rfl
   cases this
   refine L5 Tryz.func87 C Tryz.ntmps87 Tryz.results87 fun B w0=>?_
   refine D7 (yZ (cs:=[_,_,_]) C C (H3 C (yQ ?_)));refine U6 (T8 2 2 2 C C) ?_;refine D7 (B6 C (yC (k1) C C (H3 C (yQ (B2 (D7 (B6 C (yN C (yB C C C C ?_)))))))));refine B6 C ?_;rw[t1];refine yO C (yO C (yO C (yO C (yO C (yO C (yO C (yO C (yO C (yO C ?_)))))))));refine L0 C C (B6 C (yO C (yO C (yO C (yO C (yO C (L0 C C (yQ (G2 C ?_)))))))));refine D7 (yG (ys:=[_,_,_]) C C (yS (cs':=[_,_,_]) C C C C C (H3 C (yQ ?_))));refine U6 (T8 2 2 2 C C) ?_;refine C4 (A5 ?_)
   exact J5 _ (.agg D6 C C C C (.tmp C .nil)) C
 obtain⟨w,t,x,l,rfl⟩:∃ w t x l,L=w::t::x::l:=by
  match L,hl with
  | w::t::x::l,_=>exact⟨w,t,x,l,C⟩
  | [],h=>exact G5 (by simp) h
  | [_],h=>exact G5 (by simp) h
  | [_,_],h=>exact G5 (by simp) h
 have t1:decide ((((w::t::x::l).map fun s=>([dS s]:List DV)).length:Int)<3)=false:=A7 (by simp;omega)
 simp only at hR
 have hwl:=hlen w (by simp)
 have htl:=hlen t (by simp)
 have hsum:=h3 rfl
 have i0:((w::t::x::l).map fun s=>([dS s]:List DV))[((0:Int)).toNat]? = some [dS w]:=rfl
 have i1:((w::t::x::l).map fun s=>([dS s]:List DV))[((1:Int)).toNat]? = some [dS t]:=rfl
 have c1:=wRTmp t (by omega)
 obtain⟨M,hM⟩:=H8 ((w::t::x::l).map fun s=>([dS s]:List DV))
 obtain⟨tp,htp⟩:=H8 (M0 I4 t)
 rw[<-htp]at c1 hR
 rw[<-hM]at t1 i0 i1
 have k1':PCalls Tryz.prog 85 [dS s,.val (.int .u8 (32:UInt8).toNat)] (.d (.sl 1 M)):=by rw[hM];exact k1
 clear hM k1 htp hlen h3
 by_cases hc:w=Q7∨w=N4
 rotate_left
 . have t2:(!(w==[100,101,98,105,116]))=true:=by
    have:¬ w=Q7:=fun h=>hc (.inl h)
    simpa[Q7]using this
   have t3:(!(w==[99,114,101,100,105,116]))=true:=by
    have:¬ w=N4:=fun h=>hc (.inr h)
    simpa[N4]using this
   rw[B5 fun h=>hc h.1]at hR
   cases hR
   refine L5 Tryz.func87 C Tryz.ntmps87 Tryz.results87 fun B w0=>?_
   refine D7 (yZ (cs:=[_,_,_]) C C (H3 C (yQ ?_)));refine U6 (T8 2 2 2 C C) ?_;refine D7 (B6 C (yC (k1') C C (H3 C (yQ (B2 (D7 (B6 C (yN C (yB C C C C ?_)))))))));refine B6 C ?_;rw[t1];refine B6 C (yW i0 (by omega) C C (K5 C C (L8 C C (B6 C ?_))));rw[t2];refine B6 C (yW i0 (by omega) C C (K5 C C (L8 C C (L0 C C (K9 C C (B6 C ?_))))));rw[t3];refine yO C (yO C (yO C (yO C (yO C (L0 C C (yQ (G2 C (D7 (yG (ys:=[_,_,_]) C C ?_)))))))));refine yS (cs':=[_,_,_]) C C C C C (H3 C (yQ ?_));refine U6 (T8 2 2 2 C C) ?_;refine C4 (A5 ?_)
   exact J5 _ (.agg D6 C C C C (.tmp C .nil)) C
 cases tp with
 | false=>
  rw[B5 fun h=>by cases h.2]at hR
  cases hR
  rcases hc with hc|hc
  . have t2:(!(w==[100,101,98,105,116]))=false:=by rw[hc];rfl
    clear hc
    refine L5 Tryz.func87 C Tryz.ntmps87 Tryz.results87 fun B w0=>?_
    refine D7 (yZ (cs:=[_,_,_]) C C (H3 C (yQ ?_)));refine U6 (T8 2 2 2 C C) ?_;refine D7 (B6 C (yC (k1') C C (H3 C (yQ (B2 (D7 (B6 C (yN C (yB C C C C ?_)))))))));refine B6 C ?_;rw[t1];refine B6 C (yW i0 (by omega) C C (K5 C C (L8 C C (B6 C ?_))));rw[t2];refine yO C (yO C (yO C (yO C (K9 C C (K9 C C (B6 C (B6 C (yW i1 (by omega) C C (K5 C C ?_)))))))));refine yC (c1) C C (yU C C C (K9 C C (yQ (G2 C (D7 (yG (ys:=[_,_,_]) C C (yS (cs':=[_,_,_]) C C C C C (H3 C (yQ ?_)))))))));refine U6 (T8 2 2 2 C C) ?_;refine C4 (A5 ?_)
    exact J5 _ (.agg D6 C C C C (.tmp C .nil)) C
  . have t2:(!(w==[100,101,98,105,116]))=true:=by rw[hc];rfl
    have t3:(!(w==[99,114,101,100,105,116]))=false:=by rw[hc];rfl
    clear hc
    refine L5 Tryz.func87 C Tryz.ntmps87 Tryz.results87 fun B w0=>?_
    refine D7 (yZ (cs:=[_,_,_]) C C (H3 C (yQ ?_)));refine U6 (T8 2 2 2 C C) ?_;refine D7 (B6 C (yC (k1') C C (H3 C (yQ (B2 (D7 (B6 C (yN C (yB C C C C ?_)))))))));refine B6 C ?_;rw[t1];refine B6 C (yW i0 (by omega) C C (K5 C C (L8 C C (B6 C ?_))));rw[t2];refine B6 C (yW i0 (by omega) C C (K5 C C (L8 C C (L0 C C (K9 C C (B6 C ?_))))));rw[t3];refine B6 C (yW i1 (by omega) C C (K5 C C (yC (c1) C C (yU C C C (K9 C C (yQ (G2 C (D7 (yG (ys:=[_,_,_]) C C ?_)))))))));refine yS (cs':=[_,_,_]) C C C C C (H3 C (yQ ?_));refine U6 (T8 2 2 2 C C) ?_;refine C4 (A5 ?_)
    exact J5 _ (.agg D6 C C C C (.tmp C .nil)) C
 | true=>
  rw[B9 ⟨hc,rfl⟩]at hR
  have hw1:IntKind.i64.wrap ((w.length:Int)+(t.length:Int))=((w.length+t.length:Nat):Int):=by rw[I8 _ (by omega)];omega
  have hw2:IntKind.i64.wrap (((w.length+t.length:Nat):Int)+2)=((w.length+t.length+2:Nat):Int):=by rw[I8 _ (by omega)];omega
  have hle:((w.length+t.length+2:Nat):Int)<=(s.length:Int):=by omega
  have hD:s.drop (((w.length+t.length+2:Nat):Int)).toNat=s.drop (w.length+t.length+2):=by rw[H1]
  have k2:=wRParse (s.drop (w.length+t.length+2)) (by rw[M7];omega)
  obtain⟨X,hX⟩:=H8 (s.drop (w.length+t.length+2))
  rw[<-hX]at k2 hR hD
  obtain⟨e,he⟩:=H8 (Hq X)
  obtain⟨y,hy⟩:=H8 (Ki X)
  rw[<-he,<-hy]at k2 hR
  clear hX he hy
  rcases hc with hc|hc
  . have t2:(!(w==[100,101,98,105,116]))=false:=by rw[hc];rfl
    have t5:(w==[99,114,101,100,105,116])=false:=by rw[hc];rfl
    have t6:decide (w=N4)=false:=by rw[hc];rfl
    rw[t6]at hR
    cases hR
    clear hc t6
    refine L5 Tryz.func87 C Tryz.ntmps87 Tryz.results87 fun B w0=>?_
    refine D7 (yZ (cs:=[_,_,_]) C C (H3 C (yQ (D7 (B6 C (yC (k1') C C (H3 C (yQ (B2 ?_)))))))));refine D7 (B6 C (yN C (yB C C C C (B6 C ?_))));rw[t1];refine B6 C (yW i0 (by omega) C C (K5 C C (L8 C C (B6 C ?_))));rw[t2];refine yO C (yO C (yO C (yO C (K9 C C (K9 C C (B6 C (B6 C (yW i1 (by omega) C C (K5 C C ?_)))))))));refine yC (c1) C C (yU C C C (K9 C C (yQ (D8 C (B1 (B2 ?_))))));refine J2 Tryz.mixed (by kernel_rfl) ?_;refine B6 C (B6 C (yW i0 (by omega) C C (K5 C C (N3 C (B6 C (yW i1 (by omega) C C (K5 C C (N3 C (yB C C C C ?_)))))))));refine yB C C C C ?_;rw[hw1];rw[hw2];refine V3 (by omega) hle hD C C (yC (k2) C C (N9 C (yX C C (yX C C (H3 C (H3 C (yQ (B2 ?_))))))));refine J2 Tryz.mixed (by kernel_rfl) ?_;refine B6 C (yW i1 (by omega) C C (K5 C C (B6 C (yW i0 (by omega) C C (K5 C C (N6 C C (B6 C (yG (ys:=[_,_,_]) C C (B6 C ?_)))))))));refine yB C C C C (yS (cs':=[_,_,_]) C C C C C (H3 C (yQ (C4 ?_))));rw[t5]
    exact J5 _ (.agg D6 C C C C (.tmp C .nil)) C
  . have t2:(!(w==[100,101,98,105,116]))=true:=by rw[hc];rfl
    have t3:(!(w==[99,114,101,100,105,116]))=false:=by rw[hc];rfl
    have t5:(w==[99,114,101,100,105,116])=true:=by rw[hc];rfl
    have t6:decide (w=N4)=true:=by rw[hc];rfl
    rw[t6]at hR
    cases hR
    clear hc t6
    refine L5 Tryz.func87 C Tryz.ntmps87 Tryz.results87 fun B w0=>?_
    refine D7 (yZ (cs:=[_,_,_]) C C (H3 C (yQ (D7 (B6 C (yC (k1') C C (H3 C (yQ (B2 ?_)))))))));refine D7 (B6 C (yN C (yB C C C C (B6 C ?_))));rw[t1];refine B6 C (yW i0 (by omega) C C (K5 C C (L8 C C (B6 C ?_))));rw[t2];refine B6 C (yW i0 (by omega) C C (K5 C C (L8 C C (L0 C C (K9 C C (B6 C ?_))))));rw[t3]
    refine B6 C (yW i1 (by omega) C C (K5 C C (yC (c1) C C (yU C C C (K9 C C (yQ (D8 C (B1 (B2 ?_)))))))));refine J2 Tryz.mixed (by kernel_rfl) ?_;refine B6 C (B6 C (yW i0 (by omega) C C (K5 C C (N3 C (B6 C (yW i1 (by omega) C C (K5 C C (N3 C (yB C C C C ?_)))))))));refine yB C C C C ?_;rw[hw1];rw[hw2];refine V3 (by omega) hle hD C C (yC (k2) C C (N9 C (yX C C (yX C C (H3 C (H3 C (yQ (B2 ?_))))))));refine J2 Tryz.mixed (by kernel_rfl) ?_;refine B6 C (yW i1 (by omega) C C (K5 C C (B6 C (yW i0 (by omega) C C (K5 C C (N6 C C (B6 C (yG (ys:=[_,_,_]) C C (B6 C ?_)))))))));refine yB C C C C (yS (cs':=[_,_,_]) C C C C C (H3 C (yQ (C4 ?_))));rw[t5]
    exact J5 _ (.agg D6 C C C C (.tmp C .nil)) C
end Go.Proofs.YtddfimjiihggmaaGreatDoor
namespace Go.Proofs.YtddfimjiihggmaaGreatDoor.Px
open Go.RowKit
variable {rs:List (Int×List (List DV))} {v:Value} {i:EI} {El Er:Nat}
theorem Eu (l:EB):∃ N,∀ b,N<=b->G1 l b=none:=by
 induction l with
 | nil=>exact⟨0,fun b _=>C⟩
 | cons p l ih=>
  obtain⟨N,hN⟩:=ih
  refine⟨N+p.1+1,fun b hb=>?_⟩
  obtain⟨k,v⟩:=p
  rw[G3,B5 (by dsimp only at hb;omega)]
  exact hN b (by omega)
theorem InR.any {bo bo':Nat} {cells:List Value} (h:InR i bo v El rs cells) (hb:G1 i.bs bo'=none):InR i bo' v El rs cells:=by
 refine⟨fun j r hj=>?_,h.2⟩
 obtain⟨t1,lv,lc,t2,t3,t4,t5⟩:=h.1 j r hj
 refine⟨t1,lv,lc,t2,t3,fun b e=>⟨fun e2=>?_,(t4 b e).2⟩,t5⟩
 obtain⟨xs,hx⟩:=t3.blk e
 rw[e2,hb]at hx
 cases hx
def RBn (i:EI) (v:Value) (Er El:Nat) (rs:List (Int×List (List DV))):Prop:=∃ cells bo,RowAt i.bs Er 2 v rs.length cells∧InR i bo v El rs cells
def RB (i:EI) (v:Value) (Er El:Nat) (rs:List (Int×List (List DV))):Prop:=
 (rs=[] ∧ ∃ b c xs,v=.slice (some ⟨b,0,none⟩) 0 c∧G1 i.bs b=some (xs,Er)∧xs.length=c*2∧c<=maxLen)∨(rs≠[]∧RBn i v Er El rs)
theorem RB.it {it:Option (Nat×List (Value×DV)×List (Value×DV))} (h:RB i v Er El rs):RB ⟨i.bs,i.fs,it⟩ v Er El rs:=h
theorem RBn.slice (h:RBn i v Er El rs) (hn:rs≠[]):∃ b c xs,v=.slice (some ⟨b,0,none⟩) rs.length c∧rs.length<=c∧c<=maxLen∧G1 i.bs b=some (xs,Er)∧xs.length=c*2:=by
 obtain⟨cells,bo,h1,-⟩:=h
 obtain⟨b,c,xs,e1,e2,e3,e4,e5,-⟩:=h1.pos (List.length_pos_iff.2 hn)
 exact⟨b,c,xs,e1,e2,e3,e4,e5⟩
theorem RB.slice (h:RB i v Er El rs):∃ b c xs,v=.slice (some ⟨b,0,none⟩) rs.length c∧rs.length<=c∧c<=maxLen∧G1 i.bs b=some (xs,Er)∧xs.length=c*2:=by
 rcases h with⟨rfl,b,c,xs,e1,e2,e3,e4⟩|⟨h1,h2⟩
 . exact⟨b,c,xs,e1,E7 _,e4,e2,e3⟩
 . exact h2.slice h1
theorem RB.one (h:RB i v Er El rs):v.oneCell'=true:=by
 obtain⟨b,c,xs,rfl,-⟩:=h.slice
 rfl
theorem RA.strip {j:EI} {bo To:Nat} {xs0:List Value} (h:RA j bo Er El rs) (hbo:G1 j.bs bo=some (xs0,To)) (hx:xs0[0]? = some v) {bs0:EB} (hk:∀ x,x≠bo->G1 bs0 x=G1 j.bs x) {it:Option (Nat×List (Value×DV)×List (Value×DV))}:RBn ⟨bs0,j.fs,it⟩ v Er El rs:=by
 obtain⟨xs1,To1,v1,cells,h1,h2,h3,h4,h5⟩:=h
 rw[hbo]at h1
 cases h1
 rw[hx]at h2
 cases h2
 refine⟨cells,bo,h3.keep fun b hb=>hk b fun e=>h4 (e ▸ hb),fun m r hm=>?_,h5.2⟩
 obtain⟨t1,lv,lc,t2,t3,t4,t5⟩:=h5.1 m r hm
 exact⟨t1,lv,lc,t2,t3.keep fun b hb=>hk b (t4 b hb).1,t4,t5⟩
theorem RBn.lift {bo:Nat} (h:RBn i v Er El rs) (hbo:G1 i.bs bo=none):∃ cells,RowAt i.bs Er 2 v rs.length cells∧v.ownBlock≠some bo∧InR ⟨(bo,([v],0))::i.bs,i.fs,i.it⟩ bo v El rs cells:=by
 obtain⟨cells,bo',h1,h2⟩:=h
 have h3:=h2.any hbo
 refine⟨cells,h1,fun e=>?_,fun m r hm=>?_,h3.2⟩
 . obtain⟨xs,hx⟩:=h1.blk e
   rw[hbo]at hx
   cases hx
 . obtain⟨t1,lv,lc,t2,t3,t4,t5⟩:=h3.1 m r hm
   exact⟨t1,lv,lc,t2,t3.keep fun b hb=>by rw[G3,B5 (t4 b hb).1],t4,t5⟩
theorem RB.push {b c b' c':Nat} {xs xs' news:List Value} {fs':List (Value×DV)} {it':Option (Nat×List (Value×DV)×List (Value×DV))} {n:Int}
 (h:RB i v Er El rs) (hv:v=.slice (some ⟨b,0,none⟩) rs.length c) (hb:G1 i.bs b=some (xs,Er)) (q3:b'=b∨G1 i.bs b'=none) (q5:news.length=2) (q7:xs'.length=c'*2) (q8:rs.length+1<=c') (q9:c'<=maxLen)
 (q10:xs'.take ((rs.length+1)*2)=xs.take (rs.length*2)++news) (q6:Lf news [.val (vI n),.val (.slice none 0 0)]) (hfs:∀ q∈i.fs,q∈fs'):
 RB ⟨(b',(xs',Er))::i.bs.del b,fs',it'⟩ (.slice (some ⟨b',0,none⟩) (rs.length+1) c') Er El (rs++[(n,[])]):=by
 refine .inr ⟨by simp,?_⟩
 obtain⟨N,hN⟩:=Eu i.bs
 obtain⟨bo,ho1,ho2,ho3⟩:∃ bo,N<=bo∧bo≠b'∧bo≠b:=⟨N+b'+b+1,by omega,by omega,by omega⟩
 have hbo:=hN bo ho1
 have hnb:G1 ((b',(xs',Er))::i.bs.del b) bo=none:=by rw[G3,B5 ho2,Ar,B5 ho3,hbo]
 have strip:=fun(w:Value) (hra:RA ⟨(bo,(BO [w] 0 [.slice (some ⟨b',0,none⟩) (rs.length+1) c'],0))::((bo,([w],0))::(b',(xs',Er))::i.bs.del b),fs',it'⟩ bo Er El (rs++[(n,[])]))=>
  RA.strip (it:=it') hra (by rw[G3,B9 rfl]) rfl (bs0:=(b',(xs',Er))::i.bs.del b) fun x hx=>by dsimp only;conv=>rhs;rw[G3,B5 hx,G3,B5 hx]
 have hrow:∀ (w:Value) (cells:List Value),xs.take (rs.length*2)=cells->cells.length=rs.length*2->RowAt ((bo,([w],0))::(b',(xs',Er))::i.bs.del b) Er 2 (.slice (some ⟨b',0,none⟩) (rs.length+1) c') (rs.length+1) (cells++news):=fun w cells hc hl=>
  ⟨by rw[C9,hl,q5];omega,.inr ⟨b',c',xs',rfl,by omega,q8,q9,by rw[G3,B5 (Ne.symm ho2),G3,B9 rfl],q7,by rw[q10,hc]⟩⟩
 rcases h with⟨rfl,b1,c1,xs1,e1,e2,e3,e4⟩|⟨hne,hn⟩
 . refine strip (.slice none 0 0) (RA.push (i:=⟨(bo,([.slice none 0 0],0))::i.bs.del b,i.fs,i.it⟩) (bo:=bo) (To:=0) (b':=b') (rs:=[]) (xs0:=[.slice none 0 0]) (vs:=[.slice (some ⟨b',0,none⟩) (0+1) c']) (news:=news) (cells:=[]) (v:=.slice none 0 0) (v':=.slice (some ⟨b',0,none⟩) (0+1) c') (bs':=(bo,([.slice none 0 0],0))::(b',(xs',Er))::i.bs.del b)
    (by dsimp only;rw[G3,B9 rfl]) rfl (by simp[Value.ownBlock]) ⟨fun j r hj=>by simp at hj,fun j j' lv lv' x hj=>by simp at hj⟩ rfl rfl (hrow _ [] (by simp) rfl) (.inr ?_) (fun x hx _=>?_) q5 q6 rfl (fun j u w hj hw=>?_) hfs)
   . dsimp only
     rw[G3,B5 (Ne.symm ho2),Ar]
     rcases q3 with q3|q3
     . rw[B9 q3]
     . split
       . rfl
       . exact q3
   . rw[G3]
     by_cases e:x=bo
     . rw[B9 e,e];dsimp only;rw[G3,B9 rfl]
     . rw[B5 e,G3,B5 hx];dsimp only;rw[G3,B5 e]
   . match j with
     | 0=>cases hj;cases hw;rfl
     | j+1=>simp at hj
 . obtain⟨cells,h1,h2,h3⟩:=hn.lift hbo
   obtain⟨b1,c1,xs1,e1,-,-,e4,-,e6⟩:=h1.pos (List.length_pos_iff.2 hne)
   have e7:b1=b:=by
    rw[hv]at e1
    have:=(Value.slice.inj e1).1
    simpa using this.symm
   subst e7
   rw[hb]at e4
   cases e4
   refine strip v (RA.push (i:=⟨(bo,([v],0))::i.bs,i.fs,i.it⟩) (bo:=bo) (To:=0) (b':=b') (rs:=rs) (xs0:=[v]) (vs:=[.slice (some ⟨b',0,none⟩) (rs.length+1) c']) (news:=news) (cells:=cells) (v:=v) (v':=.slice (some ⟨b',0,none⟩) (rs.length+1) c') (bs':=(bo,([v],0))::(b',(xs',Er))::i.bs.del b1)
    (by dsimp only;rw[G3,B9 rfl]) rfl h2 h3 h1.1 rfl (hrow v cells e6 h1.1) ?_ (fun x hx hvx=>?_) q5 q6 rfl (fun j u w hj hw=>?_) hfs)
   . rcases q3 with q3|q3
     . exact .inl (by rw[hv,q3];rfl)
     . exact .inr (by dsimp only;rw[G3,B5 (Ne.symm ho2)];exact q3)
   . rw[G3]
     by_cases e:x=bo
     . rw[B9 e,e];dsimp only;rw[G3,B9 rfl]
     . rw[B5 e,G3,B5 hx,Ar,B5 fun e2=>hvx (by rw[hv,e2];rfl)];dsimp only;rw[G3,B5 e]
   . match j with
     | 0=>cases hj;cases hw;rfl
     | j+1=>simp at hj
theorem RB.last {r:Int×List (List DV)} (h:RB i v Er El (rs++[r])):∃ br c xs lv lc,v=.slice (some ⟨br,0,none⟩) (rs.length+1) c∧G1 i.bs br=some (xs,Er)∧rs.length*2+1+1<=xs.length∧xs[rs.length*2+1]? = some lv∧lv.oneCell'=true∧RowAt i.bs El 3 lv r.2.length lc∧lv.ownBlock≠some br ∧
 ∀ (v':Value) (b':Nat) (bs':EB) (news vs:List Value) (e:List DV) (fs':List (Value×DV)) (it':Option (Nat×List (Value×DV)×List (Value×DV))),v'.ownBlock=some b'->RowAt bs' El 3 v' (r.2.length+1) (lc++news)->(lv.ownBlock=some b'∨G1 i.bs b'=none)->(∀ b,b≠b'->lv.ownBlock≠some b->G1 bs' b=G1 i.bs b)->news.length=3->e.length=3->(∀ u∈news,u.oneCell'=true)->vs.length=1->Lf vs [.val v']->(∀ q∈i.fs,q∈fs')->(∀ q∈news.zip e,q∈fs') →
  RB ⟨(br,(BO xs (rs.length*2+1) vs,Er))::bs',fs',it'⟩ v Er El (rs++[(r.1,r.2++[e])]):=by
 rcases h with⟨h,-⟩|⟨hne,hn⟩
 . simp at h
 obtain⟨N,hN⟩:=Eu i.bs
 obtain⟨cells,h1,-,h5⟩:=hn.lift (hN N (E0 _))
 have hlen:(rs++[r]).length=rs.length+1:=by simp
 rw[hlen]at h1
 obtain⟨br,c,xs,rfl,x2,x3,x1,x4,x5⟩:=h1.pos (by omega)
 have hlast:(rs++[r])[rs.length]? = some r:=by rw[E9 (E0 _),Nat.sub_self];rfl
 obtain⟨-,lv,lc,q1,q2,q3,q4⟩:=h5.1 _ _ hlast
 have hu:xs[rs.length*2+1]? = some lv:=by
  have q1':=q1
  rw[<-x5]at q1'
  have:=(A6.1 q1').1
  rw[F4]at this
  rwa [E8 (by omega)]at q1'
 have q2':RowAt i.bs El 3 lv r.2.length lc:=q2.keep fun b hb=>by dsimp only;rw[G3,B5 (q3 b hb).1]
 refine⟨br,c,xs,lv,lc,C,x1,by omega,hu,q2.one,q2',fun e=>(q3 br e).2 rfl,fun v' b' bs' news vs e fs' it' w1 w2 w3 w4 w5 w9 w6 w7 w8 wf wn=>.inr ⟨by simp,?_⟩⟩
 obtain⟨N',hN'⟩:=Eu bs'
 obtain⟨bo,ho1,ho2,ho3,ho4⟩:∃ bo,N<=bo∧N'<=bo∧bo≠b'∧bo≠br:=⟨N+N'+b'+br+1,by omega,by omega,by omega,by omega⟩
 have hbo:=hN bo ho1
 obtain⟨cells2,g1,g2,g3⟩:=hn.lift hbo
 have hcc:cells2=cells:=by
  rw[hlen]at g1
  obtain⟨br2,c2,xs2,e1,-,-,y1,-,y5⟩:=g1.pos (by omega)
  cases e1
  rw[x1]at y1
  cases y1
  rw[<-y5,x5]
 subst hcc
 have hlvb:∀ b,lv.ownBlock=some b->b≠bo:=fun b hb=>by
  obtain⟨-,lv2,lc2,z2,-,z4,-⟩:=g3.1 _ _ hlast
  rw[q1]at z2
  cases z2
  exact(z4 b hb).1
 have hra:=RA.line (i:=⟨(bo,([.slice (some ⟨br,0,none⟩) (rs.length+1) c],0))::i.bs,i.fs,i.it⟩) (bo:=bo) (br:=br) (Er:=Er) (El:=El) (To:=0) (c:=c) (b':=b') (rs:=rs) (r:=r) (e:=e) (xs0:=[.slice (some ⟨br,0,none⟩) (rs.length+1) c]) (xs:=xs) (vs:=vs) (news:=news) (cells:=cells2) (lc:=lc) (lv:=lv) (v':=v') (bs':=(bo,([.slice (some ⟨br,0,none⟩) (rs.length+1) c],0))::bs') (fs':=fs') (it':=it')
  (by dsimp only;rw[G3,B9 rfl]) rfl (Ne.symm ho4) g3 (by rw[<-x5,F4];omega) (by dsimp only;rw[G3,B5 (Ne.symm ho4)];exact x1) x2 x3 x4 x5 q1 (q2'.keep fun b hb=>by dsimp only;rw[G3,B5 (hlvb b hb)]) q4 w1 (w2.keep fun b hb=>by
   rw[w1]at hb
   cases hb
   rw[G3,B5 (Ne.symm ho3)]) (by
   rcases w3 with w3|w3
   . exact .inl w3
   . exact .inr (by dsimp only;rw[G3,B5 (Ne.symm ho3)];exact w3)) (fun b hb hl=>by
   rw[G3]
   by_cases e2:b=bo
   . rw[B9 e2,e2];dsimp only;rw[G3,B9 rfl]
   . rw[B5 e2];dsimp only;rw[G3,B5 e2];exact w4 b hb hl) w5 w9 w6 w7 w8 wf wn
 refine RA.strip (it:=it') hra (To:=0) (xs0:=[.slice (some ⟨br,0,none⟩) (rs.length+1) c]) (by dsimp only;rw[G3,B5 ho4,G3,B9 rfl]) rfl fun x hx=>?_
 dsimp only
 rw[G3]
 by_cases e2:x=br
 . rw[B9 e2,G3,B9 e2]
 . rw[B5 e2,G3,B5 e2,G3,B5 hx]
theorem RB.data (h:RB i v Er El rs) {F:Nat->Nat->Prop} {w:World} (hbs:∀ (b:Nat) (xs:List Value) (T:Nat),G1 i.bs b=some (xs,T)->w.heap[b]? = some (.cells xs.toArray T (0,0)) ∧ ∀ o,F b o) (hfs:∀ q∈i.fs,DRep F w q.1 q.2):
 DRep F w v (.sl 2 (rs.map fun r=>[.val (vI r.1),.sl 3 r.2])):=by
 rcases h with⟨rfl,b,c,xs,rfl,-⟩|⟨-,cells,bo,h3,h5⟩
 . exact .sl (fun _ _=>undef) C (E7 _) (by simp) (fun e he=>by simp at he) (fun h=>by omega) (fun i j hi=>by omega) fun i j e x he=>by simp at he
 refine h3.data hbs (by simp) (fun e he=>?_) fun m l q x hm hq=>?_
 . obtain⟨r,-,rfl⟩:=H2.1 he;rfl
 . rw[C6,C7]at hm
   obtain⟨r,hr,rfl⟩:=hm
   obtain⟨t1,lv,lc,t2,t3,t4,t5⟩:=h5.1 m r hr
   match q with
   | 0=>cases hq;exact⟨_,t1,C,DRep.val _ C⟩
   | 1=>
    cases hq
    refine⟨lv,t2,t3.one,t3.data hbs C (fun e he=>?_) fun m' l' q' x' hm' hq'=>?_⟩
    . obtain⟨m',hm'⟩:=List.mem_iff_getElem?.1 he
      exact(t5 m' e hm').1
    . obtain⟨u,u1,u2,u3⟩:=(t5 m' l' hm').2 q' x' hq'
      exact⟨u,u1,u2,hfs _ u3⟩
   | q+2=>simp at hq
section
variable {P:Program} {rl:Option Nat} {d0:Nat} {p:EP} {Q:Exit->PS->EI->Prop} {st:PS}
theorem RJ {c:Code} (s i0:Nat) {n E k:Nat} {vs:List Value} (hs0:st.get s=.bs i0 n E k) (hb:st.bget i0=some (vs.map fun v=>.d (.val v)))
 (h:∀ b m xs,xs.take vs.length=vs->xs.length=m*k->n<=m->m<=maxLen->G1 i.bs b=none->PX P rl d0 (HE p) c Q ((st.kill i0).put (some s) (.d (.val (.slice (some ⟨b,0,none⟩) n m)))) ⟨(b,(xs,E))::i.bs,i.fs,i.it⟩) (hlt:Nat.blt i0 500000=true:=by rfl):PX P rl d0 (HE p) c Q st i:=fun g a w hs hX=>by
 have hr:=hs.2
 obtain⟨b,xs,T,h1,h2,h3,h4,h5⟩:=hr.boxes i0 _ hb (C0 hlt)
 obtain⟨s0,kp,hown⟩:=hs.killb h1
 have hbs:=hr.slots s
 rw[hs0]at hbs
 obtain⟨b',m,q1,q2,q3,q4,q5⟩:=hbs
 rw[h1]at q1
 cases q1
 have hsh:T=E∧xs.size=m*k:=by
  simp only[World.shape?,h2,Option.some.injEq,Prod.mk.injEq]at q5
  exact q5
 obtain⟨rfl,hsz⟩:=hsh
 have hnone:G1 i.bs b=none:=by
  cases e:G1 i.bs b with
  | none=>rfl
  | some q=>obtain⟨ys,T'⟩:=q;exact G5 (.inr (.inl ⟨i0,h1⟩)) (hX.bs b ys T' e).2.1
 have hvs:xs.toList.take vs.length=vs:=by
  refine List.ext_getElem? fun j=>?_
  by_cases hj:j<vs.length
  . rw[E8 hj,A4 hj]
    obtain⟨u,hu,hu2⟩:=h4 j (.d (.val vs[j])) (by rw[C6,A4 hj];rfl)
    rw[Array.getElem?_toList,hu,DRep.val_eq hu2]
  . rw[I0 (by rw[F4];omega),I0 (by omega)]
 refine h b m xs.toList hvs (by simpa using hsz) q3 q4 hnone _ a w ⟨s0.1,{ s0.2 with lim:=s0.2.lim,size:=s0.2.size,boxes:=s0.2.boxes,maps:=s0.2.maps,dom:=s0.2.dom,tdom:=s0.2.tdom,tlen:=s0.2.tlen,glob:=s0.2.glob,slots:=fun j=>?_ }⟩ ⟨hX.os,hX.tape,hX.output,hX.size,hX.block,fun b o hf=>hX.f0 b o hf.1,hX.new,fun b ho=>hX.own b (hown b ho).1,hX.gl,fun q hq=>(hX.fs q hq).mono kp,fun b' xs' T' e=>?_,hX.it.keep (fun _ _ _ _=>rfl) (fun b ho=>(hown b ho).1) kp⟩
 . rw[Q5]
   by_cases e:j=s
   . rw[B9 e,e,q2];exact DRep.val _ C
   . rw[B5 e];exact s0.2.slots j
 . dsimp only at e
   rw[G3]at e
   split at e
   . rename_i e2;subst e2;cases e
     exact⟨by simpa using h2,fun ho=>(hown _ ho).2 rfl,fun k hk=>hk.2 rfl,.inl (hX.own _ (.inr (.inl ⟨i0,h1⟩)))⟩
   . obtain⟨t1,t2,t3,t4⟩:=hX.bs b' xs' T' e
     exact⟨t1,fun ho=>t2 (hown _ ho).1,fun k hk=>t3 k hk.1,t4⟩
end
end Go.Proofs.YtddfimjiihggmaaGreatDoor.Px