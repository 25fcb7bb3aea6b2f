/- Walk: the reference reads texts of expressions. -/
import Derived.Test.YtddfimjiihggmaaGreatDoorB10
set_option maxHeartbeats 16000000
set_option maxRecDepth 20000
namespace Go.Proofs.YtddfimjiihggmaaGreatDoor
namespace Px
open Go.RowKit
section
variable {P:Program} {B:Nat} {w0:Cx} {Q Q':Exit->PS->Prop} {st:PS} {sq:Bool} {ops:Array Oper} {K K':PS->Prop} {rest:List Oper}
theorem YR.mono (h:YR P sq ops K rest st) (hk:∀ s,K s->K' s):YR P sq ops K' rest st:=by
 induction h with
 | nil h=>exact .nil (hk _ h)
 | op x ef hs ho hw _ ih=>exact .op x ef hs ho hw ih
 | skip hd hw _ ih=>exact .skip hd hw ih
 | any hq h=>exact .any hq fun B w0 Q hQ=>h B w0 Q fun s hs=>hQ s (hk s hs)
theorem Dq {b y:Code} (J:PS) (h2:PW P B w0 y Q J) (h1:YR P sq ops (PW P B w0 b (U4 (fun s=>Le s J) Q)) rest st):YR P sq ops (U4 (PW P B w0 (.seq b y) Q) Q' .normal) rest st:=h1.mono fun _ hs=>B2 (NT J h2 hs)
theorem CQ {b y:Code} (J:PS) (h2:PW P B w0 y Q J) (h1:YR P sq ops (PW P B w0 b (U4 (fun s=>Le s J) Q)) rest st):YR P sq ops (U4 (PW P B w0 b (U4 (PW P B w0 y Q) Q)) Q' .normal) rest st:=h1.mono fun _ hs=>NT J h2 hs
end
end Px
open Go.RowKit Px
variable {α:Type} {i:Nat}
abbrev rpT:Nat:=113*100000+11
abbrev rpS (zs:List Cf) (b:Bool) (r:F6):PS:=⟨83,[(4,.ts rpT 2 (zs.map dCf)),(5,.d (dS r)),(6,.d (dB b))],[],[(rpT,(zs.map dCf).length)]⟩
abbrev rpS2 (zs:List Cf) (b:Bool) (r:F6) (j:Nat):PS:=⟨83,[(4,.ts rpT 2 (zs.map dCf)),(5,.d (dS r)),(6,.d (dB b)),(7,.d (dI j))],[],[(rpT,(zs.map dCf).length)]⟩
theorem wRParse (s:F6) (hs:s.length<=65536):PCalls Tryz.prog 131 [dS s] (.tup [.sl 2 ((Hq s).map dCf),dI (Ki s)]):=by
 have t0:decide ((s.length:Int) > 65536)=false:=A7 (by omega)
 by_cases h0:s=[48]
 . have t1:(s==[48])=true:=by simp[h0]
   rw[Hq,Ki,B9 h0,B9 h0]
   refine L5 Tryz.func131 C Tryz.ntmps131 Tryz.results131 fun B w0=>?_
   refine D7 (H3 C (H3 C (yQ (B2 (D7 (B6 C (N3 C (yB C C C C (yQ ?_)))))))));refine B3 ?_;rw[t0];refine D8 C (B1 (B2 (D7 (B6 C (N6 C C (yQ (B3 ?_)))))));rw[t1];refine G2 C (D7 (H3 C (H3 C (yQ (C4 (A5 ?_))))))
   exact J5 _ (.tnil 2 C (.tmp C .nil)) C
 have t1:(s==[48])=false:=by simp[h0]
 have hfin:=SZ s h0
 have hcl:(Hr 45 s).length<=65536:=Jp s hs
 obtain⟨R,hR⟩:=H8 (Hq s)
 obtain⟨E,hE⟩:=H8 (Ki s)
 rw[<-hR,<-hE]at hfin ⊢
 clear hR hE
 refine L5 Tryz.func131 C Tryz.ntmps131 Tryz.results131 fun B w0=>?_
 refine D7 (H3 C (H3 C (yQ (B2 (D7 (B6 C (N3 C (yB C C C C (yQ ?_)))))))));refine B3 ?_;rw[t0];refine D8 C (B1 (B2 (D7 (B6 C (N6 C C (yQ (B3 ?_)))))));rw[t1];refine D8 C (B1 (D7 (H3 C (yQ (D7 (B6 C (H3 C (H3 C (yQ ?_)))))))));refine B2 (D7 (B6 C (L8 C C (B6 C ?_))))
 first|refine Dq ⟨83,[(4,.d (.val (.slice none 0 0))),(5,.d (dS (Hr 45 s))),(6,.d (dB (Jy 45 s)))],[],[]⟩ ?_ ?_|refine CQ ⟨83,[(4,.d (.val (.slice none 0 0))),(5,.d (dS (Hr 45 s))),(6,.d (dB (Jy 45 s)))],[],[]⟩ ?_ ?_
 rotate_left
 . cases s with
   | nil=>
    refine yO C (yO C (yO C (K9 C C (yQ (D8 C (B1 (B3 ?_)))))))
    exact⟨rfl,⟨E6,E6,E6,D3⟩,D3,D3,C⟩
   | cons x l=>
   have u0:(x::l==[])=false:=rfl
   have hx:(x::l:F6)[(0:Int).toNat]? = some x:=rfl
   by_cases h45:x=45
   . have t2:((x.toNat:Int)==45)=true:=by rw[h45];rfl
     have e1:Hr 45 (x::l)=l:=by rw[Hr,B9 h45]
     have e2:Jy 45 (x::l)=true:=by rw[h45];rfl
     rw[e1,e2]
     have h1:(x::l:F6).drop ((1:Int)).toNat=l:=rfl
     have hl1:(1:Int)<=((x::l:F6).length:Int):=by simp;omega
     obtain⟨y,hy⟩:=H8 ((x::l:F6))
     rw[<-hy]at u0 hx h1 hl1 ⊢
     clear hy e1 e2 hs t0 h0 t1 hfin hcl
     rw[u0];refine B6 C ?_;refine U9 hx (by omega) C C ?_;refine yB C C C C ?_;refine L0 C C ?_;refine yQ ?_;rw[t2];refine G2 C ?_;refine B4 ?_;refine B6 C ?_
     refine V3 (by omega) hl1 h1 C C (H3 C (H3 C (yQ (B3 ?_))))
     exact⟨rfl,⟨E6,E6,E6,D3⟩,D3,D3,C⟩
   . have t2:((x.toNat:Int)==45)=false:=G9 fun h=>h45 (UInt8.toNat_inj.1 (by have:(45:UInt8).toNat=45:=rfl;omega))
     have e1:Hr 45 (x::l)=x::l:=by rw[Hr,B5 h45]
     have e2:Jy 45 (x::l)=false:=by simp[Jy,h45]
     rw[e1,e2]
     refine B6 C (U9 hx (by omega) C C (yB C C C C (L0 C C (yQ ?_))));rw[u0];rw[t2];refine D8 C (B1 (B3 ?_))
     exact⟨rfl,⟨E6,E6,E6,D3⟩,D3,D3,C⟩
 refine JP 4 rpT 2 C C C ?_;refine B2 (B7 ?_);refine H9 (fun p:List Cf×Bool×F6=>rpS p.1 p.2.1 p.2.2) (fun p=>p.1.length+p.2.2.length<=65536∧(∀ c∈p.1,Cu c.2=true∧c.2.length<=70000)∧Dj (Dx p.2.1 p.2.2) p.1=(E,R)) (fun p=>p.2.2.length) ([],Jy 45 s,Hr 45 s) ⟨by simp only[List.length_nil];omega,fun c hc=>by simp at hc,hfin⟩
  ⟨rfl,⟨E6,E6,E6,D3⟩,D3,⟨rfl,D3⟩,rfl⟩ ?_
 clear hfin hcl t0 t1 h0 hs
 rintro⟨zs,neg,r⟩ ⟨hln,hzs,hfin⟩
 simp only at hln hzs hfin ⊢
 refine B7 (D7 (H3 C (yQ (B2 (B7 ?_)))));refine H9 (fun j:Nat=>rpS2 zs neg r j) (fun j=>j<=r.length ∧ ∀ x∈r.take j,x≠32) (fun j=>r.length-j) 0 ⟨E7 _,fun x hx=>by simp at hx⟩
  ⟨rfl,⟨E6,E6,E6,E6,D3⟩,D3,⟨rfl,D3⟩,rfl⟩ ?_
 rintro j ⟨hj,hno⟩
 unfold rpS2
 have hjn:((j:Nat):Int).toNat=j:=H1 j
 rcases D5 j r.length with h|h
 rotate_left
 . -- the last term
   have t1:decide ((j:Int)<(r.length:Int))=false:=A7 (by omega)
   obtain rfl:j=r.length:=by omega
   rw[I2]at hno
   have hcb:=OG hno
   have eB:BL 32 r=false:=by rw[BL,hcb];rfl
   have eT:R0 32 r=r:=by rw[R0,hcb]
   have hT:r.take ((r.length:Int)).toNat=r:=by rw[hjn,I2]
   have hD:r.drop ((r.length:Int)).toNat=[]:=by rw[hjn,List.drop_length]
   have hle:(r.length:Int)<=r.length:=Int.le_refl _
   have k2:=QF r (by omega)
   have htm:=NO r
   have hln2:zs.length<=65536:=by omega
   have hrl:r.length<=65536:=by omega
   obtain⟨n,hn⟩:∃ n:Int,n=(r.length:Int):=⟨_,rfl⟩
   rw[<-hn]at hT hD ⊢
   clear hle t1
   have hn0:0<=n:=by omega
   have t1:decide (n<(r.length:Int))=false:=A7 (by omega)
   obtain⟨⟨⟨c0,c1⟩,ok⟩,hc⟩:∃ q,q=Pt r:=⟨_,rfl⟩
   rw[<-hc]at k2 htm
   clear hc hno hj hcb h
   have hle:n<=(r.length:Int):=by omega
   cases ok with
   | false=>
    rw[B5 (by simp)]at htm
    have hts:AW (neg,R0 32 r)=none:=by rw[eT,AW,htm];rfl
    rw[Bu,GO hts]at hfin
    cases hfin
    refine B2 (D7 (B6 C (B6 C (N3 C (yB C C C C (B6 C ?_))))));rw[t1];refine yO C (yO C (yO C (yO C (K9 C C (yQ (D8 C (F9 (D7 (B6 C ?_)))))))));refine B6 C (W6 hn0 hle hT C C (yC (k2) C C (N9 C (yX C C (yX C C (yZ (cs:=[_,_]) C C (yS (cs':=[_,_]) C C C C C (H3 C (yQ ?_)))))))));refine B2 (D7 (B6 C (yU C C C (yQ (G2 C (D7 (H3 C (H3 C (yQ ?_)))))))));refine C4 (A5 (C3 (A5 (C3 (A5 ?_)))))
    exact J5 _ (.tnil 2 C (.tmp C .nil)) C
   | true=>
   rw[B9 rfl]at htm
   cases neg with
   | false=>
    have hts:AW (false,R0 32 r)=some (c0,c1):=by rw[eT,AW,htm];rfl
    rw[Ny eB hts]at hfin
    have hzl:(zs++[(c0,c1)]).length<=65537:=by simp;omega
    have hz2:∀ c∈zs++[(c0,c1)],Cu c.2=true∧c.2.length<=70000:=fun c hc=>by
     rcases List.mem_append.1 hc with h1|h1
     . exact hzs c h1
     . rw[List.mem_singleton.1 h1]
       have h5:=Bm hts
       rw[eT]at h5
       exact⟨Fy hts,by have:=h5.2;simp only at this ⊢;omega⟩
    unfold Dj at hfin
    rw[B9 (by rfl),List.filterMap_nil,List.append_nil]at hfin
    by_cases h16:16<(zs++[(c0,c1)]).length
    . have t5:decide ((((zs++[(c0,c1)]).map dCf).length:Int) > 16)=true:=B0 (by rw[A8];omega)
      rw[B9 h16]at hfin
      cases hfin
      refine B2 (D7 (B6 C (B6 C (N3 C (yB C C C C (B6 C ?_))))));rw[t1];refine yO C (yO C (yO C (yO C (K9 C C (yQ (D8 C (F9 (D7 (B6 C ?_)))))))));refine B6 C (W6 hn0 hle hT C C (yC (k2) C C (N9 C (yX C C (yX C C (yZ (cs:=[_,_]) C C (yS (cs':=[_,_]) C C C C C (H3 C (yQ ?_)))))))));refine B2 (D7 (B6 C (yU C C C (yQ (D8 C (B1 (B2 (D7 (B6 C ?_)))))))));refine yQ (D8 C (B1 (D7 (CM C (Ae (ys:=[_,_]) C C C C ?_)))));refine yR (es:=[[_,_]]) C C C C C ?_;refine yT (es':=(zs++[(c0,c1)]).map dCf) (m:=((zs++[(c0,c1)]).map dCf).length) (by simp;omega) (by simp;omega) C C C C C (by simp) (by simp) ?_;refine DX C (yQ (D7 (B6 C (B6 C (V3 hn0 hle hD C C (H3 C (yQ (B2 (D7 ?_)))))))));refine B6 C (N6 C C (yQ (G2 C (F9 (B2 (D7 (CM C (yN C (yB C C C C ?_)))))))));refine yQ (B3 ?_);rw[t5]
      refine G2 C (D7 (H3 C (H3 C (yQ (C4 (A5 ?_))))))
      exact J5 _ (.tnil 2 C (.tmp C .nil)) C
    . have t5:decide ((((zs++[(c0,c1)]).map dCf).length:Int) > 16)=false:=A7 (by rw[A8];omega)
      have k4:=Ec (zs++[(c0,c1)]) (by omega) (fun c hc=>(hz2 c hc).2)
      rw[Qw (fun c hc=>(hz2 c hc).1)]at k4
      rw[B5 h16]at hfin
      obtain⟨hE1,hR1⟩:=Eb hfin
      subst hE1
      rw[hR1]at k4
      refine B2 (D7 (B6 C (B6 C (N3 C (yB C C C C (B6 C ?_))))));rw[t1];refine yO C (yO C (yO C (yO C (K9 C C (yQ (D8 C (F9 (D7 (B6 C ?_)))))))));refine B6 C (W6 hn0 hle hT C C (yC (k2) C C (N9 C (yX C C (yX C C (yZ (cs:=[_,_]) C C (yS (cs':=[_,_]) C C C C C (H3 C (yQ ?_)))))))));refine B2 (D7 (B6 C (yU C C C (yQ (D8 C (B1 (B2 (D7 (B6 C ?_)))))))));refine yQ (D8 C (B1 (D7 (CM C (Ae (ys:=[_,_]) C C C C ?_)))));refine yR (es:=[[_,_]]) C C C C C ?_;refine yT (es':=(zs++[(c0,c1)]).map dCf) (m:=((zs++[(c0,c1)]).map dCf).length) (by simp;omega) (by simp;omega) C C C C C (by simp) (by simp) ?_;refine DX C (yQ (D7 (B6 C (B6 C (V3 hn0 hle hD C C (H3 C (yQ (B2 (D7 ?_)))))))));refine B6 C (N6 C C (yQ (G2 C (F9 (B2 (D7 (CM C (yN C (yB C C C C ?_)))))))));refine yQ (B3 ?_);rw[t5]
      refine D8 C (B1 (D7 (CM C (yC (k4) C C (H3 C (H3 C (yQ (C4 ?_))))))))
      exact Y7 C C C
   | true=>
    have k3:=QK c1 (by have:=(Fz htm).2;simp only at this;omega)
    obtain⟨q,hq⟩:=H8 (J3 (- val c1))
    rw[<-hq]at k3
    have hts:AW (true,R0 32 r)=some (c0,q):=by rw[eT,AW,htm,hq];rfl
    rw[Ny eB hts]at hfin
    have hzl:(zs++[(c0,q)]).length<=65537:=by simp;omega
    have hz2:∀ c∈zs++[(c0,q)],Cu c.2=true∧c.2.length<=70000:=fun c hc=>by
     rcases List.mem_append.1 hc with h1|h1
     . exact hzs c h1
     . rw[List.mem_singleton.1 h1]
       have h5:=Bm hts
       rw[eT]at h5
       exact⟨Fy hts,by have:=h5.2;simp only at this ⊢;omega⟩
    unfold Dj at hfin
    rw[B9 (by rfl),List.filterMap_nil,List.append_nil]at hfin
    clear hq
    by_cases h16:16<(zs++[(c0,q)]).length
    . have t5:decide ((((zs++[(c0,q)]).map dCf).length:Int) > 16)=true:=B0 (by rw[A8];omega)
      rw[B9 h16]at hfin
      cases hfin
      refine B2 (D7 (B6 C (B6 C (N3 C (yB C C C C (B6 C ?_))))));rw[t1];refine yO C (yO C (yO C (yO C (K9 C C (yQ (D8 C (F9 (D7 (B6 C ?_)))))))));refine B6 C (W6 hn0 hle hT C C (yC (k2) C C (N9 C (yX C C (yX C C (yZ (cs:=[_,_]) C C (yS (cs':=[_,_]) C C C C C (H3 C (yQ ?_)))))))));refine B2 (D7 (B6 C (yU C C C (yQ (D8 C (B1 (B2 (D7 (B6 C ?_)))))))));refine yQ (G2 C (B4 (X9 C (AL C C C (yC (k3) C C (X9 C (X8 (cs':=[_,_]) C C C C (yQ (D7 ?_)))))))));refine CM C (Ae (ys:=[_,_]) C C C C ?_);refine yR (es:=[[_,_]]) C C C C C ?_;refine yT (es':=(zs++[(c0,q)]).map dCf) (m:=((zs++[(c0,q)]).map dCf).length) (by simp;omega) (by simp;omega) C C C C C (by simp) (by simp) ?_;refine DX C (yQ (D7 (B6 C (B6 C (V3 hn0 hle hD C C (H3 C (yQ (B2 (D7 ?_)))))))));refine B6 C (N6 C C (yQ (G2 C (F9 (B2 (D7 (CM C (yN C (yB C C C C ?_)))))))));refine yQ (B3 ?_);rw[t5]
      refine G2 C (D7 (H3 C (H3 C (yQ (C4 (A5 ?_))))))
      exact J5 _ (.tnil 2 C (.tmp C .nil)) C
    . have t5:decide ((((zs++[(c0,q)]).map dCf).length:Int) > 16)=false:=A7 (by rw[A8];omega)
      have k4:=Ec (zs++[(c0,q)]) (by omega) (fun c hc=>(hz2 c hc).2)
      rw[Qw (fun c hc=>(hz2 c hc).1)]at k4
      rw[B5 h16]at hfin
      obtain⟨hE1,hR1⟩:=Eb hfin
      subst hE1
      rw[hR1]at k4
      refine B2 (D7 (B6 C (B6 C (N3 C (yB C C C C (B6 C ?_))))));rw[t1];refine yO C (yO C (yO C (yO C (K9 C C (yQ (D8 C (F9 (D7 (B6 C ?_)))))))));refine B6 C (W6 hn0 hle hT C C (yC (k2) C C (N9 C (yX C C (yX C C (yZ (cs:=[_,_]) C C (yS (cs':=[_,_]) C C C C C (H3 C (yQ ?_)))))))));refine B2 (D7 (B6 C (yU C C C (yQ (D8 C (B1 (B2 (D7 (B6 C ?_)))))))));refine yQ (G2 C (B4 (X9 C (AL C C C (yC (k3) C C (X9 C (X8 (cs':=[_,_]) C C C C (yQ (D7 ?_)))))))));refine CM C (Ae (ys:=[_,_]) C C C C ?_);refine yR (es:=[[_,_]]) C C C C C ?_;refine yT (es':=(zs++[(c0,q)]).map dCf) (m:=((zs++[(c0,q)]).map dCf).length) (by simp;omega) (by simp;omega) C C C C C (by simp) (by simp) ?_;refine DX C (yQ (D7 (B6 C (B6 C (V3 hn0 hle hD C C (H3 C (yQ (B2 (D7 ?_)))))))));refine B6 C (N6 C C (yQ (G2 C (F9 (B2 (D7 (CM C (yN C (yB C C C C ?_)))))))));refine yQ (B3 ?_);rw[t5]
      refine D8 C (B1 (D7 (CM C (yC (k4) C C (H3 C (H3 C (yQ (C4 ?_))))))))
      exact Y7 C C C
 have t1:decide ((j:Int)<(r.length:Int))=true:=B0 (by omega)
 obtain⟨x,hx⟩:=DJ h
 have hxj:r[((j:Nat):Int).toNat]? = some x:=by rw[hjn];exact hx
 have hwj:=I8 ((j:Int)+1) (by omega)
 by_cases h32:x=32
 rotate_left
 . have t2:(!((x.toNat:Int)==32))=true:=by
    have:((x.toNat:Int)==32)=false:=G9 fun h=>h32 (UInt8.toNat_inj.1 (by have:(32:UInt8).toNat=32:=rfl;omega))
    rw[this];rfl
   have t2':((x.toNat:Int) != 32)=true:=t2
   have hn2:=NJ hno hx h32
   refine B2 (D7 (B6 C (B6 C (N3 C (yB C C C C (B6 C ?_))))));rw[t1];refine B6 C (B6 C (U9 hxj (by omega) C C (yB C C C C (L0 C C (yQ (B3 ?_))))));rw[t2'];refine G2 C (B1 (B7 (B4 (B6 C (yB C C C C (H3 C (yQ (BA (B3 ?_)))))))))
   exact⟨j+1,⟨by omega,hn2⟩,by omega,rfl,⟨E6,E6,E6,P2 hwj,D3⟩,D3,⟨rfl,D3⟩,rfl⟩
 subst h32
 have t2:(!(((32:UInt8).toNat:Int)==32))=false:=rfl
 have t2':(((32:UInt8).toNat:Int) != 32)=false:=rfl
 have hcb:=OH hno hx
 have eB:BL 32 r=true:=by rw[BL,hcb];rfl
 obtain⟨T,eT⟩:=H8 (R0 32 r)
 obtain⟨S,eR⟩:=H8 (P7 32 r)
 have eT2:T=r.take j:=by rw[eT,R0,hcb]
 have eR2:S=r.drop (j+1):=by rw[eR,P7,hcb]
 have hT:r.take ((j:Int)).toNat=T:=by rw[hjn,eT2]
 have hD:r.drop ((j:Int)).toNat=32::S:=by
  obtain⟨q1,q2⟩:=A6.1 hx
  rw[hjn,eR2,I5 q1,q2]
 have hTl:T.length<=65536:=by rw[eT2,F4];omega
 have hSl:S.length+1<=r.length:=by rw[eR2,M7];omega
 have k2:=QF T (by omega)
 have htm:=NO T
 have hle:(j:Int)<=r.length:=by omega
 obtain⟨⟨⟨c0,c1⟩,ok⟩,hc⟩:∃ q,q=Pt T:=⟨_,rfl⟩
 rw[<-hc]at k2 htm
 obtain⟨n,hn⟩:∃ n:Int,n=(j:Int):=⟨_,rfl⟩
 rw[<-hn]at t1 hxj hT hD hle ⊢
 have hn0:0<=n:=by omega
 clear hc hno hcb eT2 eR2 hx hj hjn hwj hn
 cases ok with
 | false=>
  rw[B5 (by simp)]at htm
  have hts:AW (neg,R0 32 r)=none:=by rw[<-eT,AW,htm];rfl
  rw[Bu,GO hts]at hfin
  cases hfin
  refine B2 (D7 (B6 C (B6 C (N3 C (yB C C C C (B6 C ?_))))));rw[t1];refine B6 C (B6 C (U9 hxj hn0 C C (yB C C C C (L0 C C (yQ (D8 C (F9 (D7 (B6 C ?_)))))))));refine B6 C (W6 hn0 hle hT C C (yC (k2) C C (N9 C (yX C C (yX C C (yZ (cs:=[_,_]) C C (yS (cs':=[_,_]) C C C C C (H3 C (yQ ?_)))))))));refine B2 (D7 (B6 C (yU C C C (yQ (G2 C (D7 (H3 C (H3 C (yQ ?_)))))))));refine C4 (A5 (C3 (A5 (C3 (A5 ?_)))));rw[t2']
  exact J5 _ (.tnil 2 C (.tmp C .nil)) C
 | true=>
 rw[B9 rfl]at htm
 have u0:((32::S:F6)==[])=false:=rfl
 cases neg with
 | false=>
  have hts:AW (false,R0 32 r)=some (c0,c1):=by rw[<-eT,AW,htm];rfl
  have hz2:∀ c∈zs++[(c0,c1)],Cu c.2=true∧c.2.length<=70000:=fun c hc=>by
   rcases List.mem_append.1 hc with h1|h1
   . exact hzs c h1
   . rw[List.mem_singleton.1 h1]
     have h5:=Bm hts
     rw[<-eT]at h5
     exact⟨Fy hts,by have:=h5.2;simp only at this ⊢;omega⟩
  cases hS:S with
  | nil=>
   subst hS
   rw[DA eB (fun a X h=>by rw[<-eR]at h;cases h) hts]at hfin
   cases hfin
   have u1:decide (((([32]:F6).length:Nat):Int)<3)=true:=rfl
   refine B2 (D7 (B6 C (B6 C (N3 C (yB C C C C (B6 C ?_))))));rw[t1];refine B6 C (B6 C (U9 hxj hn0 C C (yB C C C C (L0 C C (yQ (D8 C (F9 (D7 (B6 C ?_)))))))));refine B6 C (W6 hn0 hle hT C C (yC (k2) C C (N9 C (yX C C (yX C C (yZ (cs:=[_,_]) C C (yS (cs':=[_,_]) C C C C C (H3 C (yQ ?_)))))))));refine B2 (D7 (B6 C (yU C C C (yQ (D8 C (B1 (B2 (D7 (B6 C ?_)))))))));refine yQ (D8 C (B1 (D7 (CM C (Ae (ys:=[_,_]) C C C C ?_)))));refine yR (es:=[[_,_]]) C C C C C ?_;refine yT (es':=(zs++[(c0,c1)]).map dCf) (m:=((zs++[(c0,c1)]).map dCf).length) (by simp;omega) (by simp;omega) C C C C C (by simp) (by simp) ?_;refine DX C (yQ (D7 (B6 C (B6 C (V3 hn0 hle hD C C (H3 C (yQ (B2 (D7 ?_)))))))));refine B6 C (N6 C C (yQ (D8 C (B1 (B2 (D7 (B6 C (N3 C (yB C C C C ?_)))))))));refine B6 C (yO C (yO C (yO C (yO C (yO C (yO C (yO C (yO C (L0 C C ?_)))))))));refine yQ (G2 C (D7 (H3 C (H3 C (yQ (C4 (A5 (C3 (A5 ?_)))))))));refine C3 (A5 ?_);rw[t2'];rw[u0];rw[u1]
   exact J5 _ (.tnil 2 C (.tmp C .nil)) C
  | cons a S1=>
  cases hS1:S1 with
  | nil=>
   subst hS1
   subst hS
   rw[DA eB (fun a X h=>by rw[<-eR]at h;cases h) hts]at hfin
   cases hfin
   have u1:decide (((([32,a]:F6).length:Nat):Int)<3)=true:=rfl
   refine B2 (D7 (B6 C (B6 C (N3 C (yB C C C C (B6 C ?_))))));rw[t1];refine B6 C (B6 C (U9 hxj hn0 C C (yB C C C C (L0 C C (yQ (D8 C (F9 (D7 (B6 C ?_)))))))));refine B6 C (W6 hn0 hle hT C C (yC (k2) C C (N9 C (yX C C (yX C C (yZ (cs:=[_,_]) C C (yS (cs':=[_,_]) C C C C C (H3 C (yQ ?_)))))))));refine B2 (D7 (B6 C (yU C C C (yQ (D8 C (B1 (B2 (D7 (B6 C ?_)))))))));refine yQ (D8 C (B1 (D7 (CM C (Ae (ys:=[_,_]) C C C C ?_)))));refine yR (es:=[[_,_]]) C C C C C ?_;refine yT (es':=(zs++[(c0,c1)]).map dCf) (m:=((zs++[(c0,c1)]).map dCf).length) (by simp;omega) (by simp;omega) C C C C C (by simp) (by simp) ?_;refine DX C (yQ (D7 (B6 C (B6 C (V3 hn0 hle hD C C (H3 C (yQ (B2 (D7 ?_)))))))));refine B6 C (N6 C C (yQ (D8 C (B1 (B2 (D7 (B6 C (N3 C (yB C C C C ?_)))))))));refine B6 C (yO C (yO C (yO C (yO C (yO C (yO C (yO C (yO C (L0 C C ?_)))))))));refine yQ (G2 C (D7 (H3 C (H3 C (yQ (C4 (A5 (C3 (A5 ?_)))))))));refine C3 (A5 ?_);rw[t2'];rw[u0];rw[u1]
   exact J5 _ (.tnil 2 C (.tmp C .nil)) C
  | cons b X=>
  subst hS1
  subst hS
  have u1:decide ((((32::a::b::X:F6).length:Nat):Int)<3)=false:=A7 (by simp only[List.length_cons];omega)
  have h3:(32::a::b::X:F6).take ((3:Int)).toNat=[32,a,b]:=rfl
  have h3d:(32::a::b::X:F6).drop ((3:Int)).toNat=X:=rfl
  have h3l:(3:Int)<=((32::a::b::X:F6).length:Int):=by simp only[List.length_cons];omega
  have h1a:(32::a::b::X:F6)[((1:Int)).toNat]? = some a:=rfl
  have hXl:X.length+3<=r.length:=by simp only[List.length_cons]at hSl;omega
  by_cases hg:b=32∧(a=43∨a=45)
  . obtain⟨rfl,hg⟩:=hg
    rw[LC eB eR.symm hg hts]at hfin
    have hln2:(zs++[(c0,c1)]).length+X.length<=65536:=by rw[C9];simp only[List.length_cons,List.length_nil];omega
    clear eR
    rcases hg with rfl|rfl
    . obtain⟨Y,hY⟩:=H8 ((32::43::32::X:F6))
      rw[<-hY]at u0 u1 h3 h3d h3l h1a hD
      clear hY
      refine B2 (D7 (B6 C (B6 C (N3 C (yB C C C C (B6 C ?_))))));rw[t1];refine B6 C (B6 C (U9 hxj hn0 C C (yB C C C C (L0 C C (yQ (D8 C (F9 (D7 (B6 C ?_)))))))));refine B6 C (W6 hn0 hle hT C C (yC (k2) C C (N9 C (yX C C (yX C C (yZ (cs:=[_,_]) C C (yS (cs':=[_,_]) C C C C C (H3 C (yQ ?_)))))))));refine B2 (D7 (B6 C (yU C C C (yQ (D8 C (B1 (B2 (D7 (B6 C ?_)))))))));refine yQ (D8 C (B1 (D7 (CM C (Ae (ys:=[_,_]) C C C C ?_)))));refine yR (es:=[[_,_]]) C C C C C ?_;refine yT (es':=(zs++[(c0,c1)]).map dCf) (m:=((zs++[(c0,c1)]).map dCf).length) (by simp;omega) (by simp;omega) C C C C C (by simp) (by simp) ?_;refine DX C (yQ (D7 (B6 C (B6 C (V3 hn0 hle hD C C (H3 C (yQ (B2 (D7 ?_)))))))));refine B6 C (N6 C C (yQ (B3 ?_)));rw[t2'];rw[u0];refine D8 C (B1 (B2 (D7 (B6 C (N3 C (yB C C C C (B6 C ?_)))))));rw[u1];refine B6 C (W6 (by omega) h3l h3 C C (L8 C C (B6 C (yO C (yO C (yO C (K9 C C (K9 C C (yQ ?_)))))))));refine D8 C (B1 ?_);refine J2 Tryz.mixed (by kernel_rfl) ?_;refine B6 C (V3 (by omega) h3l h3d C C (B6 C (U9 h1a (by omega) C C (yB C C C C (H3 C (H3 C (yQ (BA (B3 ?_)))))))))
      exact⟨(zs++[(c0,c1)],false,X),⟨hln2,hz2,hfin⟩,by simp only;omega,rfl,⟨E6,E6,E6,D3⟩,D3,⟨rfl,D3⟩,rfl⟩
    . obtain⟨Y,hY⟩:=H8 ((32::45::32::X:F6))
      rw[<-hY]at u0 u1 h3 h3d h3l h1a hD
      clear hY
      refine B2 (D7 (B6 C (B6 C (N3 C (yB C C C C (B6 C ?_))))));rw[t1];refine B6 C (B6 C (U9 hxj hn0 C C (yB C C C C (L0 C C (yQ (D8 C (F9 (D7 (B6 C ?_)))))))));refine B6 C (W6 hn0 hle hT C C (yC (k2) C C (N9 C (yX C C (yX C C (yZ (cs:=[_,_]) C C (yS (cs':=[_,_]) C C C C C (H3 C (yQ ?_)))))))));refine B2 (D7 (B6 C (yU C C C (yQ (D8 C (B1 (B2 (D7 (B6 C ?_)))))))));refine yQ (D8 C (B1 (D7 (CM C (Ae (ys:=[_,_]) C C C C ?_)))));refine yR (es:=[[_,_]]) C C C C C ?_;refine yT (es':=(zs++[(c0,c1)]).map dCf) (m:=((zs++[(c0,c1)]).map dCf).length) (by simp;omega) (by simp;omega) C C C C C (by simp) (by simp) ?_;refine DX C (yQ (D7 (B6 C (B6 C (V3 hn0 hle hD C C (H3 C (yQ (B2 (D7 ?_)))))))));refine B6 C (N6 C C (yQ (B3 ?_)));rw[t2'];rw[u0];refine D8 C (B1 (B2 (D7 (B6 C (N3 C (yB C C C C (B6 C ?_)))))));rw[u1];refine B6 C (W6 (by omega) h3l h3 C C (L8 C C (B6 C (B6 C (W6 (by omega) h3l h3 C C (L8 C C (L0 C C (K9 C C (yQ ?_)))))))));refine D8 C (B1 ?_);refine J2 Tryz.mixed (by kernel_rfl) ?_;refine B6 C (V3 (by omega) h3l h3d C C (B6 C (U9 h1a (by omega) C C (yB C C C C (H3 C (H3 C (yQ (BA (B3 ?_)))))))))
      exact⟨(zs++[(c0,c1)],true,X),⟨hln2,hz2,hfin⟩,by simp only;omega,rfl,⟨E6,E6,E6,D3⟩,D3,⟨rfl,D3⟩,rfl⟩
  . rw[DA eB (fun a' X' h h2=>by rw[<-eR]at h;cases h;exact hg ⟨rfl,h2⟩) hts]at hfin
    cases hfin
    have v1:(!(([32,a,b]:F6)==[32,43,32]))=true:=by
     rw[Bool.not_eq_true',beq_eq_false_iff_ne]
     intro e
     cases e
     exact hg ⟨rfl,.inl C⟩
    have v2:(!(([32,a,b]:F6)==[32,45,32]))=true:=by
     rw[Bool.not_eq_true',beq_eq_false_iff_ne]
     intro e
     cases e
     exact hg ⟨rfl,.inr C⟩
    obtain⟨Y,hY⟩:=H8 ((32::a::b::X:F6))
    rw[<-hY]at u0 u1 h3 h3d h3l h1a hD
    clear hY
    refine B2 (D7 (B6 C (B6 C (N3 C (yB C C C C (B6 C ?_))))));rw[t1];refine B6 C (B6 C (U9 hxj hn0 C C (yB C C C C (L0 C C (yQ (D8 C (F9 (D7 (B6 C ?_)))))))));refine B6 C (W6 hn0 hle hT C C (yC (k2) C C (N9 C (yX C C (yX C C (yZ (cs:=[_,_]) C C (yS (cs':=[_,_]) C C C C C (H3 C (yQ ?_)))))))));refine B2 (D7 (B6 C (yU C C C (yQ (D8 C (B1 (B2 (D7 (B6 C ?_)))))))));refine yQ (D8 C (B1 (D7 (CM C (Ae (ys:=[_,_]) C C C C ?_)))));refine yR (es:=[[_,_]]) C C C C C ?_;refine yT (es':=(zs++[(c0,c1)]).map dCf) (m:=((zs++[(c0,c1)]).map dCf).length) (by simp;omega) (by simp;omega) C C C C C (by simp) (by simp) ?_;refine DX C (yQ (D7 (B6 C (B6 C (V3 hn0 hle hD C C (H3 C (yQ (B2 (D7 ?_)))))))));refine B6 C (N6 C C (yQ (B3 ?_)));rw[t2'];rw[u0];refine D8 C (B1 (B2 (D7 (B6 C (N3 C (yB C C C C (B6 C ?_)))))));rw[u1];refine B6 C (W6 (by omega) h3l h3 C C (L8 C C (B6 C ?_)));rw[v1];refine B6 C (W6 (by omega) h3l h3 C C (L8 C C (L0 C C (K9 C C (yQ (B3 ?_))))));rw[v2];refine G2 C (D7 (H3 C (H3 C (yQ (C4 (A5 (C3 (A5 (C3 ?_)))))))));refine A5 ?_
    exact J5 _ (.tnil 2 C (.tmp C .nil)) C
 | true=>
  have k3:=QK c1 (by have:=(Fz htm).2;simp only at this;omega)
  obtain⟨q,hq⟩:=H8 (J3 (- val c1))
  rw[<-hq]at k3
  have hts:AW (true,R0 32 r)=some (c0,q):=by rw[<-eT,AW,htm,hq];rfl
  have hz2:∀ c∈zs++[(c0,q)],Cu c.2=true∧c.2.length<=70000:=fun c hc=>by
   rcases List.mem_append.1 hc with h1|h1
   . exact hzs c h1
   . rw[List.mem_singleton.1 h1]
     have h5:=Bm hts
     rw[<-eT]at h5
     exact⟨Fy hts,by have:=h5.2;simp only at this ⊢;omega⟩
  clear hq
  cases hS:S with
  | nil=>
   subst hS
   rw[DA eB (fun a X h=>by rw[<-eR]at h;cases h) hts]at hfin
   cases hfin
   have u1:decide (((([32]:F6).length:Nat):Int)<3)=true:=rfl
   refine B2 (D7 (B6 C (B6 C (N3 C (yB C C C C (B6 C ?_))))));rw[t1];refine B6 C (B6 C (U9 hxj hn0 C C (yB C C C C (L0 C C (yQ (D8 C (F9 (D7 (B6 C ?_)))))))));refine B6 C (W6 hn0 hle hT C C (yC (k2) C C (N9 C (yX C C (yX C C (yZ (cs:=[_,_]) C C (yS (cs':=[_,_]) C C C C C (H3 C (yQ ?_)))))))));refine B2 (D7 (B6 C (yU C C C (yQ (D8 C (B1 (B2 (D7 (B6 C ?_)))))))));refine yQ (G2 C (B4 (X9 C (AL C C C (yC (k3) C C (X9 C (X8 (cs':=[_,_]) C C C C (yQ (D7 ?_)))))))));refine CM C (Ae (ys:=[_,_]) C C C C ?_);refine yR (es:=[[_,_]]) C C C C C ?_;refine yT (es':=(zs++[(c0,q)]).map dCf) (m:=((zs++[(c0,q)]).map dCf).length) (by simp;omega) (by simp;omega) C C C C C (by simp) (by simp) ?_;refine DX C (yQ (D7 (B6 C (B6 C (V3 hn0 hle hD C C (H3 C (yQ (B2 (D7 ?_)))))))));refine B6 C (N6 C C (yQ (D8 C (B1 (B2 (D7 (B6 C (N3 C (yB C C C C ?_)))))))));refine B6 C (yO C (yO C (yO C (yO C (yO C (yO C (yO C (yO C (L0 C C ?_)))))))));refine yQ (G2 C (D7 (H3 C (H3 C (yQ (C4 (A5 (C3 (A5 ?_)))))))));refine C3 (A5 ?_);rw[t2'];rw[u0];rw[u1]
   exact J5 _ (.tnil 2 C (.tmp C .nil)) C
  | cons a S1=>
  cases hS1:S1 with
  | nil=>
   subst hS1
   subst hS
   rw[DA eB (fun a X h=>by rw[<-eR]at h;cases h) hts]at hfin
   cases hfin
   have u1:decide (((([32,a]:F6).length:Nat):Int)<3)=true:=rfl
   refine B2 (D7 (B6 C (B6 C (N3 C (yB C C C C (B6 C ?_))))));rw[t1];refine B6 C (B6 C (U9 hxj hn0 C C (yB C C C C (L0 C C (yQ (D8 C (F9 (D7 (B6 C ?_)))))))));refine B6 C (W6 hn0 hle hT C C (yC (k2) C C (N9 C (yX C C (yX C C (yZ (cs:=[_,_]) C C (yS (cs':=[_,_]) C C C C C (H3 C (yQ ?_)))))))));refine B2 (D7 (B6 C (yU C C C (yQ (D8 C (B1 (B2 (D7 (B6 C ?_)))))))));refine yQ (G2 C (B4 (X9 C (AL C C C (yC (k3) C C (X9 C (X8 (cs':=[_,_]) C C C C (yQ (D7 ?_)))))))));refine CM C (Ae (ys:=[_,_]) C C C C ?_);refine yR (es:=[[_,_]]) C C C C C ?_;refine yT (es':=(zs++[(c0,q)]).map dCf) (m:=((zs++[(c0,q)]).map dCf).length) (by simp;omega) (by simp;omega) C C C C C (by simp) (by simp) ?_;refine DX C (yQ (D7 (B6 C (B6 C (V3 hn0 hle hD C C (H3 C (yQ (B2 (D7 ?_)))))))));refine B6 C (N6 C C (yQ (D8 C (B1 (B2 (D7 (B6 C (N3 C (yB C C C C ?_)))))))));refine B6 C (yO C (yO C (yO C (yO C (yO C (yO C (yO C (yO C (L0 C C ?_)))))))));refine yQ (G2 C (D7 (H3 C (H3 C (yQ (C4 (A5 (C3 (A5 ?_)))))))));refine C3 (A5 ?_);rw[t2'];rw[u0];rw[u1]
   exact J5 _ (.tnil 2 C (.tmp C .nil)) C
  | cons b X=>
  subst hS1
  subst hS
  have u1:decide ((((32::a::b::X:F6).length:Nat):Int)<3)=false:=A7 (by simp only[List.length_cons];omega)
  have h3:(32::a::b::X:F6).take ((3:Int)).toNat=[32,a,b]:=rfl
  have h3d:(32::a::b::X:F6).drop ((3:Int)).toNat=X:=rfl
  have h3l:(3:Int)<=((32::a::b::X:F6).length:Int):=by simp only[List.length_cons];omega
  have h1a:(32::a::b::X:F6)[((1:Int)).toNat]? = some a:=rfl
  have hXl:X.length+3<=r.length:=by simp only[List.length_cons]at hSl;omega
  by_cases hg:b=32∧(a=43∨a=45)
  . obtain⟨rfl,hg⟩:=hg
    rw[LC eB eR.symm hg hts]at hfin
    have hln2:(zs++[(c0,q)]).length+X.length<=65536:=by rw[C9];simp only[List.length_cons,List.length_nil];omega
    clear eR
    rcases hg with rfl|rfl
    . obtain⟨Y,hY⟩:=H8 ((32::43::32::X:F6))
      rw[<-hY]at u0 u1 h3 h3d h3l h1a hD
      clear hY
      refine B2 (D7 (B6 C (B6 C (N3 C (yB C C C C (B6 C ?_))))));rw[t1];refine B6 C (B6 C (U9 hxj hn0 C C (yB C C C C (L0 C C (yQ (D8 C (F9 (D7 (B6 C ?_)))))))));refine B6 C (W6 hn0 hle hT C C (yC (k2) C C (N9 C (yX C C (yX C C (yZ (cs:=[_,_]) C C (yS (cs':=[_,_]) C C C C C (H3 C (yQ ?_)))))))));refine B2 (D7 (B6 C (yU C C C (yQ (D8 C (B1 (B2 (D7 (B6 C ?_)))))))));refine yQ (G2 C (B4 (X9 C (AL C C C (yC (k3) C C (X9 C (X8 (cs':=[_,_]) C C C C (yQ (D7 ?_)))))))));refine CM C (Ae (ys:=[_,_]) C C C C ?_);refine yR (es:=[[_,_]]) C C C C C ?_;refine yT (es':=(zs++[(c0,q)]).map dCf) (m:=((zs++[(c0,q)]).map dCf).length) (by simp;omega) (by simp;omega) C C C C C (by simp) (by simp) ?_;refine DX C (yQ (D7 (B6 C (B6 C (V3 hn0 hle hD C C (H3 C (yQ (B2 (D7 ?_)))))))));refine B6 C (N6 C C (yQ (B3 ?_)));rw[t2'];rw[u0];refine D8 C (B1 (B2 (D7 (B6 C (N3 C (yB C C C C (B6 C ?_)))))));rw[u1];refine B6 C (W6 (by omega) h3l h3 C C (L8 C C (B6 C (yO C (yO C (yO C (K9 C C (K9 C C (yQ ?_)))))))));refine D8 C (B1 ?_);refine J2 Tryz.mixed (by kernel_rfl) ?_;refine B6 C (V3 (by omega) h3l h3d C C (B6 C (U9 h1a (by omega) C C (yB C C C C (H3 C (H3 C (yQ (BA (B3 ?_)))))))))
      exact⟨(zs++[(c0,q)],false,X),⟨hln2,hz2,hfin⟩,by simp only;omega,rfl,⟨E6,E6,E6,D3⟩,D3,⟨rfl,D3⟩,rfl⟩
    . obtain⟨Y,hY⟩:=H8 ((32::45::32::X:F6))
      rw[<-hY]at u0 u1 h3 h3d h3l h1a hD
      clear hY
      refine B2 (D7 (B6 C (B6 C (N3 C (yB C C C C (B6 C ?_))))));rw[t1];refine B6 C (B6 C (U9 hxj hn0 C C (yB C C C C (L0 C C (yQ (D8 C (F9 (D7 (B6 C ?_)))))))));refine B6 C (W6 hn0 hle hT C C (yC (k2) C C (N9 C (yX C C (yX C C (yZ (cs:=[_,_]) C C (yS (cs':=[_,_]) C C C C C (H3 C (yQ ?_)))))))));refine B2 (D7 (B6 C (yU C C C (yQ (D8 C (B1 (B2 (D7 (B6 C ?_)))))))));refine yQ (G2 C (B4 (X9 C (AL C C C (yC (k3) C C (X9 C (X8 (cs':=[_,_]) C C C C (yQ (D7 ?_)))))))));refine CM C (Ae (ys:=[_,_]) C C C C ?_);refine yR (es:=[[_,_]]) C C C C C ?_;refine yT (es':=(zs++[(c0,q)]).map dCf) (m:=((zs++[(c0,q)]).map dCf).length) (by simp;omega) (by simp;omega) C C C C C (by simp) (by simp) ?_;refine DX C (yQ (D7 (B6 C (B6 C (V3 hn0 hle hD C C (H3 C (yQ (B2 (D7 ?_)))))))));refine B6 C (N6 C C (yQ (B3 ?_)));rw[t2'];rw[u0];refine D8 C (B1 (B2 (D7 (B6 C (N3 C (yB C C C C (B6 C ?_)))))));rw[u1];refine B6 C (W6 (by omega) h3l h3 C C (L8 C C (B6 C (B6 C (W6 (by omega) h3l h3 C C (L8 C C (L0 C C (K9 C C (yQ ?_)))))))));refine D8 C (B1 ?_);refine J2 Tryz.mixed (by kernel_rfl) ?_;refine B6 C (V3 (by omega) h3l h3d C C (B6 C (U9 h1a (by omega) C C (yB C C C C (H3 C (H3 C (yQ (BA (B3 ?_)))))))))
      exact⟨(zs++[(c0,q)],true,X),⟨hln2,hz2,hfin⟩,by simp only;omega,rfl,⟨E6,E6,E6,D3⟩,D3,⟨rfl,D3⟩,rfl⟩
  . rw[DA eB (fun a' X' h h2=>by rw[<-eR]at h;cases h;exact hg ⟨rfl,h2⟩) hts]at hfin
    cases hfin
    have v1:(!(([32,a,b]:F6)==[32,43,32]))=true:=by
     rw[Bool.not_eq_true',beq_eq_false_iff_ne]
     intro e
     cases e
     exact hg ⟨rfl,.inl C⟩
    have v2:(!(([32,a,b]:F6)==[32,45,32]))=true:=by
     rw[Bool.not_eq_true',beq_eq_false_iff_ne]
     intro e
     cases e
     exact hg ⟨rfl,.inr C⟩
    obtain⟨Y,hY⟩:=H8 ((32::a::b::X:F6))
    rw[<-hY]at u0 u1 h3 h3d h3l h1a hD
    clear hY
    refine B2 (D7 (B6 C (B6 C (N3 C (yB C C C C (B6 C ?_))))));rw[t1];refine B6 C (B6 C (U9 hxj hn0 C C (yB C C C C (L0 C C (yQ (D8 C (F9 (D7 (B6 C ?_)))))))));refine B6 C (W6 hn0 hle hT C C (yC (k2) C C (N9 C (yX C C (yX C C (yZ (cs:=[_,_]) C C (yS (cs':=[_,_]) C C C C C (H3 C (yQ ?_)))))))));refine B2 (D7 (B6 C (yU C C C (yQ (D8 C (B1 (B2 (D7 (B6 C ?_)))))))));refine yQ (G2 C (B4 (X9 C (AL C C C (yC (k3) C C (X9 C (X8 (cs':=[_,_]) C C C C (yQ (D7 ?_)))))))));refine CM C (Ae (ys:=[_,_]) C C C C ?_);refine yR (es:=[[_,_]]) C C C C C ?_;refine yT (es':=(zs++[(c0,q)]).map dCf) (m:=((zs++[(c0,q)]).map dCf).length) (by simp;omega) (by simp;omega) C C C C C (by simp) (by simp) ?_;refine DX C (yQ (D7 (B6 C (B6 C (V3 hn0 hle hD C C (H3 C (yQ (B2 (D7 ?_)))))))));refine B6 C (N6 C C (yQ (B3 ?_)));rw[t2'];rw[u0];refine D8 C (B1 (B2 (D7 (B6 C (N3 C (yB C C C C (B6 C ?_)))))));rw[u1];refine B6 C (W6 (by omega) h3l h3 C C (L8 C C (B6 C ?_)));rw[v1];refine B6 C (W6 (by omega) h3l h3 C C (L8 C C (L0 C C (K9 C C (yQ (B3 ?_))))));rw[v2];refine G2 C (D7 (H3 C (H3 C (yQ (C4 (A5 (C3 (A5 (C3 ?_)))))))));refine A5 ?_
    exact J5 _ (.tnil 2 C (.tmp C .nil)) C
theorem NW {e:List Cf} (h:X0 e=0) (hf:∀ c∈e,c.2.length<=70000):(T9 e).length<=1200000:=by
 obtain⟨a1,a2⟩:=T7.1 h
 rw[T9,B9 h]
 split
 . simp
 . have h1:=JT (n:=nf e) (fun p hp=>by
    have q1:=GD hf (p:=p) hp
    obtain⟨c,hc,q2⟩:=GC hp
    have q3:=Cq (a2 c hc).1
    rw[<-q2]
    exact⟨by omega,q3⟩) (nf e).length
   have:=Ek e
   omega
theorem wWsFb (l s:List UInt8) (hl:l.length<=100000000000) (hs:s.length<=100000000) (h0:0<s.length):Jz Tryz.prog 88 [.tx 4 bT 2,.d (dS s)] [(4,[.d (.val (.pointer none)),.ts uT 1 (l.map dY)])] [(uT,(l.map dY).length)] (.tup [dI s.length,.val .nilIface]) [(4,[.tx 4 bT 2,.ts uT 1 ((l++s).map dY)])] [(uT,((l++s).map dY).length)]:=by
 refine P5 Tryz.func88 C Tryz.ntmps88 Tryz.results88 (by simp) fun B w0=>?_
 refine D7 (H3 C (H3 C (yQ (D7 (DI C ?_)))));refine CN (wCcF l) C ⟨rfl,D3⟩ ⟨rfl,D3⟩ ?_ (hfit:=by kernel_rfl)
 refine yQ (D7 (DI C (DI C (Hp C (X9 C (Ju C C C (B6 C ?_)))))));refine yTs (es2:=s.map dY) (es':=(l++s).map dY) (m:=((l++s).map dY).length) (by kernel_rfl) Tryz.underlying9 h0 C (by simp;omega) C C C C C (by simp) (by simp) ?_;refine Hp C (X9 C (Pr (cs':=[_,_]) C C C C (yQ (D7 (B6 C (N3 C (H3 C (H3 C (yQ ?_)))))))));refine C4 ?_
 exact q_x _ (.tmp C (.tmp C .nil)) C ⟨rfl,D3⟩ ⟨rfl,D3⟩
theorem Py (l s:List UInt8) (hl:l.length<=100000000000) (hs:s.length<=100000000) (h0:0<s.length):Jz Tryz.prog 88 [.tx 4 bT 2,.d (dS s)] [(4,[.tx 4 bT 2,.ts uT 1 (l.map dY)])] [(uT,(l.map dY).length)] (.tup [dI s.length,.val .nilIface]) [(4,[.tx 4 bT 2,.ts uT 1 ((l++s).map dY)])] [(uT,((l++s).map dY).length)]:=by
 refine P5 Tryz.func88 C Tryz.ntmps88 Tryz.results88 (by simp) fun B w0=>?_
 refine D7 (H3 C (H3 C (yQ (D7 (DI C ?_)))));refine CN (wCcU l) C ⟨rfl,D3⟩ ⟨rfl,D3⟩ ?_ (hfit:=by kernel_rfl)
 refine yQ (D7 (DI C (DI C (Hp C (X9 C (Ju C C C (B6 C ?_)))))));refine yTs (es2:=s.map dY) (es':=(l++s).map dY) (m:=((l++s).map dY).length) (by kernel_rfl) Tryz.underlying9 h0 C (by simp;omega) C C C C C (by simp) (by simp) ?_;refine Hp C (X9 C (Pr (cs':=[_,_]) C C C C (yQ (D7 (B6 C (N3 C (H3 C (H3 C (yQ ?_)))))))));refine C4 ?_
 exact q_x _ (.tmp C (.tmp C .nil)) C ⟨rfl,D3⟩ ⟨rfl,D3⟩
theorem wLenU (l:List UInt8):Jz Tryz.prog 90 [.bx 4 0] [(4,[.tx 4 bT 2,.ts uT 1 (l.map dY)])] [(uT,(l.map dY).length)] (.d (dI (l.map dY).length)) [(4,[.tx 4 bT 2,.ts uT 1 (l.map dY)])] [(uT,(l.map dY).length)]:=by
 refine P5 Tryz.func90 C Tryz.ntmps90 Tryz.results90 (by simp) fun B w0=>?_
 refine D7 (H3 C (yQ (D7 (yMb C (yNil C (X9 C (Ju C C C (yN C (H3 C ?_)))))))));refine yQ (C4 ?_)
 exact q_x _ (.tmp C .nil) C ⟨rfl,D3⟩ ⟨rfl,D3⟩
theorem wLenN:Jz Tryz.prog 90 [.bx 4 0] [(4,[.d (.val (.pointer none)),.d (.val (.slice none 0 0))])] [] (.d (dI 0)) [(4,[.d (.val (.pointer none)),.d (.val (.slice none 0 0))])] []:=by
 refine P5 Tryz.func90 C Tryz.ntmps90 Tryz.results90 (by simp) fun B w0=>?_
 refine D7 (H3 C (yQ (D7 (yMb C (yNil C (X9 C (AL C C C (yNl C (H3 C ?_)))))))));refine yQ (C4 ?_)
 exact q_x _ (.tmp C .nil) C ⟨rfl,D3⟩ trivial
abbrev bA4:Nat->SV
 | 0=>.d (.val (.pointer none))
 | _+1=>.tx 4 bT 2
abbrev Lv (l:List Ru):Int:=Hw (M0 I4) X0 T9 l
abbrev RP (l:List Ru):F6:=prnT (M0 I4) X0 T9 l
theorem Ia {ls:List Ln} {k:Nat} {l:Ln} (h:ls[k]? = some l):V5 T9 (ls.take (k+1))=V5 T9 (ls.take k)++(lnT T9 l++[10]):=by
 rw[H4,h]
 simp[V5]
theorem Gg {l:List Ru} {k:Nat} {r:Ru} (h:l[k]? = some r):P8 T9 (l.take (k+1))=P8 T9 (l.take k)++Lr T9 r:=by
 rw[H4,h]
 simp[P8]
theorem KX {l:List Ru} {k:Nat} {r:Ru} (h:l[k]? = some r):JN (M0 I4) X0 (l.drop k)=if Y8 r=0 then JN (M0 I4) X0 (l.drop (k+1))else Y8 r:=by
 obtain⟨h1,h2⟩:=A6.1 h
 rw[I5 h1,h2,JN]
theorem Nk (n:Int):(HQ n).length<=100:=by
 unfold HQ
 cases h:Z0 n with
 | none=>simp
 | some k=>
  have h2:∀ k∈kndL,k.2.1.length<=100:=by decide
  exact h2 k (BZ h).1
theorem QO (l:List Ru) (hl:l.length<=1000000) (hb:∀ r∈l,OK r):PCalls Tryz.prog 39 [P3 l] (.tup [dS (RP l),dI (Lv l)]):=by
 by_cases h1:64<l.length
 . have t1:decide (((l.map X6).length:Int) > 64)=true:=B0 (by rw[A8];omega)
   have e1:Lv l=4:=by rw[Lv,Hw,B9 h1]
   have e2:RP l=[]:=by rw[RP,prnT,B5 (show ¬ Hw (M0 I4) X0 T9 l=0 from fun h=>by rw[show Hw (M0 I4) X0 T9 l=4 from e1]at h;cases h)]
   rw[e1,e2]
   refine L5 Tryz.func39 C Tryz.ntmps39 Tryz.results39 fun B w0=>?_
   refine D7 (H3 C (H3 C (yQ (B2 (D7 (B6 C (yN C (yB C C C C (yQ ?_)))))))));refine B3 ?_;rw[t1];refine G2 C (D7 (H3 C (H3 C (yQ (C4 (A5 ?_))))))
   exact Y7 C C C
 have t1:decide (((l.map X6).length:Int) > 64)=false:=A7 (by rw[A8];omega)
 by_cases h0:l=[]
 . subst h0
   refine L5 Tryz.func39 C Tryz.ntmps39 Tryz.results39 fun B w0=>?_
   refine D7 (H3 C (H3 C (yQ (B2 (D7 (B6 C (yN C (yB C C C C (yQ ?_)))))))));refine D8 C (B1 (D7 (yQa C (yQ ?_))));refine IQ 4 C ?_;refine B2 (D7 (B6 C (yN C (B6 C (yQ (B7 ?_))))));rw[t1]
   refine H9 (fun _:Unit=>⟨67,[(4,.bx 4 0),(17,.d (dI 0)),(18,.d (dI 0))],[(4,[.d (.val (.pointer none)),.d (.val (.slice none 0 0))])],[]⟩) (fun _=>True) (fun _=>0) () trivial ⟨rfl,⟨E6,E6,E6,D3⟩,⟨⟨_,C,H5 _⟩,D3⟩,D3,C⟩ ?_
   rintro - -
   refine D7 (yB C C C C (yQ (B2 (D8 C (F9 (B2 (D7 ?_)))))));refine CN wLenN C ⟨rfl,D3⟩ trivial ?_ (hfit:=by kernel_rfl);refine yB C C C C (yQ (D8 C (B1 (D7 (yStr0 Tryz.bst EX C C C (H3 C (H3 C (yQ (C4 ?_)))))))))
   exact Y7 C C C
 have hpE:Lv l=if JN (M0 I4) X0 l≠0 then JN (M0 I4) X0 l else if 65536<(P8 T9 l).length then 4 else 0:=by rw[Lv,Hw,B5 h1]
 have hpT:RP l=if Lv l=0 then P8 T9 l else []:=rfl
 obtain⟨E,hE⟩:=H8 (Lv l)
 obtain⟨T,hT⟩:=H8 (RP l)
 rw[<-hE]at hpE hpT
 rw[<-hT]at hpT
 rw[<-hE,<-hT]
 clear hE hT
 refine L5 Tryz.func39 C Tryz.ntmps39 Tryz.results39 fun B w0=>?_
 refine D7 (H3 C (H3 C (yQ (B2 (D7 (B6 C (yN C (yB C C C C (yQ ?_)))))))));refine B3 ?_;rw[t1];refine D8 C (B1 (D7 (yQa C (yQ ?_))));refine Bp 4 1 uT 1 C C C C ?_;refine B2 (D7 (B6 C (yN C (B6 C (yQ (B7 ?_))))));refine H9 (fun i:Nat=>⟨67,[(4,.tx 4 bT 2),(16,.d (P3 l)),(17,.d (dI l.length)),(18,.d (dI i))],[(4,[bA4 i,.ts uT 1 ((P8 T9 (l.take i)).map dY)])],[(uT,((P8 T9 (l.take i)).map dY).length)]⟩) (fun i=>i<=l.length∧JN (M0 I4) X0 (l.drop i)=JN (M0 I4) X0 l∧(P8 T9 (l.take i)).length<=i*200000000) (fun i=>l.length-i) 0 ⟨E7 _,C,by simp[P8]⟩
  ⟨rfl,⟨E6,E6,FN (by simp),E6,D3⟩,⟨⟨_,rfl,E6,E6,D3⟩,D3⟩,⟨rfl,D3⟩,rfl⟩ ?_
 rintro i ⟨hi,hI,hln⟩
 rcases D5 i l.length with h|h
 rotate_left
 . have u1:decide ((i:Int)<(l.length:Int))=false:=A7 (by omega)
   obtain rfl:i=l.length:=by omega
   rw[List.drop_length]at hI
   rw[<-hI,show JN (M0 I4) X0 []=0 from rfl,B5 (by simp)]at hpE
   obtain⟨j,hj⟩:∃ j,l.length=j+1:=⟨l.length-1,by have:=List.length_pos_iff.2 h0;omega⟩
   rw[show bA4 l.length=.tx 4 bT 2 by rw[hj]]
   rw[I2]
   have hr0:P8 T9 l≠[]:=by
    cases l with
    | nil=>exact G5 C h0
    | cons r l=>simp[P8,Lr]
   obtain⟨r,hr⟩:=H8 (P8 T9 l)
   rw[<-hr]at hr0 hpE hpT ⊢
   by_cases h2:65536<r.length
   . have t2:decide (((r.map dY).length:Int) > 65536)=true:=B0 (by rw[A8];omega)
     rw[B9 h2]at hpE
     subst hpE
     rw[B5 (by omega)]at hpT
     subst hpT
     refine IQ 4 C ?_;refine D7 (yB C C C C (yQ (B2 ?_)));rw[u1];refine D8 C (F9 (B2 (D7 ?_)));refine CN (wLenU r) C ⟨rfl,D3⟩ ⟨rfl,D3⟩ ?_ (hfit:=by kernel_rfl);refine yB C C C C (yQ (B3 ?_));rw[t2];refine G2 C (D7 (H3 C (H3 C (yQ (C4 (A5 ?_))))))
     exact Y7 C C C
   . have t2:decide (((r.map dY).length:Int) > 65536)=false:=A7 (by rw[A8];omega)
     rw[B5 h2]at hpE
     subst hpE
     rw[B9 rfl]at hpT
     rw[hpT]
     clear hpT
     refine IQ 4 C ?_;refine D7 (yB C C C C (yQ (B2 ?_)));rw[u1];refine D8 C (F9 (B2 (D7 ?_)));refine CN (wLenU r) C ⟨rfl,D3⟩ ⟨rfl,D3⟩ ?_ (hfit:=by kernel_rfl);refine yB C C C C (yQ (B3 ?_));rw[t2];refine D8 C (B1 (D7 (yStr (l:=r) Tryz.bst EX C C hr0 C C C C (H3 C (H3 C (yQ (C4 ?_)))))))
     exact Y7 C C C
 have u1:decide ((i:Int)<(l.length:Int))=true:=B0 (by omega)
 obtain⟨⟨n,ls⟩,hx⟩:∃ a,l[i]? = some a:=⟨_,A4 h⟩
 have hbr:=hb _ (B8 hx)
 have ex:=ix X6 l i i (n,ls) rfl hx
 have hw:=I8 ((i:Int)+1) (by omega)
 have c1:=GT (n,ls) hbr
 have hnx:=Gg hx
 rw[KX hx]at hI
 have arith:l.length-(i+1)<l.length-i:=by omega
 by_cases e1:Y8 (n,ls)=0
 rotate_left
 . have t2:(Y8 (n,ls) != 0)=true:=by simp[e1]
   rw[B5 e1]at hI
   rw[<-hI,B9 e1]at hpE
   rw[hpE]at hpT
   rw[B5 e1]at hpT
   obtain⟨x,hx⟩:=H8 (Y8 (n,ls))
   rw[<-hx]at c1 t2 hpE
   subst hpE hpT
   obtain⟨P,hP⟩:=H8 (P8 T9 (l.take i))
   rw[<-hP]
   refine D7 (yB C C C C (yQ (B2 ?_)));rw[u1];refine G2 C (B1 (B2 (B7 (D7 (yW ex (by omega) C C (T3 (ys:=[_,_]) C C C (yZ (cs:=[_,_]) C C (yS (cs':=[_,_]) C C C C C (yQ ?_)))))))));refine B2 (D7 (Ae (ys:=[_,_]) C C C C (yC (c1) C C (H3 C (yQ (D7 (B6 C (yB C C C C (yQ ?_)))))))));refine B3 ?_;rw[t2];refine G2 C (D7 (B6 C (H3 C (H3 C (yQ (C4 (A5 (C3 (A5 ?_)))))))));refine A5 (C3 (A5 ?_))
   exact Y7 C C C
 rw[B9 e1]at hI
 obtain⟨-,hll,hlw⟩:=(GB (tp:=M0 I4) (ce:=X0)).1 e1
 have hll:ls.length<=64:=hll
 rw[e1]at c1
 have k0:=Iy
 obtain⟨hg,hh⟩:=HU n
 obtain⟨M,hM⟩:=H8 (Bz)
 rw[<-hM]at k0 hg
 clear hM hh
 have hkl:=Nk n
 have hru:Lr T9 (n,ls)=(([111,110,32]++HQ n)++[10])++V5 T9 ls:=by rw[Lr,onT];rfl
 obtain⟨kw,hkw⟩:=H8 (HQ n)
 obtain⟨kg,hkg⟩:=H8 (sgK n)
 obtain⟨kn,hkn⟩:=H8 (Gx n)
 rw[<-hkw,<-hkg,<-hkn]at hg
 rw[<-hkw]at hkl hru
 clear hkw hkg hkn
 obtain⟨P,hP⟩:=H8 (P8 T9 (l.take i))
 rw[<-hP]at hnx hln ⊢
 rw[hru]at hnx
 clear hP hru
 obtain⟨W,hW⟩:∃ W:F6,W=([111,110,32]++kw)++[10]:=⟨_,rfl⟩
 have hWl:W.length<=104:=by rw[hW];simp;omega
 have hW0:0<W.length:=by rw[hW];simp
 have hi64:i<=64:=by omega
 refine D7 (yB C C C C (yQ (B2 ?_)));rw[u1];refine G2 C (B1 (B2 (B7 (D7 (yW ex (by omega) C C (T3 (ys:=[_,_]) C C C (yZ (cs:=[_,_]) C C (yS (cs':=[_,_]) C C C C C (yQ ?_)))))))));refine B2 (D7 (Ae (ys:=[_,_]) C C C C (yC (c1) C C (H3 C (yQ (D7 (B6 C (yB C C C C (yQ ?_)))))))));refine D8 C (B1 (B2 ?_));refine RL (id:=10) [_,_,_,_,_,_,_] _ C Tryz.mixed (by kernel_rfl) (by kernel_rfl) ?_;refine yC (k0) C C (X9 C (AL C C C (yKeI C C hg (yE C C ?_))));refine O2 (l1:=[111,110,32]) (l2:=kw) (by simp;omega) C C ?_;refine O2 (l1:=[111,110,32]++kw) (l2:=[10]) (by simp;omega) C C ?_;refine yQ ?_
 first|refine Dq ⟨67,[(4,.tx 4 bT 2),(16,.d (P3 l)),(17,.d (dI l.length)),(18,.d (dI i)),(36,.d (.sl 3 (ls.map W9))),(37,.d (dI ls.length)),(38,.d (dI 0))],[(4,[.tx 4 bT 2,.ts uT 1 ((P++W).map dY)])],[(uT,((P++W).map dY).length)]⟩ ?_ ?_|refine CQ ⟨67,[(4,.tx 4 bT 2),(16,.d (P3 l)),(17,.d (dI l.length)),(18,.d (dI i)),(36,.d (.sl 3 (ls.map W9))),(37,.d (dI ls.length)),(38,.d (dI 0))],[(4,[.tx 4 bT 2,.ts uT 1 ((P++W).map dY)])],[(uT,((P++W).map dY).length)]⟩ ?_ ?_
 rotate_left
 . rw[<-hW]
   cases i with
   | zero=>
    refine CN (wWsFb P W (by omega) (by omega) hW0) C ⟨rfl,D3⟩ ⟨rfl,D3⟩ ?_ (hfit:=by kernel_rfl);refine yQ (B4 (X9 C (AL C C C (yN C (B6 C (yQ (B3 ?_)))))))
    exact⟨rfl,⟨E6,E6,E6,E6,E6,FN (by simp),E6,D3⟩,⟨⟨_,C,H5 _⟩,D3⟩,⟨rfl,D3⟩,C⟩
   | succ i=>
    refine CN (Py P W (by omega) (by omega) hW0) C ⟨rfl,D3⟩ ⟨rfl,D3⟩ ?_ (hfit:=by kernel_rfl);refine yQ (B4 (X9 C (AL C C C (yN C (B6 C (yQ (B3 ?_)))))))
    exact⟨rfl,⟨E6,E6,E6,E6,E6,FN (by simp),E6,D3⟩,⟨⟨_,C,H5 _⟩,D3⟩,⟨rfl,D3⟩,C⟩
 rw[<-hW]at hnx
 clear c1
 have hPW:(P++W).length<=i*200000000+104:=by simp;omega
 obtain⟨V,hV⟩:=H8 (P++W)
 rw[<-G8,<-hV]at hnx
 rw[<-hV]at hPW ⊢
 clear hV hW k0 hg
 refine B7 ?_;refine H9 (fun k:Nat=>⟨67,[(4,.tx 4 bT 2),(16,.d (P3 l)),(17,.d (dI l.length)),(18,.d (dI i)),(36,.d (.sl 3 (ls.map W9))),(37,.d (dI ls.length)),(38,.d (dI k))],[(4,[.tx 4 bT 2,.ts uT 1 ((V++V5 T9 (ls.take k)).map dY)])],[(uT,((V++V5 T9 (ls.take k)).map dY).length)]⟩) (fun k=>k<=ls.length∧(V++V5 T9 (ls.take k)).length<=i*200000000+104+k*3000000) (fun k=>ls.length-k) 0 ⟨E7 _,by simp[V5];omega⟩
  ⟨rfl,⟨E6,E6,E6,E6,E6,E6,E6,D3⟩,⟨⟨_,rfl,E6,.of_eq (by simp[V5]),D3⟩,D3⟩,⟨(by simp[V5]<;>rfl),D3⟩,rfl⟩ ?_
 rintro k ⟨hk,hkl2⟩
 rcases D5 k ls.length with h2|h2
 rotate_left
 . have u2:decide ((k:Int)<(ls.length:Int))=false:=A7 (by omega)
   rw[E3 h2]at hkl2 ⊢
   have hnl:(V++V5 T9 ls).length<=(i+1)*200000000:=by omega
   rw[<-hnx]at hnl ⊢
   refine D7 (yB C C C C (yQ (B2 ?_)));rw[u2];refine D8 C (F9 (B4 (yB C C C C (B6 C (yQ (B3 ?_))))))
   exact⟨i+1,⟨h,hI,hnl⟩,arith,C,⟨E6,E6,E6,P2 hw,D3⟩,⟨⟨_,C,H5 _⟩,D3⟩,⟨rfl,D3⟩,C⟩
 have u2:decide ((k:Int)<(ls.length:Int))=true:=B0 (by omega)
 obtain⟨⟨a,s,e⟩,hxk⟩:∃ a,ls[k]? = some a:=⟨_,A4 h2⟩
 obtain⟨hba,hbe1,hbe2⟩:=hbr.2 _ (B8 hxk)
 obtain⟨-,hce⟩:=hlw _ (B8 hxk)
 simp only at hba hbe1 hbe2 hce
 have ek:=ix W9 ls k k (a,s,e) rfl hxk
 have hw2:=I8 ((k:Int)+1) (by omega)
 have c2:=wPrintE e hbe1 fun c hc=>(hbe2 c hc).2
 rw[hce]at c2
 have hpv:=NW hce fun c hc=>(hbe2 c hc).2
 have hnk:=Ia hxk
 rw[show lnT T9 (a,s,e)=sdW s++32::(a++32::T9 e)from rfl]at hnk
 obtain⟨p,hp⟩:=H8 (T9 e)
 rw[<-hp]at c2 hpv hnk
 obtain⟨Q,hQ⟩:=H8 (V++V5 T9 (ls.take k))
 rw[<-hQ]at hkl2 ⊢
 have arith2:ls.length-(k+1)<ls.length-k:=by omega
 have hk64:k<=64:=by omega
 cases s with
 | true=>
  have hfin:V++V5 T9 (ls.take (k+1))=Q++((((([99,114,101,100,105,116,32]++a)++[32])++p))++[10]):=by
   rw[hnk,hQ,show sdW true=[99,114,101,100,105,116]from rfl]
   simp
  have hll2:(V++V5 T9 (ls.take (k+1))).length<=i*200000000+104+(k+1)*3000000:=by rw[hfin];simp;omega
  clear hnk hQ hp
  refine D7 (yB C C C C (yQ (B2 ?_)));rw[u2];refine G2 C (B1 (B2 (B7 (D7 (yW ek (by omega) C C (T3 (ys:=[_,_,_]) C C C (yZ (cs:=[_,_,_]) C C (yS (cs':=[_,_,_]) C C C C C (yQ ?_)))))))));refine D7 (H3 C (yQ (B2 (D7 (X9 C (AL C C C (yQ (G2 C (B4 ?_)))))))));refine H3 C (yQ (D7 (X9 C (AL C C C (yC (c2) C C (N9 C (yX C C (yX C C (H3 C ?_)))))))));refine H3 C (yQ (B2 (D7 (B6 C (yB C C C C (yQ (D8 C (B1 (B4 ?_)))))))));refine B6 C (X9 C (AL C C C ?_));refine O2 (l1:=[99,114,101,100,105,116,32]) (l2:=a) (by simp;omega) C C ?_;refine O2 (l1:=[99,114,101,100,105,116,32]++a) (l2:=[32]) (by simp;omega) C C ?_;refine B6 C ?_;refine O2 (l1:=([99,114,101,100,105,116,32]++a)++[32]) (l2:=p) (by simp;omega) C C ?_;refine O2 (l1:=(([99,114,101,100,105,116,32]++a)++[32])++p) (l2:=[10]) (by simp;omega) C C ?_;refine CN (Py Q (((([99,114,101,100,105,116,32]++a)++[32])++p)++[10]) (by omega) (by simp;omega) (by simp)) C ⟨rfl,D3⟩ ⟨rfl,D3⟩ ?_ (hfit:=by kernel_rfl);refine yQ (B4 (yB C C C C (B6 C (yQ (B3 ?_)))))
  exact⟨k+1,⟨h2,hll2⟩,arith2,C,⟨E6,E6,E6,E6,E6,E6,P2 hw2,D3⟩,⟨⟨_,C,E6,.of_eq (by rw[hfin]),D3⟩,D3⟩,⟨(by rw[hfin]<;>rfl),D3⟩,rfl⟩
 | false=>
  have hfin:V++V5 T9 (ls.take (k+1))=Q++((((([100,101,98,105,116,32]++a)++[32])++p))++[10]):=by
   rw[hnk,hQ,show sdW false=[100,101,98,105,116]from rfl]
   simp
  have hll2:(V++V5 T9 (ls.take (k+1))).length<=i*200000000+104+(k+1)*3000000:=by rw[hfin];simp;omega
  clear hnk hQ hp
  refine D7 (yB C C C C (yQ (B2 ?_)));rw[u2];refine G2 C (B1 (B2 (B7 (D7 (yW ek (by omega) C C (T3 (ys:=[_,_,_]) C C C (yZ (cs:=[_,_,_]) C C (yS (cs':=[_,_,_]) C C C C C (yQ ?_)))))))));refine D7 (H3 C (yQ (B2 (D7 (X9 C (AL C C C (yQ (D8 C (B1 ?_)))))))));refine D7 (X9 C (AL C C C (yC (c2) C C (N9 C (yX C C (yX C C (H3 C (H3 C (yQ ?_)))))))));refine B2 (D7 (B6 C (yB C C C C (yQ (D8 C (B1 (B4 (B6 C (X9 C ?_)))))))));refine AL C C C ?_;refine O2 (l1:=[100,101,98,105,116,32]) (l2:=a) (by simp;omega) C C ?_;refine O2 (l1:=[100,101,98,105,116,32]++a) (l2:=[32]) (by simp;omega) C C ?_;refine B6 C ?_;refine O2 (l1:=([100,101,98,105,116,32]++a)++[32]) (l2:=p) (by simp;omega) C C ?_;refine O2 (l1:=(([100,101,98,105,116,32]++a)++[32])++p) (l2:=[10]) (by simp;omega) C C ?_;refine CN (Py Q (((([100,101,98,105,116,32]++a)++[32])++p)++[10]) (by omega) (by simp;omega) (by simp)) C ⟨rfl,D3⟩ ⟨rfl,D3⟩ ?_ (hfit:=by kernel_rfl);refine yQ (B4 (yB C C C C (B6 C (yQ (B3 ?_)))))
  exact⟨k+1,⟨h2,hll2⟩,arith2,C,⟨E6,E6,E6,E6,E6,E6,P2 hw2,D3⟩,⟨⟨_,C,E6,.of_eq (by rw[hfin]),D3⟩,D3⟩,⟨(by rw[hfin]<;>rfl),D3⟩,rfl⟩
def PV (c:Cf):Bool:=decide (30<c.1.length)||decide (13<c.2.length)
def MY (l:Ln):Bool:=decide (60<l.1.length)||(decide (6<l.2.2.length)&&decide (l.2.2.length<=16))||decide (18<l.2.2.length)||l.2.2.any PV
def MX (r:Ru):Bool:=(decide (6<r.2.length)&&decide (r.2.length<=64))||decide (66<r.2.length)||r.2.any MY
def HW (l:List Ru):Bool:=(decide (20<l.length)&&decide (l.length<=64))||decide (66<l.length)||l.any MX
theorem Hm {p:α->Bool} {l:List α} {x:α} (h:l[i]? = some x):(l.drop i).any p=(p x||(l.drop (i+1)).any p):=by
 obtain⟨h1,h2⟩:=A6.1 h
 rw[I5 h1,h2,List.any_cons]
theorem wLongF (a:F6):PCalls Tryz.prog 106 [dS a] (.d (dB (decide (13<a.length)))):=by
 have e:decide (13<a.length)=decide ((a.length:Int) > 13):=decide_eq_decide.2 (by omega)
 rw[e]
 refine L5 Tryz.func106 C Tryz.ntmps106 Tryz.results106 fun B w0=>?_
 refine D7 (H3 C (yQ (D7 (B6 C (N3 C (yB C C C C (H3 C (yQ (C4 ?_)))))))))
 exact M5 C C
theorem wGreatR (l:List Ru):PCalls Tryz.prog 55 [P3 l] (.d (dB (HW l))):=by
 have d1:HW l=((decide (20<l.length)&&decide (l.length<=64))||decide (66<l.length)||l.any MX):=rfl
 obtain⟨G,hG⟩:=H8 (HW l)
 rw[<-hG]at d1 ⊢
 clear hG
 by_cases hc2:(20<l.length∧l.length<=64)∨66<l.length
 . have t1:decide (((l.map X6).length:Int) > 20)=true:=B0 (by rw[A8];omega)
   have hg:G=true:=by
    rw[d1]
    rcases hc2 with h|h
    . rw[B0 h.1,B0 h.2];simp
    . rw[B0 h];simp
   subst hg
   by_cases h2:l.length<=64
   . have t2:decide (((l.map X6).length:Int)<=64)=true:=B0 (by rw[A8];omega)
     refine L5 Tryz.func55 C Tryz.ntmps55 Tryz.results55 fun B w0=>?_
     refine D7 (H3 C (yQ (B2 (D7 (B6 C (yN C (yB C C C C (B6 C ?_))))))));rw[t1]
     refine B6 C (yN C (yB C C C C (L0 C C (B6 C ?_))));rw[t2];refine yO C (yO C (yO C (L0 C C (yQ (G2 C (D7 (H3 C (yQ (C4 ?_)))))))));refine A5 ?_
     exact M5 C C
   . have t2:decide (((l.map X6).length:Int)<=64)=false:=A7 (by rw[A8];omega)
     have t3:decide (((l.map X6).length:Int) > 66)=true:=B0 (by rw[A8];omega)
     refine L5 Tryz.func55 C Tryz.ntmps55 Tryz.results55 fun B w0=>?_
     refine D7 (H3 C (yQ (B2 (D7 (B6 C (yN C (yB C C C C (B6 C ?_))))))));rw[t1]
     refine B6 C (yN C (yB C C C C (L0 C C (B6 C ?_))));rw[t2];refine B6 C (yN C (yB C C C C (K9 C C (yQ (B3 ?_)))));rw[t3];refine G2 C (D7 (H3 C (yQ (C4 (A5 ?_)))))
     exact M5 C C
 have hg:l.any MX=G:=by
  rw[d1]
  by_cases h1:20<l.length
  . rw[B0 h1,A7 (show ¬ l.length<=64 by omega),A7 (show ¬ 66<l.length by omega)];simp
  . rw[A7 h1,A7 (show ¬ 66<l.length by omega)];simp
 clear d1
 refine L5 Tryz.func55 C Tryz.ntmps55 Tryz.results55 fun B w0=>?_
 refine D7 (H3 C (yQ (B2 (D7 (B6 C (yN C (yB C C C C (B6 C ?_))))))))
 first|refine Dq ⟨115,[(0,.d (P3 l))],[],[]⟩ ?_ ?_|refine CQ ⟨115,[(0,.d (P3 l))],[],[]⟩ ?_ ?_
 rotate_left
 . have t3:decide (((l.map X6).length:Int) > 66)=false:=A7 (by rw[A8];omega)
   by_cases h1:20<l.length
   . have t1:decide (((l.map X6).length:Int) > 20)=true:=B0 (by rw[A8];omega)
     have t2:decide (((l.map X6).length:Int)<=64)=false:=A7 (by rw[A8];omega)
     rw[t1];refine B6 C ?_;refine yN C ?_;refine yB C C C C ?_;refine L0 C C ?_;refine B6 C ?_;rw[t2];refine B6 C ?_;refine yN C ?_;refine yB C C C C ?_;refine K9 C C ?_;refine yQ ?_
     rw[t3];refine D8 C ?_;refine B1 ?_;refine B3 ?_
     exact⟨rfl,⟨E6,D3⟩,D3,D3,C⟩
   . have t1:decide (((l.map X6).length:Int) > 20)=false:=A7 (by rw[A8];omega)
     rw[t1];refine yO C ?_;refine yO C ?_;refine yO C ?_;refine K9 C C ?_;refine B6 C ?_;refine B6 C ?_;refine yN C ?_;refine yB C C C C ?_;refine K9 C C ?_;refine yQ ?_;rw[t3]
     refine D8 C (B1 (B3 ?_))
     exact⟨rfl,⟨E6,D3⟩,D3,D3,C⟩
 have hl:l.length<=66:=by omega
 clear hc2
 refine B2 (D7 (H3 C (yQ (B7 ?_))));refine H9 (fun i:Nat=>⟨115,[(0,.d (P3 l)),(3,.d (dI i))],[],[]⟩) (fun i=>i<=l.length∧(l.drop i).any MX=G) (fun i=>l.length-i) 0 ⟨E7 _,hg⟩
  ⟨rfl,⟨E6,E6,D3⟩,D3,D3,rfl⟩ ?_
 rintro i ⟨hi,hI⟩
 clear hg
 rcases D5 i l.length with h|h
 rotate_left
 . have u1:decide ((i:Int)<((l.map X6).length:Int))=false:=A7 (by rw[A8];omega)
   rw[J6 h]at hI
   subst hI
   refine B2 (D7 (B6 C (B6 C (yN C (yB C C C C (yQ (B3 ?_)))))));rw[u1];refine D8 C (F9 (D7 (H3 C (yQ (C4 ?_)))))
   exact M5 C C
 have u1:decide ((i:Int)<((l.map X6).length:Int))=true:=B0 (by rw[A8];omega)
 obtain⟨⟨n,ls⟩,hr⟩:∃ a,l[i]? = some a:=⟨_,A4 h⟩
 have ex:=ix X6 l i i (n,ls) rfl hr
 have hw:=I8 ((i:Int)+1) (by omega)
 rw[Hm hr]at hI
 have d2:MX (n,ls)=((decide (6<ls.length)&&decide (ls.length<=64))||decide (66<ls.length)||ls.any MY):=rfl
 rw[d2]at hI
 clear d2
 have arith:l.length-(i+1)<l.length-i:=by omega
 obtain⟨R,hR⟩:=H8 ((l.drop (i+1)).any MX)
 rw[<-hR]at hI
 by_cases hc2:(6<ls.length∧ls.length<=64)∨66<ls.length
 . have t1:decide (((ls.map W9).length:Int) > 6)=true:=B0 (by rw[A8];omega)
   have hg:G=true:=by
    rw[<-hI]
    rcases hc2 with h|h
    . rw[B0 h.1,B0 h.2];simp
    . rw[B0 h];simp
   subst hg
   by_cases h2:ls.length<=64
   . have t2:decide (((ls.map W9).length:Int)<=64)=true:=B0 (by rw[A8];omega)
     refine B2 (D7 (B6 C (B6 C (yN C (yB C C C C (yQ (B3 ?_)))))));rw[u1];refine G2 C (B1 (B2 (B7 (B2 (D7 (B6 C (B6 C (yW ex (by omega) C C (Q3 C C ?_)))))))));refine K5 C C (yN C (yB C C C C (B6 C ?_)));rw[t1];refine B6 C (B6 C (yW ex (by omega) C C (Q3 C C (K5 C C (yN C (yB C C C C (L0 C C (B6 C ?_))))))));rw[t2];refine yO C (yO C (yO C (yO C (yO C (yO C (yO C (L0 C C (yQ (G2 C ?_)))))))));refine D7 (H3 C (yQ (C4 (A5 (C3 (A5 (A5 (C3 (A5 ?_)))))))))
     exact M5 C C
   . have t2:decide (((ls.map W9).length:Int)<=64)=false:=A7 (by rw[A8];omega)
     have t3:decide (((ls.map W9).length:Int) > 66)=true:=B0 (by rw[A8];omega)
     refine B2 (D7 (B6 C (B6 C (yN C (yB C C C C (yQ (B3 ?_)))))));rw[u1];refine G2 C (B1 (B2 (B7 (B2 (D7 (B6 C (B6 C (yW ex (by omega) C C (Q3 C C ?_)))))))));refine K5 C C (yN C (yB C C C C (B6 C ?_)));rw[t1];refine B6 C (B6 C (yW ex (by omega) C C (Q3 C C (K5 C C (yN C (yB C C C C (L0 C C (B6 C ?_))))))));rw[t2];refine B6 C (B6 C (yW ex (by omega) C C (Q3 C C (K5 C C (yN C (yB C C C C (K9 C C (yQ (B3 ?_)))))))));rw[t3];refine G2 C (D7 (H3 C (yQ (C4 (A5 (C3 (A5 (A5 (C3 ?_)))))))));refine A5 ?_
     exact M5 C C
 have hg:(ls.any MY||R)=G:=by
  rw[<-hI]
  by_cases h1:6<ls.length
  . rw[B0 h1,A7 (show ¬ ls.length<=64 by omega),A7 (show ¬ 66<ls.length by omega)];simp
  . rw[A7 h1,A7 (show ¬ 66<ls.length by omega)];simp
 clear hI
 refine B2 (D7 (B6 C (B6 C (yN C (yB C C C C (yQ (B3 ?_)))))));rw[u1];refine G2 C (B1 (B2 (B7 (B2 (D7 (B6 C (B6 C (yW ex (by omega) C C (Q3 C C ?_)))))))));refine K5 C C (yN C (yB C C C C (B6 C ?_)))
 first|refine Dq ⟨115,[(0,.d (P3 l)),(3,.d (dI i))],[],[]⟩ ?_ ?_|refine CQ ⟨115,[(0,.d (P3 l)),(3,.d (dI i))],[],[]⟩ ?_ ?_
 rotate_left
 . have t3:decide (((ls.map W9).length:Int) > 66)=false:=A7 (by rw[A8];omega)
   by_cases h1:6<ls.length
   . have t1:decide (((ls.map W9).length:Int) > 6)=true:=B0 (by rw[A8];omega)
     have t2:decide (((ls.map W9).length:Int)<=64)=false:=A7 (by rw[A8];omega)
     rw[t1];refine B6 C ?_;refine B6 C ?_;refine yW ex (by omega) C C ?_;refine Q3 C C ?_;refine K5 C C ?_;refine yN C ?_;refine yB C C C C ?_;refine L0 C C ?_;refine B6 C ?_;rw[t2]
     refine B6 C (B6 C (yW ex (by omega) C C (Q3 C C (K5 C C (yN C (yB C C C C (K9 C C (yQ ?_))))))));rw[t3]
     refine D8 C (B1 (B3 ?_))
     exact⟨rfl,⟨E6,E6,D3⟩,D3,D3,C⟩
   . have t1:decide (((ls.map W9).length:Int) > 6)=false:=A7 (by rw[A8];omega)
     rw[t1];refine yO C ?_;refine yO C ?_;refine yO C ?_;refine yO C ?_;refine yO C ?_;refine yO C ?_;refine yO C ?_;refine K9 C C ?_;refine B6 C ?_;refine B6 C ?_;refine B6 C ?_
     refine yW ex (by omega) C C (Q3 C C (K5 C C (yN C (yB C C C C (K9 C C (yQ ?_))))));rw[t3];refine D8 C (B1 (B3 ?_))
     exact⟨rfl,⟨E6,E6,D3⟩,D3,D3,C⟩
 have hll:ls.length<=66:=by omega
 clear hc2
 refine D7 (H3 C (yQ (B7 ?_)));refine H9 (fun k:Nat=>⟨115,[(0,.d (P3 l)),(3,.d (dI i)),(4,.d (dI k))],[],[]⟩) (fun k=>k<=ls.length∧((ls.drop k).any MY||R)=G) (fun k=>ls.length-k) 0 ⟨E7 _,hg⟩
  ⟨rfl,⟨E6,E6,E6,D3⟩,D3,D3,rfl⟩ ?_
 rintro k ⟨hk,hI⟩
 clear hg
 rcases D5 k ls.length with h2|h2
 rotate_left
 . have u2:decide ((k:Int)<((ls.map W9).length:Int))=false:=A7 (by rw[A8];omega)
   rw[J6 h2]at hI
   have hI:R=G:=hI
   rw[hR]at hI
   refine B2 (D7 (B6 C (B6 C (B6 C (yW ex (by omega) C C (Q3 C C (K5 C C (yN C (yB C C C C ?_)))))))));refine yQ (B3 ?_);rw[u2];refine D8 C (F9 (B4 (B6 C (yB C C C C (H3 C (yQ (B3 ?_)))))))
   exact⟨i+1,⟨h,hI⟩,arith,C,⟨E6,P2 hw,D3⟩,D3,D3,C⟩
 have u2:decide ((k:Int)<((ls.map W9).length:Int))=true:=B0 (by rw[A8];omega)
 obtain⟨⟨a,s,x⟩,hx⟩:∃ a,ls[k]? = some a:=⟨_,A4 h2⟩
 have ek:=ix W9 ls k k (a,s,x) rfl hx
 have hw2:=I8 ((k:Int)+1) (by omega)
 rw[Hm hx]at hI
 have d2:MY (a,s,x)=(decide (60<a.length)||(decide (6<x.length)&&decide (x.length<=16))||decide (18<x.length)||x.any PV):=rfl
 rw[d2]at hI
 clear d2
 have arith2:ls.length-(k+1)<ls.length-k:=by omega
 obtain⟨Q,hQ⟩:=H8 ((ls.drop (k+1)).any MY)
 rw[<-hQ]at hI
 by_cases ha:60<a.length
 . have t0:decide ((a.length:Int) > 60)=true:=B0 (by omega)
   have hg:G=true:=by rw[<-hI,B0 ha];simp
   subst hg
   refine B2 (D7 (B6 C (B6 C (B6 C (yW ex (by omega) C C (Q3 C C (K5 C C (yN C (yB C C C C ?_)))))))));refine yQ (B3 ?_);rw[u2];refine G2 C (B1 (B2 (B7 (D7 (B6 C (B6 C (yW ex (by omega) C C (Q3 C C (K5 C C ?_)))))))));refine B6 C (yW ek (by omega) C C (T3 (ys:=[_,_,_]) C C C (yZ (cs:=[_,_,_]) C C (yS (cs':=[_,_,_]) C C C C C (yQ (B2 (D7 (X9 C (AL C C C ?_)))))))));refine N3 C (yB C C C C (B6 C ?_));rw[t0];refine yO C (yO C (yO C (yO C (yO C (yO C (yO C (yO C (yO C (yO C ?_)))))))));refine L0 C C (B6 C (yO C (yO C (yO C (yO C (L0 C C (yQ (G2 C (D7 ?_)))))))));refine H3 C (yQ (C4 (A5 (C3 (A5 (A5 (C3 (C3 (A5 ?_)))))))));refine A5 (C3 (A5 ?_))
   exact M5 C C
 have t0:decide ((a.length:Int) > 60)=false:=A7 (by omega)
 rw[A7 ha,Bool.false_or]at hI
 by_cases hc2:(6<x.length∧x.length<=16)∨18<x.length
 . have t1:decide (((x.map dCf).length:Int) > 6)=true:=B0 (by rw[A8];omega)
   have hg:G=true:=by
    rw[<-hI]
    rcases hc2 with h|h
    . rw[B0 h.1,B0 h.2];simp
    . rw[B0 h];simp
   subst hg
   by_cases h2:x.length<=16
   . have t2:decide (((x.map dCf).length:Int)<=16)=true:=B0 (by rw[A8];omega)
     refine B2 (D7 (B6 C (B6 C (B6 C (yW ex (by omega) C C (Q3 C C (K5 C C (yN C (yB C C C C ?_)))))))));refine yQ (B3 ?_);rw[u2];refine G2 C (B1 (B2 (B7 (D7 (B6 C (B6 C (yW ex (by omega) C C (Q3 C C (K5 C C ?_)))))))));refine B6 C (yW ek (by omega) C C (T3 (ys:=[_,_,_]) C C C (yZ (cs:=[_,_,_]) C C (yS (cs':=[_,_,_]) C C C C C (yQ (B2 (D7 (X9 C (AL C C C ?_)))))))));refine N3 C (yB C C C C (B6 C ?_));rw[t0];refine X9 C (AL C C C (yN C (yB C C C C (B6 C ?_))));rw[t1];refine X9 C (AL C C C (yN C (yB C C C C (L0 C C (K9 C C (B6 C ?_))))));rw[t2];refine yO C (yO C (yO C (yO C (L0 C C (yQ (G2 C (D7 (H3 C (yQ ?_)))))))));refine C4 (A5 (C3 (A5 (A5 (C3 (C3 (A5 (A5 (C3 ?_)))))))));refine A5 ?_
     exact M5 C C
   . have t2:decide (((x.map dCf).length:Int)<=16)=false:=A7 (by rw[A8];omega)
     have t3:decide (((x.map dCf).length:Int) > 18)=true:=B0 (by rw[A8];omega)
     refine B2 (D7 (B6 C (B6 C (B6 C (yW ex (by omega) C C (Q3 C C (K5 C C (yN C (yB C C C C ?_)))))))));refine yQ (B3 ?_);rw[u2];refine G2 C (B1 (B2 (B7 (D7 (B6 C (B6 C (yW ex (by omega) C C (Q3 C C (K5 C C ?_)))))))));refine B6 C (yW ek (by omega) C C (T3 (ys:=[_,_,_]) C C C (yZ (cs:=[_,_,_]) C C (yS (cs':=[_,_,_]) C C C C C (yQ (B2 (D7 (X9 C (AL C C C ?_)))))))));refine N3 C (yB C C C C (B6 C ?_));rw[t0];refine X9 C (AL C C C (yN C (yB C C C C (B6 C ?_))));rw[t1];refine X9 C (AL C C C (yN C (yB C C C C (L0 C C (K9 C C (B6 C ?_))))));rw[t2];refine X9 C (AL C C C (yN C (yB C C C C (K9 C C (yQ (B3 ?_))))));rw[t3];refine G2 C (D7 (H3 C (yQ (C4 (A5 (C3 (A5 (A5 (C3 ?_)))))))));refine C3 (A5 (A5 (C3 (A5 ?_))))
     exact M5 C C
 have hg:(x.any PV||(Q||R))=G:=by
  rw[<-hI]
  by_cases h1:6<x.length
  . rw[B0 h1,A7 (show ¬ x.length<=16 by omega),A7 (show ¬ 18<x.length by omega)];simp[Bool.or_assoc]
  . rw[A7 h1,A7 (show ¬ 18<x.length by omega)];simp[Bool.or_assoc]
 clear hI
 refine B2 (D7 (B6 C (B6 C (B6 C (yW ex (by omega) C C (Q3 C C (K5 C C (yN C (yB C C C C ?_)))))))));refine yQ (B3 ?_);rw[u2];refine G2 C (B1 (B2 (B7 (D7 (B6 C (B6 C (yW ex (by omega) C C (Q3 C C (K5 C C ?_)))))))));refine B6 C (yW ek (by omega) C C (T3 (ys:=[_,_,_]) C C C (yZ (cs:=[_,_,_]) C C (yS (cs':=[_,_,_]) C C C C C (yQ (B2 (D7 (X9 C (AL C C C ?_)))))))));refine N3 C (yB C C C C (B6 C ?_));rw[t0];refine X9 C (AL C C C (yN C (yB C C C C (B6 C ?_))))
 first|refine Dq ⟨115,[(0,.d (P3 l)),(3,.d (dI i)),(4,.d (dI k)),(5,.bx 5 0)],[(5,[.d (dS a),.d (dB s),.d (.sl 2 (x.map dCf))])],[]⟩ ?_ ?_|refine CQ ⟨115,[(0,.d (P3 l)),(3,.d (dI i)),(4,.d (dI k)),(5,.bx 5 0)],[(5,[.d (dS a),.d (dB s),.d (.sl 2 (x.map dCf))])],[]⟩ ?_ ?_
 rotate_left
 . have t3:decide (((x.map dCf).length:Int) > 18)=false:=A7 (by rw[A8];omega)
   by_cases h1:6<x.length
   . have t1:decide (((x.map dCf).length:Int) > 6)=true:=B0 (by rw[A8];omega)
     have t2:decide (((x.map dCf).length:Int)<=16)=false:=A7 (by rw[A8];omega)
     rw[t1];refine X9 C ?_;refine AL C C C ?_;refine yN C ?_;refine yB C C C C ?_;refine L0 C C ?_;refine K9 C C ?_;refine B6 C ?_;rw[t2];refine X9 C ?_;refine AL C C C ?_
     refine yN C (yB C C C C (K9 C C (yQ ?_)));rw[t3];refine D8 C (B1 (B3 ?_))
     exact⟨rfl,⟨E6,E6,E6,E6,D3⟩,⟨⟨_,C,H5 _⟩,D3⟩,D3,C⟩
   . have t1:decide (((x.map dCf).length:Int) > 6)=false:=A7 (by rw[A8];omega)
     rw[t1];refine yO C ?_;refine yO C ?_;refine yO C ?_;refine yO C ?_;refine K9 C C ?_;refine K9 C C ?_;refine B6 C ?_;refine X9 C ?_;refine AL C C C ?_;refine yN C ?_
     refine yB C C C C (K9 C C (yQ ?_));rw[t3];refine D8 C (B1 (B3 ?_))
     exact⟨rfl,⟨E6,E6,E6,E6,D3⟩,⟨⟨_,C,H5 _⟩,D3⟩,D3,C⟩
 have hxl:x.length<=18:=by omega
 clear hc2
 refine D7 (H3 C (yQ (B7 ?_)));refine H9 (fun m:Nat=>⟨115,[(0,.d (P3 l)),(3,.d (dI i)),(4,.d (dI k)),(5,.bx 5 0),(6,.d (dI m))],[(5,[.d (dS a),.d (dB s),.d (.sl 2 (x.map dCf))])],[]⟩) (fun m=>m<=x.length∧((x.drop m).any PV||(Q||R))=G) (fun m=>x.length-m) 0 ⟨E7 _,hg⟩
  ⟨rfl,⟨E6,E6,E6,E6,E6,D3⟩,⟨⟨_,rfl,H5 _⟩,D3⟩,D3,rfl⟩ ?_
 rintro m ⟨hm,hI⟩
 clear hg
 rcases D5 m x.length with h3|h3
 rotate_left
 . have u3:decide ((m:Int)<((x.map dCf).length:Int))=false:=A7 (by rw[A8];omega)
   rw[J6 h3]at hI
   have hI:(Q||R)=G:=hI
   rw[hQ]at hI
   refine B2 (D7 (B6 C (X9 C (AL C C C (yN C (yB C C C C (yQ (B3 ?_))))))));rw[u3];refine D8 C (F9 (B4 (B6 C (yB C C C C (H3 C (yQ (B3 ?_)))))))
   exact⟨k+1,⟨h2,hI⟩,arith2,C,⟨E6,E6,P2 hw2,D3⟩,D3,D3,C⟩
 have u3:decide ((m:Int)<((x.map dCf).length:Int))=true:=B0 (by rw[A8];omega)
 obtain⟨⟨c0,c1⟩,hcx⟩:∃ a,x[m]? = some a:=⟨_,A4 h3⟩
 have em:=ix dCf x m m (c0,c1) rfl hcx
 have hw3:=I8 ((m:Int)+1) (by omega)
 rw[Hm hcx]at hI
 have d2:PV (c0,c1)=(decide (30<c0.length)||decide (13<c1.length)):=rfl
 rw[d2]at hI
 clear d2
 have arith3:x.length-(m+1)<x.length-m:=by omega
 have k1:=wLongF c1
 by_cases q1:30<c0.length
 . have t1:decide ((c0.length:Int) > 30)=true:=B0 (by omega)
   have hg:G=true:=by rw[<-hI,B0 q1];simp
   subst hg
   refine B2 (D7 (B6 C (X9 C (AL C C C (yN C (yB C C C C (yQ (B3 ?_))))))));rw[u3];refine G2 C (B1 (B2 (B7 (D7 (X9 C (AL C C C (B6 C (yW em (by omega) C C (Q3 C C ?_)))))))));refine K5 C C (N3 C (yB C C C C (B6 C ?_)));rw[t1];refine yO C (yO C (yO C (yO C (yO C (yO C (yO C (L0 C C (yQ (G2 C ?_)))))))));refine D7 (H3 C (yQ (C4 (C3 (A5 (A5 (C3 (C3 (A5 ?_)))))))));refine A5 (C3 (C3 (A5 (A5 (C3 (A5 ?_))))))
   exact M5 C C
 have t1:decide ((c0.length:Int) > 30)=false:=A7 (by omega)
 rw[A7 q1,Bool.false_or]at hI
 by_cases q2:13<c1.length
 . rw[B0 q2]at k1
   have hg:G=true:=by rw[<-hI,B0 q2];simp
   subst hg
   refine B2 (D7 (B6 C (X9 C (AL C C C (yN C (yB C C C C (yQ (B3 ?_))))))));rw[u3];refine G2 C (B1 (B2 (B7 (D7 (X9 C (AL C C C (B6 C (yW em (by omega) C C (Q3 C C ?_)))))))));refine K5 C C (N3 C (yB C C C C (B6 C ?_)));rw[t1];refine X9 C (AL C C C (B6 C (yW em (by omega) C C (Q3 C C (K5 C C (yC (k1) C C (K9 C C (yQ (G2 C ?_)))))))));refine D7 (H3 C (yQ (C4 (C3 (A5 (A5 (C3 (C3 (A5 ?_)))))))));refine A5 (C3 (C3 (A5 (A5 (C3 (A5 ?_))))))
   exact M5 C C
 rw[A7 q2]at k1
 rw[A7 q2,Bool.false_or]at hI
 refine B2 (D7 (B6 C (X9 C (AL C C C (yN C (yB C C C C (yQ (B3 ?_))))))));rw[u3];refine G2 C (B1 (B2 (B7 (D7 (X9 C (AL C C C (B6 C (yW em (by omega) C C (Q3 C C ?_)))))))));refine K5 C C (N3 C (yB C C C C (B6 C ?_)));rw[t1];refine X9 C (AL C C C (B6 C (yW em (by omega) C C (Q3 C C (K5 C C (yC (k1) C C (K9 C C (yQ (D8 C ?_)))))))));refine B1 (B4 (B6 C (yB C C C C (H3 C (yQ (B3 ?_))))))
 exact⟨m+1,⟨h3,hI⟩,arith3,C,⟨E6,E6,E6,E6,P2 hw3,D3⟩,⟨⟨_,C,H5 _⟩,D3⟩,D3,C⟩
theorem hPhRs:∀ xs r,RT HW xs r->PCalls Tryz.prog 55 (xs++([]:List (List DV)).map DV.ref) r:=by
 rintro _ _ ⟨l,rfl,rfl⟩
 exact wGreatR l
theorem QS (l:List (List Ru)) (hl:l.length<=1000):PCalls Tryz.prog 11 [.sl 1 (l.map fun x=>[P3 x])] (.d (dB (l.any HW))):=by
 have c1:=wHasRs HW l (by omega)
 obtain⟨b,hb⟩:=H8 (l.any HW)
 rw[<-hb]at c1 ⊢
 refine L5 Tryz.func11 C Tryz.ntmps11 Tryz.results11 fun B w0=>?_
 refine D7 (H3 C (yQ (D7 (B6 C ?_))));refine Jv c1 (.d C (.fn D6 C C hPhRs .nil)) C ?_;refine H3 C (yQ (C4 ?_))
 exact M5 C C
theorem nf_ne {e:List Cf} {p:Cf} (h:p∈nf e):p.2≠[]:=fun h0=>((CZ e p).1 h).1 (by
 have h1:=((CZ e p).1 h).2
 rw[h0]at h1
 have h2:=G4 val h1
 rw[R5]at h2
 have h3:val []=(0:Int):=by kernel_rfl
 exact h2.symm.trans h3)
theorem prT_abs {f:F6} (h:Cu f=true) (h0:f≠[]):Gu (Au f)=Au f:=by
 have hc:=(SM h)
 have hv:val f≠0:=fun e=>h0 (by rw[<-hc,e];exact S9)
 have h1:J3 (val (Au f))=Au f:=by
  unfold Au
  split
  . rw[R5]
  . exact hc
 have h2:Au f≠[]:=fun e=>by
  unfold Au at e
  split at e
  . have:=G4 val e
    rw[R5,show val []=0 by kernel_rfl]at this
    omega
  . exact h0 e
 unfold Gu
 rw[h1,B5 h2]
theorem QI (e:List Cf) (hl:e.length<=1000) (hn0:∀ c∈e,c.1.length<=1000000) (hf:∀ c∈e,c.2.length<=70000):PCalls Tryz.prog 92 [.sl 2 (e.map dCf)] (.tup [dS (T9 e),dI (X0 e)]):=by
 have k1:=OT e (by omega) hn0 fun c hc=>by have:=hf c hc;omega
 by_cases h1:X0 e=0
 rotate_left
 . have t1:(X0 e != 0)=true:=by simpa using h1
   rw[T9,B5 h1]
   obtain⟨x,hx⟩:=H8 (X0 e)
   rw[<-hx]at k1 t1 ⊢
   obtain⟨l,hl⟩:=H8 ((Pu e).map dCf)
   rw[<-hl]at k1
   refine L5 Tryz.func92 C Tryz.ntmps92 Tryz.results92 fun B w0=>?_
   refine D7 (H3 C (H3 C (yQ (D7 (B6 C (yC (k1) C C (N9 C (yX C C (yX C C ?_)))))))));refine H3 C (H3 C (yQ (B2 (D7 (B6 C (yB C C C C (yQ (B3 ?_))))))));rw[t1]
   refine G2 C (D7 (B6 C (H3 C (H3 C (yQ (C4 (A5 ?_)))))))
   exact Y7 C C C
 obtain⟨a1,a2⟩:=T7.1 h1
 rw[Pu,B9 h1,h1]at k1
 rw[T9,B9 h1,h1]
 have hnl:=Ek e
 have hnf:∀ c∈nf e,c.2.length<=72000∧c.1.length<=16∧Cu c.2=true∧c.2≠[]:=fun p hp=>by
  have q1:=GD hf (p:=p) hp
  obtain⟨c,hc,q2⟩:=GC hp
  have q3:=Cq (a2 c hc).1
  have q5:=a1
  refine⟨by omega,by rw[<-q2];exact q3,Re hp,nf_ne hp⟩
 obtain⟨n,hn⟩:=H8 (nf e)
 rw[<-hn]at k1 hnl hnf ⊢
 clear hn h1
 have hpl:=fun i=>JT (n:=n) (fun c hc=>⟨(hnf c hc).1,(hnf c hc).2.1⟩) i
 by_cases hn0:n=[]
 . subst hn0
   rw[B9 rfl]
   refine L5 Tryz.func92 C Tryz.ntmps92 Tryz.results92 fun B w0=>?_
   refine D7 (H3 C (H3 C (yQ (D7 (B6 C (yC (k1) C C (N9 C (yX C C (yX C C ?_)))))))));refine H3 C (H3 C (yQ (B2 (D7 (B6 C (yB C C C C (yQ (D8 C (B1 ?_)))))))));refine B2 (D7 (B6 C (yN C (yB C C C C (yQ (G2 C (D7 (H3 C (H3 C ?_)))))))));refine yQ (C4 (A5 ?_))
   exact Y7 C C C
 rw[B5 hn0]
 have t0:(((n.map dCf).length:Int)==0)=false:=G9 fun h=>hn0 (List.eq_nil_of_length_eq_zero (by rw[A8]at h;omega))
 obtain⟨r,hr⟩:=H8 (Bt n n.length)
 rw[<-hr]
 refine L5 Tryz.func92 C Tryz.ntmps92 Tryz.results92 fun B w0=>?_
 refine D7 (H3 C (H3 C (yQ (D7 (B6 C (yC (k1) C C (N9 C (yX C C (yX C C ?_)))))))));refine H3 C (H3 C (yQ (B2 (D7 (B6 C (yB C C C C (yQ (D8 C (B1 ?_)))))))));refine B2 (D7 (B6 C (yN C (yB C C C C (yQ (B3 ?_))))));rw[t0];refine D8 C (B1 (D7 (H3 C (yQ (B2 (D7 (H3 C (yQ (B7 ?_)))))))));refine H9 (fun i:Nat=>⟨66,[(4,.d (.sl 2 (n.map dCf))),(6,.d (dS (Bt n i))),(7,.d (dI i))],[],[]⟩) (fun i=>i<=n.length) (fun i=>n.length-i) 0 (E7 _)
  ⟨rfl,⟨E6,E6,E6,D3⟩,D3,D3,rfl⟩ ?_
 intro i hi
 rcases D5 i n.length with h|h
 rotate_left
 . have t1:decide ((i:Int)<((n.map dCf).length:Int))=false:=A7 (by rw[A8];omega)
   obtain rfl:i=n.length:=by omega
   rw[<-hr]
   refine B2 (D7 (B6 C (B6 C (yN C (yB C C C C (yQ (B3 ?_)))))));rw[t1];refine D8 C (F9 (D7 (B6 C (H3 C (H3 C (yQ (C4 ?_)))))))
   exact Y7 C C C
 have t1:decide ((i:Int)<((n.map dCf).length:Int))=true:=B0 (by rw[A8];omega)
 obtain⟨⟨c0,c1⟩,hc⟩:∃ a,n[i]? = some a:=⟨_,A4 h⟩
 have em:=ix dCf n i i (c0,c1) rfl hc
 have hw:=I8 ((i:Int)+1) (by omega)
 obtain⟨q1,q2,q3,q4⟩:=hnf _ (B8 hc)
 simp only at q1 q2 q3 q4
 have hpi:=hpl i
 have hi1000:i<=1000:=by omega
 have k2:=wRCmp0 c1 (by omega)
 have k3:=QK c1 (by omega)
 have hal:=Hn q1
 have hpa:=prT_abs q3 q4
 have hnx:Bt n (i+1)=Bt n i++(CT i (decide (val c1<0))++(LD (Au c1)++c0)):=by rw[Bt,hc];rfl
 rw[LD,hpa]at hnx
 clear hc hr hpl hnf k1 t0 hpa
 have hsg:FP c1<0↔val c1<0:=by unfold FP;split<;>(try split)<;>simp<;>omega
 obtain⟨z,hz⟩:=H8 (FP c1)
 rw[<-hz]at k2 hsg
 clear hz
 obtain⟨P,hP⟩:=H8 (Bt n i)
 rw[<-hP]at hnx hpi ⊢
 clear hP
 by_cases hneg:val c1<0
 . have t2:decide (z<0)=true:=B0 (hsg.2 hneg)
   rw[B0 hneg]at hnx
   have ha:Au c1=J3 (- val c1):=by rw[Au,B9 hneg]
   rw[ha]at hnx hal
   obtain⟨f,hf⟩:=H8 (J3 (- val c1))
   rw[<-hf]at hnx hal k3
   clear hf ha hsg
   by_cases hi0:i=0
   . have t4:decide ((i:Int) > 0)=false:=A7 (by omega)
     rw[show CT i true=[45]by rw[CT,B9 hi0];rfl]at hnx
     by_cases h49:f=[49]
     . rw[B9 h49]at hnx
       have t3:(!(f==[49]))=false:=by simp[h49]
       have hfin:P++[45]++c0=Bt n (i+1):=by rw[hnx];simp
       refine B2 (D7 (B6 C (B6 C (yN C (yB C C C C (yQ (B3 ?_)))))));rw[t1];refine G2 C (B1 (B2 (B7 (D7 (B6 C (B6 C (yW em (by omega) C C (Q3 C C (K5 C C ?_)))))))));refine H3 C (yQ (D7 (B6 C (yC (k2) C C (yB C C C C (H3 C (yQ (B2 (D7 ?_)))))))));refine B6 C (yQ (B3 ?_));rw[t2];refine G2 C (B4 (B6 C (yC (k3) C C (H3 C (yQ (B2 (D7 (B6 C (yB C C C C ?_)))))))));refine B6 C ?_;rw[t4];refine yO C (K9 C C (yQ (D8 C (D7 (B6 C (yB C C C C (yQ (B3 ?_))))))));rw[t4];refine D8 C (D7 (B6 C (yQ (G2 C (B4 (B6 C ?_))))));refine O2 (by simp<;>omega) rfl rfl ?_;refine H3 C (yQ (B2 (D7 (B6 C (L8 C C (yQ (B3 ?_)))))));rw[t3]
       refine D8 C (B1 (B4 (B6 C (B6 C (B6 C (yW em (by omega) C C (Q3 C C (K5 C C ?_))))))));refine O2 (by simp<;>omega) rfl rfl ?_;refine H3 C (yQ (B4 (B6 C (yB C C C C (H3 C (yQ (B3 ?_)))))))
       exact⟨i+1,by omega,by omega,rfl,⟨E6,.of_eq (G4 (fun t=>SV.d (dS t)) hfin),P2 hw,D3⟩,D3,D3,rfl⟩
     . rw[B5 h49]at hnx
       have t3:(!(f==[49]))=true:=by simp[h49]
       have hfin:P++[45]++f++[42]++c0=Bt n (i+1):=by rw[hnx];simp
       refine B2 (D7 (B6 C (B6 C (yN C (yB C C C C (yQ (B3 ?_)))))));rw[t1];refine G2 C (B1 (B2 (B7 (D7 (B6 C (B6 C (yW em (by omega) C C (Q3 C C (K5 C C ?_)))))))));refine H3 C (yQ (D7 (B6 C (yC (k2) C C (yB C C C C (H3 C (yQ (B2 (D7 ?_)))))))));refine B6 C (yQ (B3 ?_));rw[t2];refine G2 C (B4 (B6 C (yC (k3) C C (H3 C (yQ (B2 (D7 (B6 C (yB C C C C ?_)))))))));refine B6 C ?_;rw[t4];refine yO C (K9 C C (yQ (D8 C (D7 (B6 C (yB C C C C (yQ (B3 ?_))))))));rw[t4];refine D8 C (D7 (B6 C (yQ (G2 C (B4 (B6 C ?_))))));refine O2 (by simp<;>omega) rfl rfl ?_;refine H3 C (yQ (B2 (D7 (B6 C (L8 C C (yQ (B3 ?_)))))));rw[t3]
       refine G2 C (B4 (B6 C (B6 C ?_)));refine O2 (by simp<;>omega) rfl rfl ?_;refine O2 (by simp<;>omega) rfl rfl ?_;refine H3 C (yQ (B4 (B6 C (B6 C (B6 C (yW em (by omega) C C (Q3 C C (K5 C C ?_))))))));refine O2 (by simp<;>omega) rfl rfl ?_;refine H3 C (yQ (B4 (B6 C (yB C C C C (H3 C (yQ (B3 ?_)))))))
       exact⟨i+1,by omega,by omega,rfl,⟨E6,.of_eq (G4 (fun t=>SV.d (dS t)) hfin),P2 hw,D3⟩,D3,D3,rfl⟩
   . have t4:decide ((i:Int) > 0)=true:=B0 (by omega)
     rw[show CT i true=[32,45,32]by rw[CT,B5 hi0];rfl]at hnx
     by_cases h49:f=[49]
     . rw[B9 h49]at hnx
       have t3:(!(f==[49]))=false:=by simp[h49]
       have hfin:P++[32,45,32]++c0=Bt n (i+1):=by rw[hnx];simp
       refine B2 (D7 (B6 C (B6 C (yN C (yB C C C C (yQ (B3 ?_)))))));rw[t1];refine G2 C (B1 (B2 (B7 (D7 (B6 C (B6 C (yW em (by omega) C C (Q3 C C (K5 C C ?_)))))))));refine H3 C (yQ (D7 (B6 C (yC (k2) C C (yB C C C C (H3 C (yQ (B2 (D7 ?_)))))))));refine B6 C (yQ (B3 ?_));rw[t2];refine G2 C (B4 (B6 C (yC (k3) C C (H3 C (yQ (B2 (D7 (B6 C (yB C C C C ?_)))))))));refine B6 C ?_;rw[t4];refine B6 C (L0 C C (yQ (G2 C (B4 (B6 C ?_)))));refine O2 (by simp<;>omega) rfl rfl ?_;refine H3 C (yQ (B2 (D7 (B6 C (L8 C C (yQ (B3 ?_)))))));rw[t3]
       refine D8 C (B1 (B4 (B6 C (B6 C (B6 C (yW em (by omega) C C (Q3 C C (K5 C C ?_))))))));refine O2 (by simp<;>omega) rfl rfl ?_;refine H3 C (yQ (B4 (B6 C (yB C C C C (H3 C (yQ (B3 ?_)))))))
       exact⟨i+1,by omega,by omega,rfl,⟨E6,.of_eq (G4 (fun t=>SV.d (dS t)) hfin),P2 hw,D3⟩,D3,D3,rfl⟩
     . rw[B5 h49]at hnx
       have t3:(!(f==[49]))=true:=by simp[h49]
       have hfin:P++[32,45,32]++f++[42]++c0=Bt n (i+1):=by rw[hnx];simp
       refine B2 (D7 (B6 C (B6 C (yN C (yB C C C C (yQ (B3 ?_)))))));rw[t1];refine G2 C (B1 (B2 (B7 (D7 (B6 C (B6 C (yW em (by omega) C C (Q3 C C (K5 C C ?_)))))))));refine H3 C (yQ (D7 (B6 C (yC (k2) C C (yB C C C C (H3 C (yQ (B2 (D7 ?_)))))))));refine B6 C (yQ (B3 ?_));rw[t2];refine G2 C (B4 (B6 C (yC (k3) C C (H3 C (yQ (B2 (D7 (B6 C (yB C C C C ?_)))))))));refine B6 C ?_;rw[t4];refine B6 C (L0 C C (yQ (G2 C (B4 (B6 C ?_)))));refine O2 (by simp<;>omega) rfl rfl ?_;refine H3 C (yQ (B2 (D7 (B6 C (L8 C C (yQ (B3 ?_)))))));rw[t3]
       refine G2 C (B4 (B6 C (B6 C ?_)));refine O2 (by simp<;>omega) rfl rfl ?_;refine O2 (by simp<;>omega) rfl rfl ?_;refine H3 C (yQ (B4 (B6 C (B6 C (B6 C (yW em (by omega) C C (Q3 C C (K5 C C ?_))))))));refine O2 (by simp<;>omega) rfl rfl ?_;refine H3 C (yQ (B4 (B6 C (yB C C C C (H3 C (yQ (B3 ?_)))))))
       exact⟨i+1,by omega,by omega,rfl,⟨E6,.of_eq (G4 (fun t=>SV.d (dS t)) hfin),P2 hw,D3⟩,D3,D3,rfl⟩
 . have t2:decide (z<0)=false:=A7 fun h=>hneg (hsg.1 h)
   rw[A7 hneg]at hnx
   have ha:Au c1=c1:=by rw[Au,B5 hneg]
   rw[ha]at hnx hal
   clear ha hsg
   by_cases hi0:i=0
   . have t4:decide ((i:Int) > 0)=false:=A7 (by omega)
     rw[show CT i false=[]by rw[CT,B9 hi0];rfl]at hnx
     by_cases h49:c1=[49]
     . rw[B9 h49]at hnx
       have t3:(!(c1==[49]))=false:=by simp[h49]
       have hfin:P++c0=Bt n (i+1):=by rw[hnx];simp
       refine B2 (D7 (B6 C (B6 C (yN C (yB C C C C (yQ (B3 ?_)))))));rw[t1];refine G2 C (B1 (B2 (B7 (D7 (B6 C (B6 C (yW em (by omega) C C (Q3 C C (K5 C C ?_)))))))));refine H3 C (yQ (D7 (B6 C (yC (k2) C C (yB C C C C (H3 C (yQ (B2 (D7 ?_)))))))));refine B6 C (yQ (B3 ?_));rw[t2];refine D8 C (B1 (B2 (D7 (B6 C (yB C C C C (B6 C ?_))))));rw[t4];refine yO C (K9 C C (yQ (D8 C (D7 (B6 C (yB C C C C (yQ (B3 ?_))))))));rw[t4];refine D8 C (D7 (B6 C (yQ (D8 C (B1 (B2 (D7 (B6 C (L8 C C ?_)))))))));refine yQ (B3 ?_)
       rw[t3];refine D8 C ?_;refine B1 ?_;refine B4 ?_;refine B6 C ?_;refine B6 C ?_;refine B6 C ?_;refine yW em (by omega) C C ?_;refine Q3 C C ?_;refine K5 C C ?_
       refine O2 (by simp<;>omega) rfl rfl ?_;refine H3 C (yQ (B4 (B6 C (yB C C C C (H3 C (yQ (B3 ?_)))))))
       exact⟨i+1,by omega,by omega,rfl,⟨E6,.of_eq (G4 (fun t=>SV.d (dS t)) hfin),P2 hw,D3⟩,D3,D3,rfl⟩
     . rw[B5 h49]at hnx
       have t3:(!(c1==[49]))=true:=by simp[h49]
       have hfin:P++c1++[42]++c0=Bt n (i+1):=by rw[hnx];simp
       refine B2 (D7 (B6 C (B6 C (yN C (yB C C C C (yQ (B3 ?_)))))));rw[t1];refine G2 C (B1 (B2 (B7 (D7 (B6 C (B6 C (yW em (by omega) C C (Q3 C C (K5 C C ?_)))))))));refine H3 C (yQ (D7 (B6 C (yC (k2) C C (yB C C C C (H3 C (yQ (B2 (D7 ?_)))))))));refine B6 C (yQ (B3 ?_));rw[t2];refine D8 C (B1 (B2 (D7 (B6 C (yB C C C C (B6 C ?_))))));rw[t4];refine yO C (K9 C C (yQ (D8 C (D7 (B6 C (yB C C C C (yQ (B3 ?_))))))));rw[t4];refine D8 C (D7 (B6 C (yQ (D8 C (B1 (B2 (D7 (B6 C (L8 C C ?_)))))))));refine yQ (B3 ?_)
       rw[t3];refine G2 C ?_;refine B4 ?_;refine B6 C ?_;refine B6 C ?_;refine O2 (by simp<;>omega) rfl rfl ?_;refine O2 (by simp<;>omega) rfl rfl ?_;refine H3 C ?_;refine yQ ?_;refine B4 ?_
       refine B6 C (B6 C (B6 C (yW em (by omega) C C (Q3 C C (K5 C C ?_)))));refine O2 (by simp<;>omega) rfl rfl ?_;refine H3 C (yQ (B4 (B6 C (yB C C C C (H3 C (yQ (B3 ?_)))))))
       exact⟨i+1,by omega,by omega,rfl,⟨E6,.of_eq (G4 (fun t=>SV.d (dS t)) hfin),P2 hw,D3⟩,D3,D3,rfl⟩
   . have t4:decide ((i:Int) > 0)=true:=B0 (by omega)
     rw[show CT i false=[32,43,32]by rw[CT,B5 hi0];rfl]at hnx
     by_cases h49:c1=[49]
     . rw[B9 h49]at hnx
       have t3:(!(c1==[49]))=false:=by simp[h49]
       have hfin:P++[32,43,32]++c0=Bt n (i+1):=by rw[hnx];simp
       refine B2 (D7 (B6 C (B6 C (yN C (yB C C C C (yQ (B3 ?_)))))));rw[t1];refine G2 C (B1 (B2 (B7 (D7 (B6 C (B6 C (yW em (by omega) C C (Q3 C C (K5 C C ?_)))))))));refine H3 C (yQ (D7 (B6 C (yC (k2) C C (yB C C C C (H3 C (yQ (B2 (D7 ?_)))))))));refine B6 C (yQ (B3 ?_));rw[t2];refine D8 C (B1 (B2 (D7 (B6 C (yB C C C C (B6 C ?_))))));rw[t4];refine B6 C (L0 C C (yQ (D8 C (D7 (B6 C (yB C C C C (yQ (B3 ?_))))))));rw[t4];refine G2 C (B4 (B6 C ?_));refine O2 (by simp<;>omega) rfl rfl ?_;refine H3 C (yQ (B2 (D7 (B6 C (L8 C C (yQ (B3 ?_)))))))
       rw[t3];refine D8 C ?_;refine B1 ?_;refine B4 ?_;refine B6 C ?_;refine B6 C ?_;refine B6 C ?_;refine yW em (by omega) C C ?_;refine Q3 C C ?_;refine K5 C C ?_
       refine O2 (by simp<;>omega) rfl rfl ?_;refine H3 C (yQ (B4 (B6 C (yB C C C C (H3 C (yQ (B3 ?_)))))))
       exact⟨i+1,by omega,by omega,rfl,⟨E6,.of_eq (G4 (fun t=>SV.d (dS t)) hfin),P2 hw,D3⟩,D3,D3,rfl⟩
     . rw[B5 h49]at hnx
       have t3:(!(c1==[49]))=true:=by simp[h49]
       have hfin:P++[32,43,32]++c1++[42]++c0=Bt n (i+1):=by rw[hnx];simp
       refine B2 (D7 (B6 C (B6 C (yN C (yB C C C C (yQ (B3 ?_)))))));rw[t1];refine G2 C (B1 (B2 (B7 (D7 (B6 C (B6 C (yW em (by omega) C C (Q3 C C (K5 C C ?_)))))))));refine H3 C (yQ (D7 (B6 C (yC (k2) C C (yB C C C C (H3 C (yQ (B2 (D7 ?_)))))))));refine B6 C (yQ (B3 ?_));rw[t2];refine D8 C (B1 (B2 (D7 (B6 C (yB C C C C (B6 C ?_))))));rw[t4];refine B6 C (L0 C C (yQ (D8 C (D7 (B6 C (yB C C C C (yQ (B3 ?_))))))));rw[t4];refine G2 C (B4 (B6 C ?_));refine O2 (by simp<;>omega) rfl rfl ?_;refine H3 C (yQ (B2 (D7 (B6 C (L8 C C (yQ (B3 ?_)))))))
       rw[t3];refine G2 C ?_;refine B4 ?_;refine B6 C ?_;refine B6 C ?_;refine O2 (by simp<;>omega) rfl rfl ?_;refine O2 (by simp<;>omega) rfl rfl ?_;refine H3 C ?_;refine yQ ?_;refine B4 ?_
       refine B6 C (B6 C (B6 C (yW em (by omega) C C (Q3 C C (K5 C C ?_)))));refine O2 (by simp<;>omega) rfl rfl ?_;refine H3 C (yQ (B4 (B6 C (yB C C C C (H3 C (yQ (B3 ?_)))))))
       exact⟨i+1,by omega,by omega,rfl,⟨E6,.of_eq (G4 (fun t=>SV.d (dS t)) hfin),P2 hw,D3⟩,D3,D3,rfl⟩
theorem pa_ok {s:F6} (h:Ki s=0):X0 (Hq s)=0∧nf (Hq s)=Hq s:=by
 unfold Ki at h
 unfold Hq
 split
 . exact⟨rfl,by kernel_rfl⟩
 . rename_i h0
   rw[B5 h0]at h
   by_cases h1:Lc s=true
   . rw[B9 h1]at h ⊢
     by_cases h2:16<(GE s).length
     . rw[B9 h2]at h;omega
     . rw[B5 h2]
       refine⟨T7.2 ⟨D9 (Ek _) (by omega),fun c hc=>⟨?_,Re hc⟩⟩,nf_nf _⟩
       obtain⟨d,hd,q⟩:=GC hc
       obtain⟨p,-,h4⟩:=List.mem_filterMap.1 hd
       rw[<-q]
       exact(Bm h4).1
   . rw[B5 h1]at h;omega
theorem pa_len {s:F6} {L:Nat} (hs:s.length<=L):(Hq s).length<=16 ∧ ∀ c∈Hq s,c.2.length<=L+40:=by
 unfold Hq
 split
 . exact⟨by simp,fun c hc=>by cases hc⟩
 . split
   . split
     . exact⟨by simp,fun c hc=>by cases hc⟩
     . rename_i h2
       have h3:(GE s).length<=16:=by omega
       refine⟨D9 (Ek _) h3,fun c hc=>?_⟩
       have:=GD (e:=GE s) (B:=L+2) (fun d hd=>by
        obtain⟨p,hp,h4⟩:=List.mem_filterMap.1 hd
        have h5:=(Bm h4).2
        have h6:=(Kb s).2 p hp
        omega) hc
       omega
   . exact⟨by simp,fun c hc=>by cases hc⟩
theorem pao_ok:∀ t e,At t=some e->X0 e=0∧nf e=e:=fun t e h=>by
 unfold At at h
 split at h
 . rename_i h1
   cases h
   exact pa_ok h1
 . cases h
section
variable {X:Type} {tp tp':F6->Bool} {pe pe':F6->Option X} {L:Nat}
theorem MQ (h1:∀ t,t.length<=L->tp t=tp' t) (h2:∀ t,t.length<=L->pe t=pe' t) (out:List (Dp X)) {s:F6} (hs:s.length<=L):Y5 tp pe out s=Y5 tp' pe' out s:=by
 have a1:=(V2 32 s).2.1
 have a2:=V2 32 (P7 32 s)
 unfold Y5
 rw[h1 _ (D9 a2.1 (D9 a1 hs)),h2 _ (D9 a2.2.1 (D9 a1 hs))]
theorem IP {f g:List (Dp X)->F6->Option (List (Dp X))}:∀ (l:List F6) (i:Nat) (o:List (Dp X)),(∀ s∈l,∀ o,f o s=g o s)->CO f i o l=CO g i o l
 | [],_,_,_=>rfl
 | [_],_,_,_=>rfl
 | s::s'::l,i,o,h=>by
  rw[BQ,BQ,h s (by simp)]
  cases g o s with
  | none=>rfl
  | some o'=>exact IP (s'::l) (i+1) o' fun t ht=>h t (by simp[ht])
theorem Ok (h1:∀ t,t.length<=L->tp t=tp' t) (h2:∀ t,t.length<=L->pe t=pe' t) {s:F6} (hs:s.length<=L):X7 tp pe s=X7 tp' pe' s:=by
 unfold X7
 rw[IP (R7 10 s) 0 [] fun t ht o=>MQ h1 h2 o (D9 (Co 10 s t ht) hs)]
end
theorem prs_bd {s:F6} (hs:s.length<=2500) {a:List Ru} {n:Int} (h:X7 (M0 I4) At s=(a,n,0)):a.length<=64 ∧ ∀ r∈a,OK r:=by
 rw[Ok (tp':=fun t=>M0 I4 t&&decide (t.length<=2500)) (pe':=fun t=>if t.length<=2500 then At t else none) (L:=2500) (fun t ht=>by simp[ht]) (fun t ht=>by simp[ht]) hs]at h
 obtain⟨-,h1,h2⟩:=RM (P:=fun e=>e.length<=16 ∧ ∀ c∈e,c.1.length<=16∧c.2.length<=2540) (fun t e he=>by
  split at he
  . rename_i ht
    have hz:=(pao_ok t e he).1
    unfold At at he
    split at he
    . cases he
      obtain⟨q1,q2⟩:=pa_len ht
      refine⟨q1,fun c hc=>⟨Cq ((T7.1 hz).2 c hc).1,by have:=q2 c hc;omega⟩⟩
    . cases he
  . cases he) h
 refine⟨h1,fun r hr=>?_⟩
 obtain⟨-,h3,h4⟩:=h2 r hr
 refine⟨by omega,fun l hl=>?_⟩
 obtain⟨q1,q2,q3⟩:=h4 l hl
 simp only[D1,decide_eq_true_eq]at q1
 refine⟨by omega,by omega,fun c hc=>?_⟩
 have:=q3 c hc
 exact⟨by omega,by omega⟩
theorem grt_bd {l:List Ru} (h:HW l=false):l.length<=66 ∧ ∀ r∈l,r.2.length<=66 ∧ ∀ x∈r.2,x.1.length<=60∧x.2.2.length<=18 ∧ ∀ c∈x.2.2,c.1.length<=30∧c.2.length<=13:=by
 simp only[HW,Bool.or_eq_false_iff,List.any_eq_false,decide_eq_false_iff_not]at h
 refine⟨by omega,fun r hr=>?_⟩
 have h1:=h.2 r hr
 simp only[MX,Bool.not_eq_true,Bool.or_eq_false_iff,List.any_eq_false,decide_eq_false_iff_not]at h1
 refine⟨by omega,fun x hx=>?_⟩
 have h2:=h1.2 x hx
 simp only[MY,Bool.not_eq_true,Bool.or_eq_false_iff,List.any_eq_false,decide_eq_false_iff_not]at h2
 refine⟨by omega,by omega,fun c hc=>?_⟩
 have h3:=h2.2 c hc
 simp only[PV,Bool.or_eq_false_iff,decide_eq_false_iff_not]at h3
 omega
theorem grt_bdR {l:List Ru} (h:HW l=false):l.length<=1000000 ∧ ∀ r∈l,OK r:=by
 obtain⟨h1,h2⟩:=grt_bd h
 refine⟨by omega,fun r hr=>⟨by have:=(h2 r hr).1;omega,fun x hx=>?_⟩⟩
 obtain⟨q1,q2,q3⟩:=(h2 r hr).2 x hx
 exact⟨by omega,by omega,fun c hc=>by have:=q3 c hc;exact⟨by omega,by omega⟩⟩
instance:EqOf Tryz.prog 113 [.s,.s]:=LF (by kernel_rfl) (by kernel_rfl) (by kernel_rfl)
instance decLn:DecidableEq Ln:=D6
instance decLns:DecidableEq (List Ln):=@instDecidableEqList Ln decLn
instance decRu:DecidableEq Ru:=@instDecidableEqProd Int (List Ln) D6 decLns
instance decRus:DecidableEq (List Ru):=@instDecidableEqList Ru decRu
theorem JB {l r:List α} {x y:α} (h:l.take i=r.take i) (hx:l[i]? = some x) (hy:r[i]? = some y) (e:x=y):l.take (i+1)=r.take (i+1):=by
 rw[H4,H4,h,hx,hy,e]
theorem Dt {l r:List α} {x y:α} (hx:l[i]? = some x) (hy:r[i]? = some y) (e:x≠y):l≠r:=fun h=>e (by
 subst h
 rw[hx]at hy
 exact J0 hy)
abbrev vCf (x:Cf):List Value:=[vS x.1,vS x.2]
theorem veq_cf (x y:Cf):Lo (vCf x) (vCf y)=decide (x=y):=by
 obtain⟨x0,x1⟩:=x
 obtain⟨y0,y1⟩:=y
 show(veq (vS x0) (vS y0)&&(veq (vS x1) (vS y1)&&true))=_
 rw[NG,NG,Bool.eq_iff_iff]
 simp
theorem wSameE (l r:List Cf) (hl:l.length<=1000000):PCalls Tryz.prog 66 [.sl 2 (l.map dCf),.sl 2 (r.map dCf)] (.d (dB (decide (l=r)))):=by
 by_cases hn:l.length=r.length
 rotate_left
 . have t1:(((l.map dCf).length:Int) != ((r.map dCf).length:Int))=true:=by simp;omega
   rw[A7 fun e=>hn (by rw[e])]
   refine L5 Tryz.func66 C Tryz.ntmps66 Tryz.results66 fun B w0=>?_
   refine D7 (H3 C (yQ (B2 (D7 (B6 C (yN C (B6 C (yN C (yB C C C C ?_)))))))));refine yQ (B3 ?_);rw[t1];refine G2 C (D7 (H3 C (yQ (C4 (A5 ?_)))))
   exact M5 C C
 have t1:(((l.map dCf).length:Int) != ((r.map dCf).length:Int))=false:=by simp;omega
 refine L5 Tryz.func66 C Tryz.ntmps66 Tryz.results66 fun B w0=>?_
 refine D7 (H3 C (yQ (B2 (D7 (B6 C (yN C (B6 C (yN C (yB C C C C ?_)))))))));refine yQ (B3 ?_);rw[t1];refine D8 C (B1 (B2 (D7 (H3 C (yQ (B7 ?_))))));refine H9 (fun i:Nat=>⟨26,[(0,.d (.sl 2 (l.map dCf))),(1,.d (.sl 2 (r.map dCf))),(5,.d (dI i))],[],[]⟩) (fun i=>i<=l.length∧l.take i=r.take i) (fun i=>l.length-i) 0 ⟨E7 _,C⟩ ⟨rfl,⟨E6,E6,E6,D3⟩,D3,D3,C⟩ ?_
 rintro i ⟨hi,h0⟩
 rcases D5 i l.length with h|h
 . have u1:decide ((i:Int)<((l.map dCf).length:Int))=true:=B0 (by rw[A8];omega)
   obtain⟨x,hx⟩:=DJ h
   obtain⟨y,hy⟩:∃ a,r[i]? = some a:=⟨_,A4 (by omega)⟩
   have ex:=ix dCf l i i x rfl hx
   have ey:=ix dCf r i i y rfl hy
   have hw:=I8 ((i:Int)+1) (by omega)
   have hv:=veq_cf x y
   by_cases e:x=y
   . rw[B0 e]at hv
     refine B2 (D7 (B6 C (B6 C (yN C (yB C C C C (yQ (B3 ?_)))))));rw[u1];refine G2 C (B1 (B2 (B7 (B2 ?_))));refine J2 Tryz.mixed (by kernel_rfl) ?_;refine B6 C (B6 C (yW ex (by omega) C C (T3 (ys:=[_,_]) C C C (B6 C (B6 C (yW ey (by omega) C C (T3 (ys:=[_,_]) C C C (yBx (vs:=vCf x) (us:=vCf y) C C C C C C (yQ ?_)))))))));refine B3 ?_;rw[hv]
     refine D8 C (B1 (B4 (B6 C (yB C C C C (H3 C (yQ (B3 ?_)))))))
     refine⟨i+1,⟨by omega,JB h0 hx hy e⟩,by omega,rfl,⟨E6,E6,P2 hw,D3⟩,D3,D3,rfl⟩
   . rw[A7 e]at hv
     rw[A7 (Dt hx hy e)]
     refine B2 (D7 (B6 C (B6 C (yN C (yB C C C C (yQ (B3 ?_)))))));rw[u1];refine G2 C (B1 (B2 (B7 (B2 ?_))));refine J2 Tryz.mixed (by kernel_rfl) ?_;refine B6 C (B6 C (yW ex (by omega) C C (T3 (ys:=[_,_]) C C C (B6 C (B6 C (yW ey (by omega) C C (T3 (ys:=[_,_]) C C C (yBx (vs:=vCf x) (us:=vCf y) C C C C C C (yQ ?_)))))))));refine B3 ?_;rw[hv]
     refine G2 C (D7 (H3 C (yQ (C4 (C3 (A5 (A5 (C3 (A5 ?_)))))))))
     exact M5 C C
 . have u1:decide ((i:Int)<((l.map dCf).length:Int))=false:=A7 (by rw[A8];omega)
   rw[E3 (by omega),E3 (by omega)]at h0
   rw[B0 h0]
   refine B2 (D7 (B6 C (B6 C (yN C (yB C C C C (yQ (B3 ?_)))))));rw[u1];refine D8 C (F9 (D7 (H3 C (yQ (C4 ?_)))))
   exact M5 C C
theorem wSame (a b:List Ru) (hl:a.length<=1000000) (hb:∀ r∈a,OK r):PCalls Tryz.prog 25 [P3 a,P3 b] (.d (dB (decide (a=b)))):=by
 by_cases hn:a.length=b.length
 rotate_left
 . have t1:(((a.map X6).length:Int) != ((b.map X6).length:Int))=true:=by simp;omega
   rw[A7 fun e=>hn (by rw[e])]
   refine L5 Tryz.func25 C Tryz.ntmps25 Tryz.results25 fun B w0=>?_
   refine D7 (H3 C (yQ (B2 (D7 (B6 C (yN C (B6 C (yN C (yB C C C C ?_)))))))));refine yQ (B3 ?_);rw[t1];refine G2 C (D7 (H3 C (yQ (C4 (A5 ?_)))))
   exact M5 C C
 have t1:(((a.map X6).length:Int) != ((b.map X6).length:Int))=false:=by simp;omega
 refine L5 Tryz.func25 C Tryz.ntmps25 Tryz.results25 fun B w0=>?_
 refine D7 (H3 C (yQ (B2 (D7 (B6 C (yN C (B6 C (yN C (yB C C C C ?_)))))))));refine yQ (B3 ?_);rw[t1];refine D8 C (B1 (B2 (D7 (H3 C (yQ (B7 ?_))))));refine H9 (fun i:Nat=>⟨92,[(0,.d (P3 a)),(1,.d (P3 b)),(5,.d (dI i))],[],[]⟩) (fun i=>i<=a.length∧a.take i=b.take i) (fun i=>a.length-i) 0 ⟨E7 _,C⟩ ⟨rfl,⟨E6,E6,E6,D3⟩,D3,D3,C⟩ ?_
 rintro i ⟨hi,h0⟩
 rcases D5 i a.length with h|h
 rotate_left
 . have u1:decide ((i:Int)<((a.map X6).length:Int))=false:=A7 (by rw[A8];omega)
   rw[E3 (by omega),E3 (by omega)]at h0
   rw[B0 h0]
   refine B2 (D7 (B6 C (B6 C (yN C (yB C C C C (yQ (B3 ?_)))))));rw[u1];refine D8 C (F9 (D7 (H3 C (yQ (C4 ?_)))))
   exact M5 C C
 have u1:decide ((i:Int)<((a.map X6).length:Int))=true:=B0 (by rw[A8];omega)
 obtain⟨⟨n,ls⟩,hx⟩:∃ x,a[i]? = some x:=⟨_,A4 h⟩
 obtain⟨⟨n2,ls2⟩,hy⟩:∃ x,b[i]? = some x:=⟨_,A4 (by omega)⟩
 obtain⟨hls,hbl⟩:=hb _ (B8 hx)
 simp only at hls hbl
 have ex:=ix X6 a i i (n,ls) rfl hx
 have ey:=ix X6 b i i (n2,ls2) rfl hy
 have hw:=I8 ((i:Int)+1) (by omega)
 have arith:a.length-(i+1)<a.length-i:=by omega
 by_cases e1:n=n2
 rotate_left
 . have t2:(n != n2)=true:=by simp[e1]
   rw[A7 (Dt hx hy fun e=>e1 (G4 (·.1) e))]
   refine B2 (D7 (B6 C (B6 C (yN C (yB C C C C (yQ (B3 ?_)))))));rw[u1];refine G2 C (B1 (B2 (B7 (B2 (B2 ?_)))));refine J2 Tryz.mixed (by kernel_rfl) ?_;refine B6 C (B6 C (yW ex (by omega) C C (Q3 C C (K5 C C (B6 C (B6 C (yW ey (by omega) C C (Q3 C C (K5 C C ?_)))))))));refine yB C C C C (B6 C ?_);rw[t2];refine yO C (yO C (yO C (yO C (yO C (yO C (yO C (yO C (yO C (yO C ?_)))))))));refine yO C (yO C (yO C (L0 C C (yQ (G2 C (D7 (H3 C (yQ (C4 ?_)))))))));refine A5 (C3 (A5 (A5 (C3 (A5 ?_)))))
   exact M5 C C
 have t2:(n != n2)=false:=by simp[e1]
 by_cases e2:ls.length=ls2.length
 rotate_left
 . have t3:(((ls.map W9).length:Int) != ((ls2.map W9).length:Int))=true:=by simp;omega
   rw[A7 (Dt hx hy fun e=>e2 (G4 (·.2.length) e))]
   refine B2 (D7 (B6 C (B6 C (yN C (yB C C C C (yQ (B3 ?_)))))));rw[u1];refine G2 C (B1 (B2 (B7 (B2 (B2 ?_)))));refine J2 Tryz.mixed (by kernel_rfl) ?_;refine B6 C (B6 C (yW ex (by omega) C C (Q3 C C (K5 C C (B6 C (B6 C (yW ey (by omega) C C (Q3 C C (K5 C C ?_)))))))));refine yB C C C C (B6 C ?_);rw[t2];refine B6 C (B6 C (yW ex (by omega) C C (Q3 C C (K5 C C (yN C (B6 C (B6 C (yW ey (by omega) C C (Q3 C C ?_)))))))));refine K5 C C (yN C (yB C C C C (K9 C C (yQ (B3 ?_)))));rw[t3];refine G2 C (D7 (H3 C (yQ (C4 (A5 (C3 (A5 (A5 (C3 ?_)))))))));refine A5 ?_
   exact M5 C C
 have t3:(((ls.map W9).length:Int) != ((ls2.map W9).length:Int))=false:=by simp;omega
 refine B2 (D7 (B6 C (B6 C (yN C (yB C C C C (yQ (B3 ?_)))))));rw[u1];refine G2 C (B1 (B2 (B7 (B2 (B2 ?_)))));refine J2 Tryz.mixed (by kernel_rfl) ?_;refine B6 C (B6 C (yW ex (by omega) C C (Q3 C C (K5 C C (B6 C (B6 C (yW ey (by omega) C C (Q3 C C (K5 C C ?_)))))))));refine yB C C C C (B6 C ?_);rw[t2];refine B6 C (B6 C (yW ex (by omega) C C (Q3 C C (K5 C C (yN C (B6 C (B6 C (yW ey (by omega) C C (Q3 C C ?_)))))))));refine K5 C C (yN C (yB C C C C (K9 C C (yQ (B3 ?_)))));rw[t3];refine D8 C (B1 (D7 (H3 C (yQ (B7 ?_)))));refine H9 (fun k:Nat=>⟨92,[(0,.d (P3 a)),(1,.d (P3 b)),(5,.d (dI i)),(6,.d (dI k))],[],[]⟩) (fun k=>k<=ls.length∧ls.take k=ls2.take k) (fun k=>ls.length-k) 0 ⟨E7 _,C⟩ ⟨rfl,⟨E6,E6,E6,E6,D3⟩,D3,D3,C⟩ ?_
 rintro k ⟨hk,h2⟩
 rcases D5 k ls.length with h3|h3
 rotate_left
 . have u2:decide ((k:Int)<((ls.map W9).length:Int))=false:=A7 (by rw[A8];omega)
   rw[E3 (by omega),E3 (by omega)]at h2
   have hnx:=JB h0 hx hy (by rw[e1,h2])
   refine B2 (D7 (B6 C (B6 C (B6 C (yW ex (by omega) C C (Q3 C C (K5 C C (yN C (yB C C C C ?_)))))))));refine yQ (B3 ?_);rw[u2];refine D8 C (F9 (B4 (B6 C (yB C C C C (H3 C (yQ (B3 ?_)))))))
   exact⟨i+1,⟨h,hnx⟩,arith,C,⟨E6,E6,P2 hw,D3⟩,D3,D3,C⟩
 have u2:decide ((k:Int)<((ls.map W9).length:Int))=true:=B0 (by rw[A8];omega)
 obtain⟨⟨x0,x1,x2⟩,kx⟩:∃ x,ls[k]? = some x:=⟨_,A4 h3⟩
 obtain⟨⟨y0,y1,y2⟩,ky⟩:∃ x,ls2[k]? = some x:=⟨_,A4 (by omega)⟩
 obtain⟨-,hbe,-⟩:=hbl _ (B8 kx)
 simp only at hbe
 have fx:=ix W9 ls k k (x0,x1,x2) rfl kx
 have fy:=ix W9 ls2 k k (y0,y1,y2) rfl ky
 have hw2:=I8 ((k:Int)+1) (by omega)
 have arith2:ls.length-(k+1)<ls.length-k:=by omega
 have hno:(x0,x1,x2)≠(y0,y1,y2)->a≠b:=fun he=>Dt hx hy fun e=>Dt kx ky he (G4 (·.2) e)
 have c1:=wSameE x2 y2 hbe
 by_cases e3:x0=y0
 rotate_left
 . have v1:(x0==y0)=false:=by simp[e3]
   rw[A7 (hno fun e=>e3 (G4 (·.1) e))]
   refine B2 (D7 (B6 C (B6 C (B6 C (yW ex (by omega) C C (Q3 C C (K5 C C (yN C (yB C C C C ?_)))))))));refine yQ (B3 ?_);rw[u2];refine G2 C (B1 (B2 (B7 (B2 ?_))));refine R8 (id:=11) Tryz.mixed (by kernel_rfl) ?_;refine B6 C (B6 C (yW ex (by omega) C C (Q3 C C (K5 C C (B6 C (yW fx (by omega) C C (T3 (ys:=[_,_,_]) C C C (B6 C (B6 C ?_)))))))));refine yW ey (by omega) C C (Q3 C C (K5 C C (B6 C (yW fy (by omega) C C (T3 (ys:=[_,_,_]) C C C (yZ (cs:=[_,_,_]) C C (yZ (cs:=[_,_,_]) C C (yS (cs':=[_,_,_]) C C C C C (yS (cs':=[_,_,_]) C C C C C ?_)))))))));refine yQ ?_
   refine Px.Sep.mk (by kernel_rfl) ?_;refine D7 (X9 C (AL C C C (X9 C (AL C C C (L8 C C (B6 C ?_))))));rw[v1]
   refine yO C (yO C (yO C (yO C (yO C (L0 C C (B6 C (yO C (yO C (yO C ?_)))))))));refine yO C (yO C (yO C (L0 C C (yQ (G2 C (D7 (H3 C (yQ (C4 ?_)))))))));refine C3 (A5 (A5 (C3 (C3 (A5 (A5 (C3 (A5 ?_))))))))
   exact M5 C C
 have v1:(x0==y0)=true:=by simp[e3]
 by_cases e4:x1=y1
 rotate_left
 . have v2:(x1 != y1)=true:=by simp[e4]
   rw[A7 (hno fun e=>e4 (G4 (·.2.1) e))]
   refine B2 (D7 (B6 C (B6 C (B6 C (yW ex (by omega) C C (Q3 C C (K5 C C (yN C (yB C C C C ?_)))))))));refine yQ (B3 ?_);rw[u2];refine G2 C (B1 (B2 (B7 (B2 ?_))));refine R8 (id:=11) Tryz.mixed (by kernel_rfl) ?_;refine B6 C (B6 C (yW ex (by omega) C C (Q3 C C (K5 C C (B6 C (yW fx (by omega) C C (T3 (ys:=[_,_,_]) C C C (B6 C (B6 C ?_)))))))));refine yW ey (by omega) C C (Q3 C C (K5 C C (B6 C (yW fy (by omega) C C (T3 (ys:=[_,_,_]) C C C (yZ (cs:=[_,_,_]) C C (yZ (cs:=[_,_,_]) C C (yS (cs':=[_,_,_]) C C C C C (yS (cs':=[_,_,_]) C C C C C ?_)))))))));refine yQ ?_
   refine Px.Sep.mk (by kernel_rfl) ?_;refine D7 (X9 C (AL C C C (X9 C (AL C C C (L8 C C (B6 C ?_))))));rw[v1]
   refine X9 C (AL C C C (X9 C (AL C C C (KA (c:=true) Tryz.underlying4 v2 C C (K9 C C (B6 C (yO C (yO C (yO C ?_)))))))));refine yO C (yO C (yO C (L0 C C (yQ (G2 C (D7 (H3 C (yQ (C4 ?_)))))))));refine C3 (A5 (A5 (C3 (C3 (A5 (A5 (C3 (A5 ?_))))))))
   exact M5 C C
 have v2:(x1 != y1)=false:=by simp[e4]
 by_cases e5:x2=y2
 rotate_left
 . rw[A7 e5]at c1
   rw[A7 (hno fun e=>e5 (G4 (·.2.2) e))]
   refine B2 (D7 (B6 C (B6 C (B6 C (yW ex (by omega) C C (Q3 C C (K5 C C (yN C (yB C C C C ?_)))))))));refine yQ (B3 ?_);rw[u2];refine G2 C (B1 (B2 (B7 (B2 ?_))));refine R8 (id:=11) Tryz.mixed (by kernel_rfl) ?_;refine B6 C (B6 C (yW ex (by omega) C C (Q3 C C (K5 C C (B6 C (yW fx (by omega) C C (T3 (ys:=[_,_,_]) C C C (B6 C (B6 C ?_)))))))));refine yW ey (by omega) C C (Q3 C C (K5 C C (B6 C (yW fy (by omega) C C (T3 (ys:=[_,_,_]) C C C (yZ (cs:=[_,_,_]) C C (yZ (cs:=[_,_,_]) C C (yS (cs':=[_,_,_]) C C C C C (yS (cs':=[_,_,_]) C C C C C ?_)))))))));refine yQ ?_
   refine Px.Sep.mk (by kernel_rfl) ?_;refine D7 (X9 C (AL C C C (X9 C (AL C C C (L8 C C (B6 C ?_))))));rw[v1]
   refine X9 C (AL C C C (X9 C (AL C C C (KA (c:=false) Tryz.underlying4 v2 C C (K9 C C (B6 C (X9 C (AL C C C (X9 C ?_)))))))));refine AL C C C (yC (c1) C C (yU C C C (K9 C C (yQ (G2 C (D7 (H3 C (yQ (C4 ?_)))))))));refine C3 (A5 (A5 (C3 (C3 (A5 (A5 (C3 (A5 ?_))))))))
   exact M5 C C
 rw[B0 e5]at c1
 have hnx:=JB h2 kx ky (by rw[e3,e4,e5])
 refine B2 (D7 (B6 C (B6 C (B6 C (yW ex (by omega) C C (Q3 C C (K5 C C (yN C (yB C C C C ?_)))))))));refine yQ (B3 ?_);rw[u2];refine G2 C (B1 (B2 (B7 (B2 ?_))));refine R8 (id:=11) Tryz.mixed (by kernel_rfl) ?_;refine B6 C (B6 C (yW ex (by omega) C C (Q3 C C (K5 C C (B6 C (yW fx (by omega) C C (T3 (ys:=[_,_,_]) C C C (B6 C (B6 C ?_)))))))));refine yW ey (by omega) C C (Q3 C C (K5 C C (B6 C (yW fy (by omega) C C (T3 (ys:=[_,_,_]) C C C (yZ (cs:=[_,_,_]) C C (yZ (cs:=[_,_,_]) C C (yS (cs':=[_,_,_]) C C C C C (yS (cs':=[_,_,_]) C C C C C ?_)))))))));refine yQ ?_
 refine Px.Sep.mk (by kernel_rfl) ?_;refine D7 (X9 C (AL C C C (X9 C (AL C C C (L8 C C (B6 C ?_))))));rw[v1]
 refine X9 C (AL C C C (X9 C (AL C C C (KA (c:=false) Tryz.underlying4 v2 C C (K9 C C (B6 C (X9 C (AL C C C (X9 C ?_)))))))));refine AL C C C (yC (c1) C C (yU C C C (K9 C C (yQ (D8 C (B1 (B4 (B6 C (yB C C C C ?_)))))))));refine H3 C (yQ (B3 ?_))
 exact⟨k+1,⟨h3,hnx⟩,arith2,C,⟨E6,E6,E6,P2 hw2,D3⟩,D3,D3,C⟩
theorem N8 {a b:Bool} (h:a=true) (h':b=true):(a&&b)=true:=by rw[h,h'];rfl
theorem KT:laidOutB Tryz.prog=true:=by kernel_rfl
theorem KS:mapsRowed Tryz.prog=true:=by kernel_rfl
theorem KR:(Tryz.prog.stops==[])=true:=by kernel_rfl
theorem KQ:(Tryz.prog.stopKnobs==[])=true:=by kernel_rfl
theorem FO:Tryz.prog.plainKeys=true:=by kernel_rfl
theorem JF:Tryz.prog.stopsHeard=true:=by kernel_rfl
theorem JE:Tryz.prog.mayEnter=true:=by kernel_rfl
theorem Eh:Tryz.prog.liftsFinal=false:=by kernel_rfl
end Go.Proofs.YtddfimjiihggmaaGreatDoor