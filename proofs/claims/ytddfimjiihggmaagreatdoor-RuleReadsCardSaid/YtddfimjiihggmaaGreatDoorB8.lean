/- Walks: words and names of kinds, by the reference. -/
import Derived.Test.YtddfimjiihggmaaGreatDoorB7
import Derived.Lib.JoinLaws
set_option maxHeartbeats 16000000
set_option maxRecDepth 20000
namespace Go.Proofs.YtddfimjiihggmaaGreatDoor
open Go.RowKit Px
def Gx (n:Int):List F6:=(Z0 n).elim [] fun k=>k.2.2.1
def sgK (n:Int):F6:=(Z0 n).elim [] fun k=>k.2.2.2
theorem SE {P:Int->Prop} (h:∀ k:Nat,k<19->P ((k+1:Nat):Int)) (h0:∀ n:Int,(∀ k:Nat,k<19->n≠((k+1:Nat):Int))->P n) (n:Int):P n:=by
 by_cases hn:∃ k:Nat,k<19∧n=((k+1:Nat):Int)
 . obtain⟨k,hk,rfl⟩:=hn;exact h k hk
 . exact h0 n fun k hk e=>hn ⟨k,hk,e⟩
theorem Nl {n:Int} (h:n<1∨19<n):Z0 n=none:=by
 have:=kndF_is n
 cases e:Z0 n with
 | none=>rfl
 | some k=>rw[e]at this;simp at this;omega
theorem Iv (n:Int):PCalls Tryz.prog 65 [dI n] (.d (dS (HQ n))):=by
 refine L5 Tryz.func65 C Tryz.ntmps65 Tryz.results65 fun B w0=>?_
 refine D7 (H3 C (yQ (B2 (D7 (B6 C (yQ (B7 (D7 (yB C C C C ?_)))))))));refine H3 C (yQ (B3 ?_))
 by_cases h1:n=1
 . have t1:(n==1)=true:=by simp[h1]
   rw[t1];refine G2 C ?_;refine B2 ?_;refine B4 ?_;refine H3 C ?_;refine yQ ?_;refine C4 ?_;refine C3 ?_;refine A5 ?_
   exact J5 _ (.tmp C .nil) (by rw[h1];kernel_rfl)
 have t1:(n==1)=false:=G9 h1
 rw[t1];refine D8 C ?_;refine B2 ?_;refine B4 ?_;refine yB C C C C ?_;refine H3 C ?_;refine yQ ?_;refine B3 ?_
 by_cases h2:n=2
 . have t2:(n==2)=true:=by simp[h2]
   rw[t2];refine G2 C ?_;refine B2 ?_;refine B4 ?_;refine H3 C ?_;refine yQ ?_;refine C4 ?_;refine C3 ?_;refine A5 ?_
   exact J5 _ (.tmp C .nil) (by rw[h2];kernel_rfl)
 have t2:(n==2)=false:=G9 h2
 rw[t2];refine D8 C ?_;refine B2 ?_;refine B4 ?_;refine yB C C C C ?_;refine H3 C ?_;refine yQ ?_;refine B3 ?_
 by_cases h3:n=3
 . have t3:(n==3)=true:=by simp[h3]
   rw[t3];refine G2 C ?_;refine B2 ?_;refine B4 ?_;refine H3 C ?_;refine yQ ?_;refine C4 ?_;refine C3 ?_;refine A5 ?_
   exact J5 _ (.tmp C .nil) (by rw[h3];kernel_rfl)
 have t3:(n==3)=false:=G9 h3
 rw[t3];refine D8 C ?_;refine B2 ?_;refine B4 ?_;refine yB C C C C ?_;refine H3 C ?_;refine yQ ?_;refine B3 ?_
 by_cases h4:n=4
 . have t4:(n==4)=true:=by simp[h4]
   rw[t4];refine G2 C ?_;refine B2 ?_;refine B4 ?_;refine H3 C ?_;refine yQ ?_;refine C4 ?_;refine C3 ?_;refine A5 ?_
   exact J5 _ (.tmp C .nil) (by rw[h4];kernel_rfl)
 have t4:(n==4)=false:=G9 h4
 rw[t4];refine D8 C ?_;refine B2 ?_;refine B4 ?_;refine yB C C C C ?_;refine H3 C ?_;refine yQ ?_;refine B3 ?_
 by_cases h5:n=5
 . have t5:(n==5)=true:=by simp[h5]
   rw[t5];refine G2 C ?_;refine B2 ?_;refine B4 ?_;refine H3 C ?_;refine yQ ?_;refine C4 ?_;refine C3 ?_;refine A5 ?_
   exact J5 _ (.tmp C .nil) (by rw[h5];kernel_rfl)
 have t5:(n==5)=false:=G9 h5
 rw[t5];refine D8 C ?_;refine B2 ?_;refine B4 ?_;refine yB C C C C ?_;refine H3 C ?_;refine yQ ?_;refine B3 ?_
 by_cases h6:n=6
 . have t6:(n==6)=true:=by simp[h6]
   rw[t6];refine G2 C ?_;refine B2 ?_;refine B4 ?_;refine H3 C ?_;refine yQ ?_;refine C4 ?_;refine C3 ?_;refine A5 ?_
   exact J5 _ (.tmp C .nil) (by rw[h6];kernel_rfl)
 have t6:(n==6)=false:=G9 h6
 rw[t6];refine D8 C ?_;refine B2 ?_;refine B4 ?_;refine yB C C C C ?_;refine H3 C ?_;refine yQ ?_;refine B3 ?_
 by_cases h7:n=7
 . have t7:(n==7)=true:=by simp[h7]
   rw[t7];refine G2 C ?_;refine B2 ?_;refine B4 ?_;refine H3 C ?_;refine yQ ?_;refine C4 ?_;refine C3 ?_;refine A5 ?_
   exact J5 _ (.tmp C .nil) (by rw[h7];kernel_rfl)
 have t7:(n==7)=false:=G9 h7
 rw[t7];refine D8 C ?_;refine B2 ?_;refine B4 ?_;refine yB C C C C ?_;refine H3 C ?_;refine yQ ?_;refine B3 ?_
 by_cases h8:n=8
 . have t8:(n==8)=true:=by simp[h8]
   rw[t8];refine G2 C ?_;refine B2 ?_;refine B4 ?_;refine H3 C ?_;refine yQ ?_;refine C4 ?_;refine C3 ?_;refine A5 ?_
   exact J5 _ (.tmp C .nil) (by rw[h8];kernel_rfl)
 have t8:(n==8)=false:=G9 h8
 rw[t8];refine D8 C ?_;refine B2 ?_;refine B4 ?_;refine yB C C C C ?_;refine H3 C ?_;refine yQ ?_;refine B3 ?_
 by_cases h9:n=9
 . have t9:(n==9)=true:=by simp[h9]
   rw[t9];refine G2 C ?_;refine B2 ?_;refine B4 ?_;refine H3 C ?_;refine yQ ?_;refine C4 ?_;refine C3 ?_;refine A5 ?_
   exact J5 _ (.tmp C .nil) (by rw[h9];kernel_rfl)
 have t9:(n==9)=false:=G9 h9
 rw[t9];refine D8 C ?_;refine B2 ?_;refine B4 ?_;refine yB C C C C ?_;refine H3 C ?_;refine yQ ?_;refine B3 ?_
 by_cases h10:n=10
 . have t10:(n==10)=true:=by simp[h10]
   rw[t10];refine G2 C ?_;refine B2 ?_;refine B4 ?_;refine H3 C ?_;refine yQ ?_;refine C4 ?_;refine C3 ?_;refine A5 ?_
   exact J5 _ (.tmp C .nil) (by rw[h10];kernel_rfl)
 have t10:(n==10)=false:=G9 h10
 rw[t10];refine D8 C ?_;refine B2 ?_;refine B4 ?_;refine yB C C C C ?_;refine H3 C ?_;refine yQ ?_;refine B3 ?_
 by_cases h11:n=11
 . have t11:(n==11)=true:=by simp[h11]
   rw[t11];refine G2 C ?_;refine B2 ?_;refine B4 ?_;refine H3 C ?_;refine yQ ?_;refine C4 ?_;refine C3 ?_;refine A5 ?_
   exact J5 _ (.tmp C .nil) (by rw[h11];kernel_rfl)
 have t11:(n==11)=false:=G9 h11
 rw[t11];refine D8 C ?_;refine B2 ?_;refine B4 ?_;refine yB C C C C ?_;refine H3 C ?_;refine yQ ?_;refine B3 ?_
 by_cases h12:n=12
 . have t12:(n==12)=true:=by simp[h12]
   rw[t12];refine G2 C ?_;refine B2 ?_;refine B4 ?_;refine H3 C ?_;refine yQ ?_;refine C4 ?_;refine C3 ?_;refine A5 ?_
   exact J5 _ (.tmp C .nil) (by rw[h12];kernel_rfl)
 have t12:(n==12)=false:=G9 h12
 rw[t12];refine D8 C ?_;refine B2 ?_;refine B4 ?_;refine yB C C C C ?_;refine H3 C ?_;refine yQ ?_;refine B3 ?_
 by_cases h13:n=13
 . have t13:(n==13)=true:=by simp[h13]
   rw[t13];refine G2 C ?_;refine B2 ?_;refine B4 ?_;refine H3 C ?_;refine yQ ?_;refine C4 ?_;refine C3 ?_;refine A5 ?_
   exact J5 _ (.tmp C .nil) (by rw[h13];kernel_rfl)
 have t13:(n==13)=false:=G9 h13
 rw[t13];refine D8 C ?_;refine B2 ?_;refine B4 ?_;refine yB C C C C ?_;refine H3 C ?_;refine yQ ?_;refine B3 ?_
 by_cases h14:n=14
 . have t14:(n==14)=true:=by simp[h14]
   rw[t14];refine G2 C ?_;refine B2 ?_;refine B4 ?_;refine H3 C ?_;refine yQ ?_;refine C4 ?_;refine C3 ?_;refine A5 ?_
   exact J5 _ (.tmp C .nil) (by rw[h14];kernel_rfl)
 have t14:(n==14)=false:=G9 h14
 rw[t14];refine D8 C ?_;refine B2 ?_;refine B4 ?_;refine yB C C C C ?_;refine H3 C ?_;refine yQ ?_;refine B3 ?_
 by_cases h15:n=15
 . have t15:(n==15)=true:=by simp[h15]
   rw[t15];refine G2 C ?_;refine B2 ?_;refine B4 ?_;refine H3 C ?_;refine yQ ?_;refine C4 ?_;refine C3 ?_;refine A5 ?_
   exact J5 _ (.tmp C .nil) (by rw[h15];kernel_rfl)
 have t15:(n==15)=false:=G9 h15
 rw[t15];refine D8 C ?_;refine B2 ?_;refine B4 ?_;refine yB C C C C ?_;refine H3 C ?_;refine yQ ?_;refine B3 ?_
 by_cases h16:n=16
 . have t16:(n==16)=true:=by simp[h16]
   rw[t16];refine G2 C ?_;refine B2 ?_;refine B4 ?_;refine H3 C ?_;refine yQ ?_;refine C4 ?_;refine C3 ?_;refine A5 ?_
   exact J5 _ (.tmp C .nil) (by rw[h16];kernel_rfl)
 have t16:(n==16)=false:=G9 h16
 rw[t16];refine D8 C ?_;refine B2 ?_;refine B4 ?_;refine yB C C C C ?_;refine H3 C ?_;refine yQ ?_;refine B3 ?_
 by_cases h17:n=17
 . have t17:(n==17)=true:=by simp[h17]
   rw[t17];refine G2 C ?_;refine B2 ?_;refine B4 ?_;refine H3 C ?_;refine yQ ?_;refine C4 ?_;refine C3 ?_;refine A5 ?_
   exact J5 _ (.tmp C .nil) (by rw[h17];kernel_rfl)
 have t17:(n==17)=false:=G9 h17
 rw[t17];refine D8 C ?_;refine B2 ?_;refine B4 ?_;refine yB C C C C ?_;refine H3 C ?_;refine yQ ?_;refine B3 ?_
 by_cases h18:n=18
 . have t18:(n==18)=true:=by simp[h18]
   rw[t18];refine G2 C ?_;refine B2 ?_;refine B4 ?_;refine H3 C ?_;refine yQ ?_;refine C4 ?_;refine C3 ?_;refine A5 ?_
   exact J5 _ (.tmp C .nil) (by rw[h18];kernel_rfl)
 have t18:(n==18)=false:=G9 h18
 rw[t18];refine D8 C ?_;refine B2 ?_;refine B4 ?_;refine yB C C C C ?_;refine H3 C ?_;refine yQ ?_;refine B3 ?_
 by_cases h19:n=19
 . have t19:(n==19)=true:=by simp[h19]
   rw[t19];refine G2 C ?_;refine B2 ?_;refine B4 ?_;refine H3 C ?_;refine yQ ?_;refine C4 ?_;refine C3 ?_;refine A5 ?_
   exact J5 _ (.tmp C .nil) (by rw[h19];kernel_rfl)
 have t19:(n==19)=false:=G9 h19
 rw[t19];refine D8 C ?_;refine B1 ?_;refine B2 ?_;refine B4 ?_;refine H3 C ?_;refine yQ ?_;refine C4 ?_
 exact J5 _ (.tmp C .nil) (by rw[HQ,Nl (by omega)];rfl)
theorem kwT_nil (n:Int):(HQ n==[]) = !(Z0 n).isSome:=by
 cases h:Z0 n with
 | none=>rw[HQ,h];rfl
 | some k=>
  have:=(Ic (BZ h).1).2.2
  rw[HQ,h]
  simpa using this
theorem HU (n:Int):Dg (.agg [dS [],.sl 1 [],dS []]) n Bz=.agg (Pi (HQ n,Gx n,sgK n))∧Jh n Bz=(Z0 n).isSome:=by
 refine SE (P:=fun n=>Dg (.agg [dS [],.sl 1 [],dS []]) n Bz=.agg (Pi (HQ n,Gx n,sgK n))∧Jh n Bz=(Z0 n).isSome) (fun k hk=>?_) (fun n hn=>?_) n
 . have:∀ k,k<19->Dg (.agg [dS [],.sl 1 [],dS []]) ((k+1:Nat):Int) Bz=.agg (Pi (HQ ((k+1:Nat):Int),Gx ((k+1:Nat):Int),sgK ((k+1:Nat):Int)))∧Jh ((k+1:Nat):Int) Bz=(Z0 ((k+1:Nat):Int)).isSome:=by
    intro k hk
    match k,hk with
    | 0,_=>exact⟨by kernel_rfl,by kernel_rfl⟩
    | 1,_=>exact⟨by kernel_rfl,by kernel_rfl⟩
    | 2,_=>exact⟨by kernel_rfl,by kernel_rfl⟩
    | 3,_=>exact⟨by kernel_rfl,by kernel_rfl⟩
    | 4,_=>exact⟨by kernel_rfl,by kernel_rfl⟩
    | 5,_=>exact⟨by kernel_rfl,by kernel_rfl⟩
    | 6,_=>exact⟨by kernel_rfl,by kernel_rfl⟩
    | 7,_=>exact⟨by kernel_rfl,by kernel_rfl⟩
    | 8,_=>exact⟨by kernel_rfl,by kernel_rfl⟩
    | 9,_=>exact⟨by kernel_rfl,by kernel_rfl⟩
    | 10,_=>exact⟨by kernel_rfl,by kernel_rfl⟩
    | 11,_=>exact⟨by kernel_rfl,by kernel_rfl⟩
    | 12,_=>exact⟨by kernel_rfl,by kernel_rfl⟩
    | 13,_=>exact⟨by kernel_rfl,by kernel_rfl⟩
    | 14,_=>exact⟨by kernel_rfl,by kernel_rfl⟩
    | 15,_=>exact⟨by kernel_rfl,by kernel_rfl⟩
    | 16,_=>exact⟨by kernel_rfl,by kernel_rfl⟩
    | 17,_=>exact⟨by kernel_rfl,by kernel_rfl⟩
    | 18,_=>exact⟨by kernel_rfl,by kernel_rfl⟩
    | k+19,h=>omega
   exact this k hk
 . have h1:Z0 n=none:=by
    refine Nl ?_
    by_cases h:n<1∨19<n
    . exact h
    . exact G5 (by omega:n=(((n.toNat-1)+1:Nat):Int)) (hn (n.toNat-1) (by omega))
   have h2:∀ (l:List (Int×DV)) z,(∀ p∈l,p.1≠n)->Dg z n l=z∧Jh n l=false:=by
    intro l z hl
    induction l with
    | nil=>exact⟨rfl,C⟩
    | cons p l ih=>
     obtain⟨q1,q2⟩:=ih fun q hq=>hl q (by simp[hq])
     refine⟨?_,?_⟩
     . rw[Dg,B5 (hl p (by simp)),q1]
     . have:=hl p (by simp)
       simp only[Jh,List.any_cons]at q2 ⊢
       rw[q2,G9 this];rfl
   obtain⟨q1,q2⟩:=h2 Bz (.agg [dS [],.sl 1 [],dS []]) fun p hp e=>by
    obtain⟨k,hk,rfl⟩:=H2.1 hp
    have:=Cb hk
    rw[show k.1=n from e,h1]at this
    cases this
   rw[q1,q2,HQ,Gx,sgK,h1]
   exact⟨rfl,C⟩
theorem Cq {s:F6} (h:Bx s=true):s.length<=16:=by
 unfold Bx I4 at h
 simp only[D1,decide_eq_true_eq]at h
 exact h.1.1.2
theorem OJ {c:Cf}:cE c=0↔Bx c.1=true∧Cu c.2=true:=by
 unfold cE
 cases Bx c.1<;>cases Cu c.2<;>simp
theorem T7 {e:List Cf}:X0 e=0↔e.length<=16 ∧ ∀ c∈e,Bx c.1=true∧Cu c.2=true:=by
 unfold X0
 constructor
 . intro h
   split at h
   . cases h
   . exact⟨by omega,fun c hc=>OJ.1 (Sk h c hc)⟩
 . rintro⟨h1,h2⟩
   rw[B5 (by omega)]
   exact Ml fun c hc=>OJ.2 (h2 c hc)
def Pu (e:List Cf):List Cf:=if X0 e=0 then nf e else []
theorem GU (e:List Cf) (hl:e.length<=1000000) (hf:∀ c∈e,c.2.length<=70000):PCalls Tryz.prog 94 [.sl 2 (e.map dCf)] (.tup [.sl 2 ((Pu e).map dCf),dI (X0 e)]):=by
 have k1:=wCheckE e hl fun c hc=>by have:=hf c hc;omega
 by_cases h:X0 e=0
 . obtain⟨h1,h2⟩:=T7.1 h
   have k2:=KD e (by omega) (fun c hc=>by have:=Cq (h2 c hc).1;omega) hf
   rw[Pu,B9 h,h]
   rw[h]at k1
   obtain⟨r,hr⟩:=H8 (nf e)
   rw[<-hr]at k2 ⊢
   refine L5 Tryz.func94 C Tryz.ntmps94 Tryz.results94 fun B w0=>?_
   refine D7 (H3 C (H3 C (yQ (B2 (D7 (B6 C (yC (k1) C C (H3 C (yQ ?_)))))))));refine D7 (B6 C (yB C C C C (yQ (D8 C (B1 (D7 (B6 C (yC (k2) C C (H3 C ?_)))))))));refine H3 C (yQ (C4 ?_))
   exact Y7 C C C
 . have t:(X0 e != 0)=true:=by simpa using h
   rw[Pu,B5 h]
   obtain⟨x,hx⟩:=H8 (X0 e)
   rw[<-hx]at k1 t ⊢
   refine L5 Tryz.func94 C Tryz.ntmps94 Tryz.results94 fun B w0=>?_
   refine D7 (H3 C (H3 C (yQ (B2 (D7 (B6 C (yC (k1) C C (H3 C (yQ ?_)))))))));refine D7 (B6 C (yB C C C C (yQ (B3 ?_))));rw[t];refine G2 C (D7 (B6 C (H3 C (H3 C (yQ (C4 (A5 ?_)))))))
   exact J5 _ (.tnil 2 C (.tmp C .nil)) C
theorem GD {e:List Cf} {B:Nat} (h:∀ c∈e,c.2.length<=B) {p:Cf} (hp:p∈nf e):p.2.length<=B+2*e.length:=by
 rw[((CZ e p).1 hp).2,<-BN]
 exact GY h _ _
end Go.Proofs.YtddfimjiihggmaaGreatDoor
namespace Go.Proofs.YtddfimjiihggmaaGreatDoor.Px
open Go.RowKit
variable {vs:List Value} {u:Value}
section
variable {P:Program} {sq:Bool} {ops:Array Oper} {K:PS->Prop} {rest:List Oper} {st:PS} {d:Option Nat} {ty:TypeId} {pos:String} {af:Array Edge} {gd:Option (Nat×Bool)}
theorem ls_ext (f:FuncId) (l:List Operand) (ts:Array TypeId) (hf:∀ w,(callFunc f vs.toArray).run P w=.ok (.value u) w) (hx:AO st l=some vs) (hu:u.oneCell'=true) (hd:I1 ⟨d,.call { callee:=.value (.func f),args:=l.toArray,argTypes:=ts },ty,pos,af,gd⟩ st=true):
 M6 P ⟨d,.call { callee:=.value (.func f),args:=l.toArray,argTypes:=ts },ty,pos,af,gd⟩ st (.d (.val u)) .no:=fun st2 ha=>
 OpS.value (ha.dst hd) fun _ _ _ a w h=>by
  have h1:AO st2 l=some vs:=by rw[ER fun x hx=>ha.ev x (by simp[Op.operands,Call.operands,hx])];exact hx
  have h2:=He h1 h
  refine⟨u,w,?_,Below.refl _ _,DRep.val _ hu⟩
  have h3:(execOp a.eval ⟨d,.call { callee:=.value (.func f),args:=l.toArray,argTypes:=ts },ty,pos,af,gd⟩).run P w=(callFunc f (l.map a.eval).toArray).run P w:=by
   simp only[execOp,resolve,Act.eval,Deferred.ofValue,Sem.run_bind,Sem.run_pure,D4,invoke,List.map_toArray]
   simp
  rw[h3,h2,hf]
theorem yEx {f:Nat} {l:List Operand} {ts:Array TypeId} (hf:∀ w,(callFunc f vs.toArray).run P w=.ok (.value u) w) (hx:AO st l=some vs) (hu:u.oneCell'=true) (h:YR P sq ops K rest (st.put d (.d (.val u)))) (zz:zk ops st ⟨d,.call { callee:=.value (.func f),args:=l.toArray,argTypes:=ts },ty,pos,af,gd⟩ .no=true:=by kernel_rfl):
 YR P sq ops K (⟨d,.call { callee:=.value (.func f),args:=l.toArray,argTypes:=ts },ty,pos,af,gd⟩::rest) st:=M3 (ls_ext f l ts hf hx hu (zd zz)) (zo zz) (zw zz) h
end
end Go.Proofs.YtddfimjiihggmaaGreatDoor.Px
namespace Go.Proofs.YtddfimjiihggmaaGreatDoor
open Go.RowKit Px Go.Lib
theorem hIB (s:F6) (c:UInt8) (w:World):(callFunc 245 #[vS s,.int .u8 c.toNat]).run Tryz.prog w=.ok (.value (.int .i64 (indexByte s c))) w:=by
 rw[run_callFunc_indexByte Tryz.func245 (by kernel_rfl) (by kernel_rfl) (by kernel_rfl) (by kernel_rfl),run_indexByteString]
 simp[Result.andThen]
theorem wIdxB (s:F6) (c:UInt8):PCalls Tryz.prog 219 [dS s,.val (.int .u8 c.toNat)] (.d (dI (indexByte s c))):=by
 refine L5 Tryz.func219 C Tryz.ntmps219 Tryz.results219 fun B w0=>?_
 refine D7 (H3 C (yQ (D7 (B6 C (B6 C ?_)))));refine yEx (vs:=[vS s,.int .u8 c.toNat]) (fun w=>hIB s c w) C C ?_;refine H3 C (yQ (C4 ?_))
 exact M5 C C
theorem wIdx1 (s:F6) (c:UInt8):PCalls Tryz.prog 176 [dS s,dS [c]] (.d (dI (indexByte s c))):=by
 have k1:=wIdxB s c
 have hx:([c]:F6)[(0:Int).toNat]? = some c:=rfl
 cases h:([c]==s) with
 | true=>
  have e:s=[c]:=by simpa using (beq_iff_eq.1 h).symm
  subst e
  have e0:indexByte [c] c=0:=by simp[indexByte]
  rw[e0]
  refine L5 Tryz.func176 C Tryz.ntmps176 Tryz.results176 fun B w0=>?_
  refine D7 (H3 C (yQ (D7 (B6 C (N3 C (H3 C (yQ (B2 (B7 ?_)))))))));refine D7 (B6 C (yB C C C C (B6 C (B6 C (B6 C (N6 C C (K9 C C (H3 C (yQ ?_)))))))));refine B3 ?_;rw[h];refine G2 C (D7 (H3 C (yQ (C4 (C3 (A5 ?_))))))
  exact M5 C C
 | false=>
  obtain⟨r,hr⟩:=H8 (indexByte s c)
  rw[<-hr]at k1 ⊢
  refine L5 Tryz.func176 C Tryz.ntmps176 Tryz.results176 fun B w0=>?_
  refine D7 (H3 C (yQ (D7 (B6 C (N3 C (H3 C (yQ (B2 (B7 ?_)))))))));refine D7 (B6 C (yB C C C C (B6 C (B6 C (B6 C (N6 C C (K9 C C (H3 C (yQ ?_)))))))));refine B3 ?_;rw[h];refine D8 C (D7 (B6 C (yB C C C C (H3 C (yQ (G2 C (D7 (B6 C (B6 C ?_)))))))));refine U9 hx (by omega) C C (yC (k1) C C (H3 C (yQ (C4 (C3 (A5 ?_))))))
  exact M5 C C
theorem wCutI (s:F6) (c:UInt8) (hl:s.length<=1000000):PCalls Tryz.prog 125 [dS s,dS [c]] (.tup [dS (R0 c s),dS (P7 c s),dB (BL c s)]):=by
 have k1:=wIdx1 s c
 rw[Dm]at k1
 unfold R0 P7 BL
 cases h:T6 c s with
 | none=>
  rw[h]at k1
  refine L5 Tryz.func125 C Tryz.ntmps125 Tryz.results125 fun B w0=>?_
  refine D7 (H3 C (H3 C (H3 C (yQ (B2 (D7 (B6 C (B6 C (yC (k1) C C ?_)))))))));refine H3 C (yQ (D7 (B6 C (yB C C C C (yQ (D8 C (B1 (D7 (B6 C ?_)))))))));refine H3 C (H3 C (H3 C (yQ (C4 ?_))))
  exact J5 _ (.tmp C (.tmp C (.tmp C .nil))) C
 | some p=>
  rw[h]at k1
  obtain⟨t,r⟩:=p
  have he:=AU h
  simp only at k1 he ⊢
  have hle:t.length<=s.length:=by rw[he];simp
  have hw:IntKind.i64.wrap ((t.length:Int)+(([c]:F6).length:Int))=(t.length:Int)+1:=I8 ((t.length:Int)+1) (by omega)
  have h1:s.take ((t.length:Int)).toNat=t:=by rw[H1,he];simp
  have h2:s.drop (((t.length:Int)+1)).toNat=r:=by
   rw[show((t.length:Int)+1).toNat=t.length+1 by omega,he]
   simp
  have h3:(t.length:Int)+1<=s.length:=by rw[he];simp;omega
  have t1:decide ((t.length:Int) ≥ 0)=true:=B0 (by omega)
  obtain⟨n,hn⟩:∃ n:Int,n=(t.length:Int):=⟨_,rfl⟩
  rw[<-hn]at k1 hw h1 h2 h3 t1
  have hn0:0<=n:=by omega
  clear he hn h
  refine L5 Tryz.func125 C Tryz.ntmps125 Tryz.results125 fun B w0=>?_
  refine D7 (H3 C (H3 C (H3 C (yQ (B2 (D7 (B6 C (B6 C (yC (k1) C C ?_)))))))));refine H3 C (yQ (D7 (B6 C (yB C C C C (yQ (B3 ?_))))));rw[t1];refine G2 C (B2 ?_);refine J2 Tryz.mixed (by kernel_rfl) ?_;refine B6 C (B6 C (W6 hn0 (by omega) h1 C C (B6 C (B6 C (B6 C (N3 C (yB C C C C ?_)))))))
  rw[hw];refine V3 (by omega) h3 h2 C C ?_;refine H3 C ?_;refine H3 C ?_;refine H3 C ?_;refine yQ ?_;refine C4 ?_;refine A5 ?_
  exact J5 _ (.tmp C (.tmp C (.tmp C .nil))) C
theorem KH (s:F6) (c:UInt8) (hl:s.length<=1000000):PCalls Tryz.prog 79 [dS s,dS [c]] (.tup [dS (R0 c s),dS (P7 c s),dB (BL c s)]):=by
 have k1:=wCutI s c hl
 refine L5 Tryz.func79 C Tryz.ntmps79 Tryz.results79 fun B w0=>?_
 refine D7 (H3 C (H3 C (H3 C (yQ (D7 (B6 C (B6 C (yC (k1) C C (yX C C ?_)))))))));refine yX C C (yX C C (H3 C (H3 C (H3 C (yQ (C4 ?_))))))
 exact J5 _ (.tmp C (.tmp C (.tmp C .nil))) C
def Hr (c:UInt8):F6->F6
 | []=>[]
 | b::l=>if b=c then l else b::l
def Jy (c:UInt8):F6->Bool
 | []=>false
 | b::_=>b==c
theorem wHasP1 (s:F6) (c:UInt8) (hl:s.length<=1000000):PCalls Tryz.prog 211 [dS s,dS [c]] (.d (dB (Jy c s))):=by
 cases s with
 | nil=>
  refine L5 Tryz.func211 C Tryz.ntmps211 Tryz.results211 fun B w0=>?_
  refine D7 (H3 C (yQ (D7 (B6 C (N3 C (B6 C (N3 C (yB C C C C (B6 C ?_)))))))));refine yO C (yO C (yO C (yO C (yO C (yO C (K9 C C (H3 C (yQ (C4 ?_)))))))))
  exact M5 C C
 | cons b l=>
  have t1:decide ((((b::l:F6).length:Nat):Int) ≥ (([c]:F6).length:Int))=true:=B0 (by simp;omega)
  have h1:(b::l:F6).take ((([c]:F6).length:Int)).toNat=[b]:=rfl
  have e:Jy c (b::l)=(([b]:F6)==[c]):=by simp[Jy]
  rw[e]
  obtain⟨s,hs⟩:=H8 ((b::l:F6))
  rw[<-hs]at t1 h1 ⊢
  have h2:((([c]:F6).length:Nat):Int)<=s.length:=of_decide_eq_true t1
  refine L5 Tryz.func211 C Tryz.ntmps211 Tryz.results211 fun B w0=>?_
  refine D7 (H3 C (yQ (D7 (B6 C (N3 C (B6 C (N3 C (yB C C C C (B6 C ?_)))))))));rw[t1];refine B6 C (B6 C (N3 C (W6 (by omega) h2 h1 C C (B6 C (N6 C C (L0 C C (H3 C (yQ (C4 ?_)))))))))
  exact M5 C C
theorem wCutPI (s:F6) (c:UInt8) (hl:s.length<=1000000):PCalls Tryz.prog 164 [dS s,dS [c]] (.tup [dS (Hr c s),dB (Jy c s)]):=by
 have k1:=wHasP1 s c hl
 cases h:Jy c s with
 | false=>
  rw[h]at k1
  have e:Hr c s=s:=by
   cases s with
   | nil=>rfl
   | cons b l=>have:¬ b=c:=by simpa[Jy]using h
               rw[Hr,B5 this]
  rw[e]
  refine L5 Tryz.func164 C Tryz.ntmps164 Tryz.results164 fun B w0=>?_
  refine D7 (H3 C (H3 C (yQ (B2 (D7 (B6 C (B6 C (yC (k1) C C (yU C C C ?_)))))))));refine yQ (G2 C (D7 (B6 C (H3 C (H3 C (yQ (C4 (A5 ?_))))))))
  exact Y7 C C C
 | true=>
  rw[h]at k1
  obtain⟨l,rfl⟩:∃ l,s=c::l:=by
   cases s with
   | nil=>cases h
   | cons b l=>exact⟨l,by rw[show b=c by simpa[Jy]using h]⟩
  have e:Hr c (c::l)=l:=by rw[Hr,B9 rfl]
  have h1:(c::l:F6).drop ((([c]:F6).length:Int)).toNat=l:=rfl
  have h2:((([c]:F6).length:Nat):Int)<=((c::l:F6).length:Int):=by simp;omega
  rw[e]
  obtain⟨s,hs⟩:=H8 ((c::l:F6))
  rw[<-hs]at k1 h1 h2 ⊢
  refine L5 Tryz.func164 C Tryz.ntmps164 Tryz.results164 fun B w0=>?_
  refine D7 (H3 C (H3 C (yQ (B2 (D7 (B6 C (B6 C (yC (k1) C C (yU C C C ?_)))))))));refine yQ (D8 C (B1 (D7 (B6 C (B6 C (N3 C (V3 (by omega) h2 h1 C C (H3 C (H3 C ?_)))))))));refine yQ (C4 ?_)
  exact Y7 C C C
theorem wCutP1 (s:F6) (c:UInt8) (hl:s.length<=1000000):PCalls Tryz.prog 121 [dS s,dS [c]] (.tup [dS (Hr c s),dB (Jy c s)]):=by
 have k1:=wCutPI s c hl
 refine L5 Tryz.func121 C Tryz.ntmps121 Tryz.results121 fun B w0=>?_
 refine D7 (H3 C (H3 C (yQ (D7 (B6 C (B6 C (yC (k1) C C (yX C C (yX C C ?_)))))))));refine H3 C (H3 C (yQ (C4 ?_)))
 exact Y7 C C C
open Go.RowKit Go.Shelf Px
variable {F:Nat->Nat->Prop} {W:World} {b:Nat}
attribute [local go_sem] Oper.semAt_some
theorem Ol {P:Program} {f:FuncId} {vs us:List Value} (h:PCalls P f (vs.map .val) (.tup (us.map .val))) (h1:∀ v∈vs,v.oneCell'=true) (hg:GlobOk F W):Calls P f vs.toArray W fun e W'=>e=.returned (.tuple us.toArray)∧Below W.heap.size W W':=by
 refine(h F W vs (by simp) (fun i v x hv hx=>?_) hg).mono ?_
 . rw[C6,hv]at hx
   cases hx
   exact DRep.val v (h1 v (B8 hv))
 . rintro e W' ⟨v,rfl,⟨ws,rfl,h3,h4⟩,h5⟩
   have:ws=us:=by
    refine List.ext_getElem (by simpa using h3) fun i h6 h7=>?_
    exact DRep.val_eq (h4 i _ _ (A4 h6) (by rw[C6,A4 h7];rfl))
   rw[this]
   exact⟨rfl,h5⟩
theorem MZ {W':World} (h:GlobOk F W) (hb:Below W.heap.size W W'):GlobOk F W':=fun q cs hq=>by
 obtain⟨h1,vs,h2,T,z,h3⟩:=h q cs hq
 exact⟨h1.mono fun b o hf hs=>⟨hf,L3 (hb.block b (Y1 hs)) o⟩,vs,h2,T,z,(hb.block q (D2.1 h3).1).trans h3⟩
theorem gs_ne {q:Nat} {cs:List DV} (h:G1 gs q=some cs):cs≠[]:=by
 have h1:gs.all (fun p=>!p.2.isEmpty)=true:=by rfl
 have h2:=E5.1 h1 _ (M9 h)
 rintro rfl
 cases h2
theorem PY {W':World} (h:GlobOk F W) (hF:∀ o,¬ F b o) (hb:∀ c,c<W.heap.size->c≠b->W'.heap[c]? = W.heap[c]?):GlobOk F W':=fun q cs hq=>by
 obtain⟨h1,vs,h2,T,z,h3⟩:=h q cs hq
 have hqb:q≠b:=fun e=>by
  cases h1 with
  | ref f hc _=>
   have:=(hc 0 (List.length_pos_iff.2 (gs_ne hq))).2.1
   rw[e]at this
   exact hF _ this
 refine⟨h1.mono fun c o hf hs=>⟨hf,L3 (hb c (Y1 hs) fun e=>hF o (e ▸ hf)) o⟩,vs,h2,T,z,(hb q (D2.1 h3).1 hqb).trans h3⟩
def CellS (W:World) (b:Nat) (s:F6):Prop:=∃ (ys:List Value) (T:Nat),W.heap[b]? = some (.cells ys.toArray T (0,0))∧ys[0]? = some (vS s)
theorem CellS.cell {s:F6} (h:CellS W b s):W.cell? ⟨b,0,none⟩=some (vS s):=by
 obtain⟨ys,T,h1,h2⟩:=h
 simp[World.cell?,h1,h2]
theorem CellS.frz {s:F6} (h:CellS W b s):W.frozen? ⟨b,0,none⟩=false:=by
 obtain⟨ys,T,h1,h2⟩:=h
 simp[World.frozen?,h1]
theorem CellS.lt {s:F6} (h:CellS W b s):b<W.heap.size:=by
 obtain⟨ys,T,h1,h2⟩:=h
 exact(D2.1 h1).1
theorem CellS.same {W':World} {s:F6} (h:CellS W b s) (e:W'.heap[b]? = W.heap[b]?):CellS W' b s:=by
 obtain⟨ys,T,h1,h2⟩:=h
 exact⟨ys,T,e.trans h1,h2⟩
theorem CellS.below {W':World} {s:F6} (h:CellS W b s) (hb:Below W.heap.size W W'):Ho b W W':=by
 have hlt:=h.lt
 obtain⟨ys,T,h1,h2⟩:=h
 exact⟨hb.os,hb.tape,hb.output,hb.size,fun c hc _=>hb.block c hc,_,_,_,(hb.block b hlt).trans h1⟩
theorem CellS.set {s:F6} (h:CellS W b s) (t:F6):CellS (W.setCell ⟨b,0,none⟩ (vS t)) b t∧Ho b W (W.setCell ⟨b,0,none⟩ (vS t)):=by
 obtain⟨ys,T,h1,h2⟩:=h
 have h3:(W.setCell ⟨b,0,none⟩ (vS t)).heap[b]? = some (.cells (ys.set 0 (vS t)).toArray T (0,0)):=by
  simp[World.setCell,Array.getElem?_modify,h1]
 obtain⟨hlt,-⟩:=A6.1 h2
 exact⟨⟨_,T,h3,by simp[hlt]⟩,rfl,rfl,rfl,by simp[World.setCell],fun c _ hc=>Below.heap_setCell W _ _ c (by simpa using hc),_,_,_,h3⟩
def Jq (W:World) (b:Nat):Nat:=match W.cell? ⟨b,0,none⟩ with
 | some (.string s)=>s.size
 | _=>0
theorem CellS.len {s:F6} (h:CellS W b s):Jq W b=s.length:=by
 rw[Jq,h.cell]
 simp[ByteArray.size]
theorem Og (s:F6) (hs:s.length<=1000000) (F:Nat->Nat->Prop) (w:World) (b:Nat) (hF:∀ o,¬ F b o) (hw:CellS w b s):GQ Tryz.prog 210 #[.pointer (some ⟨b,0,none⟩)] ((R7 46 s).map fun t=>[vS t]) b F w:=by
 intro l J Jx hJ hJx hY hgo h0
 refine callsIn_of_wp Tryz.func210 C trivial ?_ C
 simp only[Tryz.ntmps210,List.size_toArray,List.length_cons,List.length_nil,Nat.reduceAdd,Nat.reduceSub,Array.replicate_succ,Array.replicate_zero,List.push_toArray,List.append_toArray,List.nil_append,List.cons_append]
 have HJ:=Lib.hid hJ
 have HJX:=Lib.hid hJx
 have HY:=Lib.hid hY
 have HG:=Lib.hid hgo
 have HF:=Lib.hid hF
 have C2:Hid (∀ t,t.length<=1000000->∀ W,GlobOk F W->Calls Tryz.prog 79 #[vS t,vS [46]] W fun e W'=>e=.returned (.tuple #[vS (R0 46 t),vS (P7 46 t),.bool (BL 46 t)])∧Below W.heap.size W W'):=
  Lib.hid fun t ht W hg=>Ol (vs:=[vS t,vS [46]]) (us:=[vS (R0 46 t),vS (P7 46 t),.bool (BL 46 t)]) (KH t 46 ht) (fun v hv=>by simp at hv;rcases hv with rfl|rfl<;>rfl) hg
 clear hJ hJx hY hgo hF
 gi_wp2
 gi_loopw [3] (fun v3 wr=>∃ (i:Nat) (s':F6),CellS wr b s'∧J i wr∧Hid (((R7 46 s).map fun t=>[vS t]).drop i=(R7 46 s').map (fun t=>[vS t])∧s'.length<=1000000∧GlobOk F wr))
  (fun _ wr=>Jq wr b)
 case atStart=>exact⟨0,s,hw,h0,Lib.hid ⟨rfl,hs,HG.out⟩⟩
 case round=>
  obtain⟨i,s',hc,hJi,HR⟩:=hrel
  have HC:=Lib.hid hc
  have c1:=hc.cell
  have K2:=Lib.hid (C2.out s' HR.out.2.1 wr HR.out.2.2)
  have HX:Hid (((R7 46 s).map fun t=>[vS t])[i]? = some [vS (R0 46 s')]∧((R7 46 s).map fun t=>[vS t]).drop (i+1)=if BL 46 s' then (R7 46 (P7 46 s')).map (fun t=>[vS t])else []):=by
   have hcons:=HR.out.1
   rw[Az 46 s']at hcons
   unfold R0 P7 BL
   refine Lib.hid ?_
   cases e:T6 46 s' with
   | none=>
    rw[e]at hcons
    have h1:=G4 (fun l=>l[0]?) hcons
    have h2:=G4 (List.drop 1) hcons
    exact⟨by simpa using h1,by simpa using h2⟩
   | some p=>
    rw[e]at hcons
    have h1:=G4 (fun l=>l[0]?) hcons
    have h2:=G4 (List.drop 1) hcons
    exact⟨by simpa using h1,by simpa using h2⟩
  clear hc
  gi_wp2_with (refine⟨D3,rfl,?_⟩;gi_at_call 79;refine(callsIn_wide.2 K2.out).mono ?_;rintro e w' ⟨rfl,hb2⟩;obtain⟨fn,tmps,assign,body,hy,hR⟩:=HY.out i _ w' HX.out.1 (HJ.out i _ _ hJi (HC.out.below hb2));have HR2:=Lib.hid hR;have HC2:=Lib.hid (HC.out.same (hb2.block b HC.out.lt));have HG2:=Lib.hid (MZ HR.out.2.2 hb2);clear hR hb2)
  refine⟨rfl,?_⟩
  refine HR2.out.mono ?_
  rintro e W3 (⟨rfl,hJ3,-,hg3,hb3⟩|⟨rfl,hJx3,hb3⟩)
  . have HG3:=Lib.hid hg3
    have HC3:=Lib.hid (HC2.out.same hb3)
    clear hg3 hb3
    cases hb:BL 46 s' with
    | false=>
     have HL:Hid (i+1=((R7 46 s).map fun t=>[vS t]).length):=Lib.hid (by
      have h1:=HX.out.2
      rw[hb,B5 (by simp),List.drop_eq_nil_iff]at h1
      have h2:=(A6.1 HX.out.1).1
      omega)
     gi_wp2
     refine bodyPost_ret (results_none C _ _ _) C ?_
     exact⟨⟨_,C⟩,.inl (by rw[<-HL.out];exact hJ3)⟩
    | true=>
     have c3:=HC3.out.cell
     have f3:=HC3.out.frz
     gi_wp2
     obtain⟨s1,s2⟩:=HC3.out.set (P7 46 s')
     have HG4:=Lib.hid (PY HG3.out HF.out s2.2.2.2.2.1)
     have J4:=HJ.out _ _ _ hJ3 s2
     go_roundw
     case rel=>exact⟨i+1,P7 46 s',s1,J4,Lib.hid ⟨by have:=HX.out.2;rwa [hb,B9 rfl]at this,by have:=(V2 46 s').2.1;have:=HR.out.2.1;omega,HG4.out⟩⟩
     case measure=>rw[s1.len,HC.out.len];exact(V2 46 s').2.2 hb
  . clear hb3
    gi_wp2
    refine bodyPost_ret (results_none C _ _ _) C ?_
    exact⟨⟨_,C⟩,.inr hJx3⟩
open Go.RowKit Px
theorem ON {α:Type} (b:Nat) (x:α) (l:List (Nat×α)):G1 ((b,x)::l) b=some x:=by rw[G3,B9 rfl]
theorem Qj {xs:List Value} {v:Value} (h:xs.take 1=[v]):xs[0]? = some v:=by
 cases xs with
 | nil=>cases h
 | cons x l=>cases h;rfl
def MSeg (s:F6) (i:EI) (r:SV) (j:EI):Prop:=∃ b xs T,xs[0]? = some (vS s)∧G1 i.bs b=none∧r=.d (dH 210 [.val (.pointer (some ⟨b,0,none⟩))])∧j=⟨(b,(xs,T))::i.bs,i.fs,none⟩
theorem Kw (s:F6) (i:EI):HCE Tryz.prog 163 [dS s] i (MSeg s i):=by
 refine Z5 Tryz.func163 C Tryz.ntmps163 Tryz.results163 (by simp) fun p d0=>?_
 refine F5 (N0 (L4 (yK (cs:=[_]) C C (yQ (L4 (H3 C (yQ (C5 ?_))))))));refine NR 1 1 (vs:=[vS s]) C C fun b xs T h1 h2=>?_;refine F5 (N0 (L4 (yMh C (yQ (L4 (H3 C (yQ (C5 (M1 ?_)))))))))
 exact L7 _ (.tmp C .nil) ⟨b,xs,T,Qj h1,h2,C,C⟩
theorem MSeg.ok {s:F6} {i:EI} (r:SV) (j:EI) (h:MSeg s i r j):BR r=true:=by
 obtain⟨b,xs,T,-,-,rfl,-⟩:=h
 rfl
def phT (cn:F6->Bool) (xs:List DV) (r:SV):Prop:=∃ x:F6,xs=[dS x]∧r=.d (dB (cn x))
abbrev vsg (s:F6):List (List Value):=(R7 46 s).map fun t=>[vS t]
theorem Qa {s:F6} {k:Nat} {x:List Value} (h:(vsg s)[k]? = some x):∃ t,(R7 46 s)[k]? = some t∧x=[vS t]:=by
 rw[C6,C7]at h
 obtain⟨t,h1,rfl⟩:=h
 exact⟨t,h1,C⟩
theorem KU (s:F6) (hs:s.length<=1000000) {ys:List Value} {T b:Nat} (hy:ys[0]? = some (vS s)):∀ (F:Nat->Nat->Prop) (w:World),(∀ o,¬ F b o)->w.heap[b]? = some (.cells ys.toArray T (0,0))->GQ Tryz.prog 210 #[.pointer (some ⟨b,0,none⟩)] (vsg s) b F w:=
 fun F w hF hw=>Og s hs F w b hF ⟨ys,T,hw,hy⟩
abbrev fmS (b:Nat):List (Nat×SV):=[(3,.bx 3 0),(4,.bx 4 0),(5,.bx 5 0),(8,.d (.val (.func (.func 210) #[] #[.pointer (some ⟨b,0,none⟩)])))]
abbrev fmB (cn:F6->Bool) (k:Nat):List (Nat×List SV):=[(3,[.d (dF Tryz.prog (phT cn))]),(4,[.d (dB false)]),(5,[.d (dI k)])]
theorem NE (cn:F6->Bool) (s:F6) (hs:s.length<=1000000):PCalls Tryz.prog 119 [dS s,dF Tryz.prog (phT cn)] (.d (dB (Hc cn s))):=by
 obtain⟨r,hr⟩:=H8 (Hc cn s)
 rw[<-hr]
 unfold Hc at hr
 refine P0 Tryz.func119 C Tryz.ntmps119 Tryz.results119 (by simp) fun p d0 hex=>?_
 refine F5 (N0 (L4 (yK (cs:=[_]) C C (yQ (L4 (yZ (cs:=[_]) C C (yQ (C5 (F5 ?_)))))))));refine N0 (L4 (yZ (cs:=[_]) C C (yQ (L4 (X8 (cs':=[_]) C C C C (yQ (C5 (F5 (F5 ?_)))))))));refine N0 (L4 (B6 C (yQ ?_)));refine Ke (Kw s _) MSeg.ok C ?_
 rintro r0 j ⟨b,xs,T,hx,hn,rfl,rfl⟩
 refine S4 (Nq 8 (vs:=[.pointer (some ⟨b,0,none⟩)]) C) ?_;refine L1 ?_;refine px_le (HE.stb _) (st':=⟨20,fmS b,fmB cn 0,[]⟩) ⟨rfl,⟨E6,E6,E6,E6,D3⟩,⟨⟨_,C,H5 _⟩,⟨_,C,H5 _⟩,⟨_,C,H5 _⟩,D3⟩,D3,C⟩ ?_;refine RI (ys:=xs) (T0:=T) (b:=b) (vsg s) [(6,9)] (fun k=>k<=6 ∧ ∀ t∈(R7 46 s).take k,cn t=true) (fun k=>fmB cn k) (fun _=>[]) ⟨by omega,fun t ht=>by simp at ht⟩ rfl (ON b (xs,T) []) (KU s hs hx) (fun x hx=>by obtain⟨t,-,rfl⟩:=H2.1 hx;rfl) rfl rfl (by decide) ?_ ?_
 . rintro k x hx ⟨hk,hI⟩
   obtain⟨t,ht,rfl⟩:=Qa hx
   refine⟨[.any,.any,.any,.bx 3 0,.bx 4 0,.bx 5 0,.d (dS t)],of_decide_eq_true C,.any (.any (.any (.keep C (.refl _) (.keep C (.refl _) (.keep C (.refl _) (.new C C .nil)))))),C,C,by kernel_rfl,fun B w0=>?_⟩
   have hw:IntKind.i64.wrap ((k:Int)+1)=((k+1:Nat):Int):=I8 ((k:Int)+1) (by omega)
   have hlt:=(A6.1 ht).1
   have htk:(R7 46 s).take (k+1)=(R7 46 s).take k++[t]:=by rw[H4,ht];rfl
   by_cases h6:k=6
   . have t1:decide (((k+1:Nat):Int) > 6)=true:=B0 (by omega)
     have hr0:r=false:=by rw[hr,A7 (by omega)];rfl
     subst hr0
     refine B7 (D7 (AL C C C (yB C C C C (X8 (cs':=[_]) C C C C (yQ (D7 (AL C C C (yB C C C C (B6 C ?_)))))))));rw[hw];rw[t1];refine yO C (yO C (yO C (yO C (L0 C C (yQ (G2 C (D7 (X8 (cs':=[_]) C C C C (yQ ?_)))))))));refine C4 (C3 ?_)
     exact⟨[(3,[.d (dF Tryz.prog (phT cn))]),(4,[.d (dB false)]),(5,[.d (dI ((k+1:Nat):Int))])],[],⟨rfl,C,C,D3⟩,D3,C,C,by kernel_rfl,K1 (G0 (L7 _ (.one D6 rfl rfl rfl .nil) rfl))⟩
   . have t1:decide (((k+1:Nat):Int) > 6)=false:=A7 (by omega)
     have hph:phT cn [dS t] (.d (dB (cn t))):=⟨t,rfl,rfl⟩
     cases hc:cn t with
     | false=>
      have hr0:r=false:=by
       rw[hr]
       have:(R7 46 s).all cn=false:=List.all_eq_false.2 ⟨t,B8 ht,by simp[hc]⟩
       rw[this,Bool.and_false]
      subst hr0
      rw[hc]at hph
      refine B7 (D7 (AL C C C (yB C C C C (X8 (cs':=[_]) C C C C (yQ (D7 (AL C C C (yB C C C C (B6 C ?_)))))))));rw[hw];rw[t1];refine AL C C C (B6 C (yCv hph C C C (yU C C C (K9 C C (yQ (G2 C (D7 (X8 (cs':=[_]) C C C C (yQ ?_)))))))));refine C4 (C3 ?_)
      exact⟨[(3,[.d (dF Tryz.prog (phT cn))]),(4,[.d (dB false)]),(5,[.d (dI ((k+1:Nat):Int))])],[],⟨rfl,C,C,D3⟩,D3,C,C,by kernel_rfl,K1 (G0 (L7 _ (.one D6 rfl rfl rfl .nil) rfl))⟩
     | true=>
      rw[hc]at hph
      have hI2:∀ u∈(R7 46 s).take (k+1),cn u=true:=fun u hu=>by
       rw[htk]at hu
       rcases List.mem_append.1 hu with h|h
       . exact hI u h
       . rw[List.mem_singleton.1 h];exact hc
      have hk2:k+1<=6:=by omega
      refine B7 (D7 (AL C C C (yB C C C C (X8 (cs':=[_]) C C C C (yQ (D7 (AL C C C (yB C C C C (B6 C ?_)))))))));rw[hw];rw[t1];refine AL C C C (B6 C (yCv hph C C C (yU C C C (K9 C C (yQ (D8 C (B1 (BA ?_))))))))
      exact⟨⟨hk2,hI2⟩,⟨rfl,C,C,D3⟩,D3⟩
 . rintro⟨hk,hI⟩
   rw[A8]at hk hI
   rw[I2]at hI
   have hr0:r=true:=by rw[hr,B0 hk,E5.2 hI];rfl
   subst hr0
   show CF 0 _ .normal ⟨20,_,[(3,_),(4,_),(5,_)],[]⟩ _
   refine F5 (N0 (L4 (X8 (cs':=[_]) C C C C (yQ (C5 (M1 ?_))))))
   exact L7 _ (.one D6 C C C .nil) C
open Go.RowKit Px Go.Shelf
theorem Nt:∀ xs r,phT I4 xs r->PCalls Tryz.prog 120 (xs++([]:List (List DV)).map DV.ref) r:=by
 rintro _ _ ⟨x,rfl,rfl⟩
 exact KE x
def acE (s:F6):Int:=if Hc I4 s then 0 else 3
theorem QZ (s:F6) (hs:s.length<=1000000):PCalls Tryz.prog 70 [dS s] (.d (dI (acE s))):=by
 have c1:=NE I4 s hs
 unfold acE
 cases h:Hc I4 s with
 | true=>
  rw[h]at c1
  refine L5 Tryz.func70 C Tryz.ntmps70 Tryz.results70 fun B w0=>?_
  refine D7 (H3 C (yQ (B2 (D7 (B6 C ?_)))));refine Jv c1 (.d C (.fn D6 C C Nt .nil)) C ?_;refine yU C C C (yQ (D8 C (B1 (D7 (H3 C (yQ (C4 ?_)))))))
  exact M5 C C
 | false=>
  rw[h]at c1
  refine L5 Tryz.func70 C Tryz.ntmps70 Tryz.results70 fun B w0=>?_
  refine D7 (H3 C (yQ (B2 (D7 (B6 C ?_)))));refine Jv c1 (.d C (.fn D6 C C Nt .nil)) C ?_;refine yU C C C (yQ (G2 C (D7 (H3 C (yQ (C4 (A5 ?_)))))))
  exact M5 C C
def Fo (n o x:F6):F6:=if x=[42]then n else if x=[43]then o else x
abbrev Sg (n o:F6):DV:=dH 224 [.ref [dS n],.ref [dS o]]
theorem NB (n o x:F6):PCalls Tryz.prog 224 [dS x,.ref [dS n],.ref [dS o]] (.tup [dS (Fo n o x),dB (JG x)]):=by
 unfold Fo JG
 by_cases h1:x=[42]
 . have t1:(x==[42])=true:=by simp[h1]
   rw[B9 h1,t1]
   refine L5 Tryz.func224 C Tryz.ntmps224 Tryz.results224 fun B w0=>?_
   refine Bq 1 C ?_;refine Bq 2 C ?_;refine D7 (H3 C (H3 C (yQ (B2 (D7 (B6 C (yQ (B7 (D7 ?_)))))))));refine N6 C C (H3 C (yQ (B3 ?_)));rw[t1];refine G2 C (D7 (K5 C C (H3 C (H3 C (yQ (C4 (C3 (A5 ?_))))))))
   exact Y7 C C C
 have t1:(x==[42])=false:=by simp[h1]
 rw[B5 h1,t1]
 by_cases h2:x=[43]
 . have t2:(x==[43])=true:=by simp[h2]
   rw[B9 h2,t2]
   refine L5 Tryz.func224 C Tryz.ntmps224 Tryz.results224 fun B w0=>?_
   refine Bq 1 C ?_;refine Bq 2 C ?_;refine D7 (H3 C (H3 C (yQ (B2 (D7 (B6 C (yQ (B7 (D7 ?_)))))))));refine N6 C C (H3 C (yQ (B3 ?_)));rw[t1];refine D8 C (D7 (N6 C C (H3 C (yQ (B3 ?_)))));rw[t2];refine G2 C (D7 (K5 C C (H3 C (H3 C (yQ (C4 (C3 (A5 ?_))))))))
   exact Y7 C C C
 have t2:(x==[43])=false:=by simp[h2]
 rw[B5 h2,t2]
 refine L5 Tryz.func224 C Tryz.ntmps224 Tryz.results224 fun B w0=>?_
 refine Bq 1 C ?_;refine Bq 2 C ?_;refine D7 (H3 C (H3 C (yQ (B2 (D7 (B6 C (yQ (B7 (D7 ?_)))))))));refine N6 C C (H3 C (yQ (B3 ?_)));rw[t1];refine D8 C (D7 (N6 C C (H3 C (yQ (B3 ?_)))));rw[t2];refine D8 C (B1 (D7 (B6 C (H3 C (H3 C (yQ (C4 ?_)))))))
 exact Y7 C C C
theorem wNamesF (n o:F6):PCalls Tryz.prog 181 [dS n,dS o] (.d (Sg n o)):=by
 refine L5 Tryz.func181 C Tryz.ntmps181 Tryz.results181 fun B w0=>?_
 refine D7 (yK (cs:=[_]) C C (yK (cs:=[_]) C C (H3 C (yQ ?_))));refine U6 (Ez 2 2 C C C) ?_;refine U6 (Ez 3 3 C C C) ?_;refine D7 (yMh C (H3 C (yQ (C4 ?_))))
 exact M5 C C
def tsB (x:F6):Bool:=JG x||I4 x
theorem wExp1 (n o:F6):∀ xs r,phT tsB xs r->PCalls Tryz.prog 182 (xs++[[Sg n o]].map DV.ref) r:=by
 rintro _ _ ⟨x,rfl,rfl⟩
 show PCalls Tryz.prog 182 [dS x,.ref [Sg n o]] _
 have c1:=NB n o x
 have c2:=KE x
 unfold tsB
 obtain⟨y,hy⟩:=H8 (Fo n o x)
 rw[<-hy]at c1
 cases h:JG x with
 | true=>
  rw[h]at c1
  rw[Bool.true_or]
  refine L5 Tryz.func182 C Tryz.ntmps182 Tryz.results182 fun B w0=>?_
  refine Bq 1 C ?_;refine D7 (H3 C (yQ (D7 (K5 C C (B6 C (yCh c1 C C C (N9 C (yX C C (yX C C ?_)))))))));refine H3 C (H3 C (yQ (D7 (B6 C (B6 C (yO C (yO C (L0 C C (H3 C ?_)))))))));refine yQ (C4 ?_)
  exact M5 C C
 | false=>
  rw[h]at c1
  rw[Bool.false_or]
  obtain⟨b,hb⟩:=H8 (I4 x)
  rw[<-hb]at c2 ⊢
  refine L5 Tryz.func182 C Tryz.ntmps182 Tryz.results182 fun B w0=>?_
  refine Bq 1 C ?_;refine D7 (H3 C (yQ (D7 (K5 C C (B6 C (yCh c1 C C C (N9 C (yX C C (yX C C ?_)))))))));refine H3 C (H3 C (yQ (D7 (B6 C (B6 C (B6 C (yC (c2) C C (K9 C C (H3 C ?_)))))))));refine yQ (C4 ?_)
  exact M5 C C
open Go.RowKit Px Go.Shelf Go.Lib
variable {M:Nat}
theorem SU {F:Nat->Nat->Prop} {w:World} {l:List Value} {T:Nat} (h1:∀ v∈l,v.oneCell'=true) (hl:l.length<=9223372036854775807):DRep (Fx (gF fun b o=>F b o∨w.heap.size<=b)) (w.alloc (.cells l.toArray T)) (.slice (some ⟨w.heap.size,0,none⟩) l.length l.length) (.sl 1 (l.map fun v=>[.val v])):=by
 have hget:∀ i,i<l.length->∃ v,l[i]? = some v∧v∈l:=fun i hi=>⟨l[i],A4 hi,List.getElem_mem _⟩
 refine .sl (fun i j=>(l[i]?).getD undef) (by simp) (E0 _) hl (fun e he=>by obtain⟨v,-,rfl⟩:=H2.1 he;rfl) (fun h0=>⟨w.heap.size,0,rfl,fun i j hi hj=>?_⟩) (fun i j hi hj=>?_) fun i j e x he hx=>?_
 . obtain⟨v,hv,-⟩:=hget i hi
   refine⟨?_,Fx.gF (.inr (E0 _))⟩
   have:0+i*1+j=i:=by omega
   rw[this]
   have hh:(w.alloc (.cells l.toArray T)).heap[w.heap.size]? = some (.cells l.toArray T (0,0)):=World.alloc_heap_new w _
   simp only[World.cell?,hh]
   rw[hv]
   simpa using hv
 . obtain⟨v,hv,hm⟩:=hget i hi
   simp only[hv]
   exact h1 v hm
 . rw[C6,C7]at he
   obtain⟨v,hv,rfl⟩:=he
   match j with
   | 0=>
    cases hx
    simp only[hv]
    exact DRep.val v (h1 v (B8 hv))
   | j+1=>simp at hx
theorem Qn (b:ByteArray):Value.string b=vS b.data.toList:=by cases b;simp
theorem Ga (s:F6) (c:UInt8):(Lib.splitB ⟨#[c]⟩ 0 (s.count c) ⟨s.toArray⟩).map Value.string=(R7 c s).map vS:=by
 have h1:=Lib.splitB_data ⟨#[c]⟩ 0 (s.count c) ⟨s.toArray⟩
 have h2:Lib.splitK [c] 0 (s.count c) s=R7 c s:=Gb c _ s rfl
 have h3:(Lib.splitB ⟨#[c]⟩ 0 (s.count c) ⟨s.toArray⟩).map (·.data.toList)=R7 c s:=h1.trans (by simpa using h2)
 rw[<-h3,List.map_map]
 exact List.map_congr_left fun b _=>Qn b
theorem OU (s:F6) (c:UInt8) (hs:s.length<=1000000):PCalls Tryz.prog 124 [dS s,dS [c],dI 0,dI (-1)] (.d (.sl 1 ((R7 c s).map fun t=>[dS t]))):=fun F w vals hl hr hg=>by
 obtain rfl:vals=[vS s,vS [c],.int .i64 0,.int .i64 (-1)]:=Fv (us:=[vS s,vS [c],.int .i64 0,.int .i64 (-1)]) hl hr
 have hcnt:Lib.countB ⟨s.toArray⟩ ⟨#[c]⟩=s.count c:=by
  show Lib.count s.toArray.toList [c]=_
  rw[Lib.count_one]
 have h1:1<=(⟨#[c]⟩:ByteArray).size:=E0 _
 have hall:=Lib.splitB_all ⟨#[c]⟩ h1 0 _ ⟨s.toArray⟩ hcnt
 have hle:=List.count_le_length (a:=c) (l:=s)
 have h:=Any.strings_genSplit_core Tryz.gspl (by kernel_rfl) ⟨s.toArray⟩ ⟨#[c]⟩ 0 (-1) (s.count c+1) w (by show s.toArray.size<_;rw[List.size_toArray];omega) h1 (E7 _) (fun x cs hx=>by
  refine(Any.strings_Index_one { Tryz.gspl with } x c _).mono fun e w' ⟨he,hw⟩=>⟨?_,hw⟩
  rw[he,<-index_one]) (by
  refine(Any.strings_Count_one { Tryz.gspl with } ⟨s.toArray⟩ c w).mono fun e w' ⟨he,hw⟩=>⟨?_,hw⟩
  rw[he]
  show _=Ending.returned (Value.int .i64 ((Lib.count s.toArray.toList [c]:Nat):Int))
  rw[Lib.count_one]
  rfl) (by decide) (by decide) (by rw[B9 (by decide),hcnt];show((s.count c+1:Nat):Int)=min ((s.count c:Int)+1) ((s.toArray.size:Int)+1);rw[List.size_toArray];omega)
 rw[Nat.add_sub_cancel,hall]at h
 have e2:Lib.cellsOf (Lib.splitB ⟨#[c]⟩ 0 (s.count c) ⟨s.toArray⟩) (s.count c+1)=((R7 c s).map vS).toArray:=by
  rw[<-Ga,<-hall]
  exact Lib.cellsOf_full _
 have e3:s.count c+1=((R7 c s).map vS).length:=by
  rw[<-Ga,A8];exact hall.symm
 rw[e2,e3]at h
 refine Calls.mono h ?_
 rintro e w' ⟨rfl,rfl⟩
 refine⟨_,C,?_,(Below.refl _ w).alloc (E0 _) _⟩
 have:=SU (F:=F) (w:=w) (l:=(R7 c s).map vS) (T:=Tryz.gspl_ren.t 9) (fun v hv=>by obtain⟨t,-,rfl⟩:=H2.1 hv;rfl) (by have:=Ah c s;rw[A8];omega)
 rw[List.map_map]at this
 exact this
theorem QB (s:F6) (c:UInt8) (hs:s.length<=1000000):PCalls Tryz.prog 76 [dS s,dS [c]] (.d (.sl 1 ((R7 c s).map fun t=>[dS t]))):=by
 have c1:=OU s c hs
 obtain⟨l,hl⟩:=H8 ((R7 c s).map fun t=>[dS t])
 rw[<-hl]at c1 ⊢
 refine L5 Tryz.func76 C Tryz.ntmps76 Tryz.results76 fun B w0=>?_
 refine D7 (H3 C (yQ (D7 (B6 C (B6 C (yC (c1) C C (H3 C (yQ (C4 ?_)))))))))
 exact M5 C C
theorem ixb_in (s:F6) (c:UInt8):decide (indexByte s c ≥ 0)=s.contains c:=by
 rw[Dm,Bool.eq_iff_iff,decide_eq_true_iff,List.contains_iff_mem]
 cases h:T6 c s with
 | none=>
  have:=Ev.1 h
  simp[this]
 | some p=>
  have:=AU h
  simp only
  constructor
  . intro _;rw[this];simp
  . intro _;omega
theorem wIndex1 (s:F6) (c:UInt8):PCalls Tryz.prog 155 [dS s,dS [c]] (.d (dI (indexByte s c))):=by
 have c1:=wIdx1 s c
 obtain⟨n,hn⟩:=H8 (indexByte s c)
 rw[<-hn]at c1 ⊢
 refine L5 Tryz.func155 C Tryz.ntmps155 Tryz.results155 fun B w0=>?_
 refine D7 (H3 C (yQ (D7 (B6 C (B6 C (yC (c1) C C (H3 C (yQ (C4 ?_)))))))))
 exact M5 C C
theorem IG (s:F6) (c:UInt8):PCalls Tryz.prog 107 [dS s,dS [c]] (.d (dB (s.contains c))):=by
 have c1:=wIndex1 s c
 rw[<-ixb_in]
 obtain⟨n,hn⟩:=H8 (indexByte s c)
 rw[<-hn]at c1 ⊢
 obtain⟨b,hb⟩:=H8 (decide (n ≥ 0))
 rw[<-hb]
 refine L5 Tryz.func107 C Tryz.ntmps107 Tryz.results107 fun B w0=>?_
 refine D7 (H3 C (yQ (D7 (B6 C (B6 C (yC (c1) C C (yB C C C C (H3 C (yQ ?_)))))))));refine C4 ?_;rw[<-hb]
 exact M5 C C
theorem wJoin (xs:List F6) (sep:F6) (hl:xs.length<=1000000) (hj:(Lib.join xs sep).length<=140737488355328):PCalls Tryz.prog 183 [.sl 1 (xs.map fun t=>[dS t]),dS sep] (.d (dS (Lib.join xs sep))):=by
 obtain⟨r,hrr⟩:=H8 (Lib.join xs sep)
 rw[<-hrr]at hj ⊢
 have e1:Lib.join xs (⟨sep.toArray⟩:ByteArray).data.toList=r:=by rw[hrr]
 refine PCalls.of_any (us:=[vS r]) C (EA _ C) fun F w vals hvl hr hg=>?_
 match vals,hvl with
 | [v,u],_=>
  obtain rfl:u=vS sep:=DRep.val_eq (hr 1 u (dS sep) rfl rfl)
  obtain⟨A,cap,news,hv,hcap,-,-,hnl,hcell,hone,hrep⟩:=DRep.row (hr 0 v _ rfl rfl)
  subst hv
  rw[A8]at hcap hnl hcell ⊢
  have hX:Builder.Extra Tryz.prog Tryz.join_ren:={ sizeBuilder:=by kernel_rfl,liesBuilder:=by kernel_rfl,t5:=by kernel_rfl,a5:=fun _=>by kernel_rfl,z5:=fun _=>by kernel_rfl,v5:=fun _=>by kernel_rfl,infoByte:=by kernel_rfl,cellsByte:=by kernel_rfl,sizeByte:=by kernel_rfl,neB5:=by decide }
  have hmap:(xs.map fun t=>(⟨t.toArray⟩:ByteArray)).map (·.data.toList)=xs:=by rw[List.map_map];exact(List.map_congr_left fun t _=>by simp).trans (List.map_id xs)
  rcases H7 xs.length with h0|h0
  . obtain rfl:xs=[]:=List.eq_nil_of_length_eq_zero h0
    have:=Any.strings_Join_none Tryz.join hX A cap ⟨sep.toArray⟩ w
    have hr0:r=[]:=by rw[hrr];exact Lib.join_nil sep
    rw[hr0]
    refine Calls.mono this ?_
    rintro e w' ⟨rfl,rfl⟩
    exact⟨rfl,Below.refl _ _⟩
  . obtain⟨b,off,rfl,hc⟩:=hcell h0
    have hcells:∀ (j:Nat) x,(xs.map fun t=>(⟨t.toArray⟩:ByteArray))[j]? = some x->w.cell? ⟨b,off+j,none⟩=some (.string x):=fun j x hx=>by
     rw[C6,C7]at hx
     obtain⟨t,ht,rfl⟩:=hx
     obtain⟨u,hu,hd⟩:=hrep j 0 [dS t] (dS t) (by rw[C6,ht];rfl) rfl
     rw[Nat.mul_one,Nat.add_zero]at hu
     rw[(hc j u hu).1,DRep.val_eq hd]
    have hb:b<w.heap.size:=by
     obtain⟨t,ht⟩:=DJ h0
     exact World.block_lt_of_cell? _ _ (hcells 0 ⟨t.toArray⟩ (by rw[C6,ht];rfl))
    have:=Any.strings_Join Tryz.join hX b off cap (xs.map fun t=>(⟨t.toArray⟩:ByteArray)) ⟨sep.toArray⟩ w hcells hb (by rw[A8];omega) (by rw[A8];exact hcap) (by rw[hmap,e1];exact hj)
    rw[hmap,A8,e1]at this
    refine Calls.mono this ?_
    rintro e w' ⟨rfl,h⟩
    exact⟨rfl,h⟩
def Md (s n o:F6):Int:=if M0 I4 s=false then 3 else if (n≠[]∧I4 n=false)∨(o≠[]∧I4 o=false)then 23 else if ((R7 46 s).map (Fo n o)).any (fun x=>x==[])then 9 else 0
def expR (s n o:F6):F6:=if Md s n o=0 then Go.Lib.join ((R7 46 s).map (Fo n o)) [46]else []
theorem SJ {l:List F6} {sep:F6} (h:∀ x∈l,x.length<=M):(Go.Lib.join l sep).length<=l.length*(M+sep.length):=by
 cases l with
 | nil=>simp[Go.Lib.join_nil]
 | cons x r=>
  rw[Go.Lib.join_cons]
  have h1:(Go.Lib.joinTail sep r).length<=r.length*(M+sep.length):=by
   have h2:∀ y∈r,y.length<=M:=fun y hy=>h y (by simp[hy])
   clear h
   unfold Go.Lib.joinTail
   induction r with
   | nil=>simp
   | cons y r ih=>
    have h3:=ih fun z hz=>h2 z (by simp[hz])
    have h4:=h2 y (by simp)
    rw[List.map_cons,List.flatten_cons,C9,C9,List.length_cons,Nat.succ_mul]
    omega
  have h2:=h x (by simp)
  rw[C9,List.length_cons,Nat.succ_mul]
  omega
theorem Qv {n o x:F6} (hn:n.length<=M) (ho:o.length<=M) (hx:x.length<=M):(Fo n o x).length<=M:=by
 unfold Fo
 split
 . exact hn
 . split
   . exact ho
   . exact hx
abbrev exT:Nat:=9*100000+9
abbrev exS (b:Nat):List (Nat×SV):=[(6,.bx 6 0),(7,.bx 7 0),(8,.bx 8 0),(9,.bx 9 0),(37,.d (.val (.func (.func 210) #[] #[.pointer (some ⟨b,0,none⟩)])))]
abbrev exB (n o:F6) (l:List F6):List (Nat×List SV):=[(6,[.d (dS [])]),(7,[.d (dI 0)]),(8,[.d (Sg n o)]),(9,[.ts exT 1 (l.map fun t=>[dS t])])]
abbrev exK (l:List F6):List (Nat×Nat):=[(exT,(l.map fun t=>([dS t]:List DV)).length)]
theorem wExpand (s n o:F6) (hs:s.length<=1000000) (hln:n.length<=1000000) (hlo:o.length<=1000000):PCalls Tryz.prog 129 [dS s,dS n,dS o] (.tup [dS (expR s n o),dI (Md s n o)]):=by
 have c1:=NE tsB s hs
 have c2:=wNamesF n o
 have h1:=wExp1 n o
 have e1:M0 I4 s=Hc tsB s:=rfl
 obtain⟨R,hR⟩:=H8 (expR s n o)
 obtain⟨E,hE⟩:=H8 (Md s n o)
 rw[<-hR,<-hE]
 rw[expR,<-hE]at hR
 rw[Md,e1]at hE
 cases hf:Hc tsB s with
 | false=>
  rw[hf]at c1 hE
  rw[B9 rfl]at hE
  rw[hE,B5 (by omega)]at hR
  subst hR hE
  refine P0 Tryz.func129 C Tryz.ntmps129 Tryz.results129 (by simp) fun p d0 hex=>?_
  refine F5 (N0 (L4 (yZ (cs:=[_]) C C (yQ (L4 (yZ (cs:=[_]) C C (yQ (C5 (F5 ?_)))))))));refine N0 (L4 (B6 C (yQ (L4 (B6 C (yQ (L4 (yC (c2) C C (yQ ?_)))))))));refine L4 (yZ (cs:=[_]) C C (yQ (L4 (yS (cs':=[_]) C C C C C (yQ (C5 (F5 (F5 (N0 ?_)))))))));refine L4 (B6 C (yQ (L4 (OQ C (yQ (L4 ?_))))));refine Jv c1 (.d C (.fn D6 C C h1 .nil)) C ?_;refine yQ (L4 (yU C C C (yQ (C5 (O5 C (F5 (N0 (L4 (X8 (cs':=[_]) C C C C ?_)))))))));refine yQ (L4 (X8 (cs':=[_]) C C C C (yQ (C5 (M1 (G0 ?_))))))
  exact L7 _ (.one D6 C C C (.one D6 C C C .nil)) C
 | true=>
 rw[hf]at c1 hE
 rw[B5 (by simp)]at hE
 have k1:=KE n
 have k2:=KE o
 by_cases hbn:n≠[]∧I4 n=false
 . have t1:(!n==[])=true:=by simp[hbn.1]
   rw[hbn.2]at k1
   rw[B9 (.inl hbn)]at hE
   rw[hE,B5 (by omega)]at hR
   subst hR hE
   refine P0 Tryz.func129 C Tryz.ntmps129 Tryz.results129 (by simp) fun p d0 hex=>?_
   refine F5 (N0 (L4 (yZ (cs:=[_]) C C (yQ (L4 (yZ (cs:=[_]) C C (yQ (C5 (F5 ?_)))))))));refine N0 (L4 (B6 C (yQ (L4 (B6 C (yQ (L4 (yC (c2) C C (yQ ?_)))))))));refine L4 (yZ (cs:=[_]) C C (yQ (L4 (yS (cs':=[_]) C C C C C (yQ (C5 (F5 (F5 (N0 ?_)))))))));refine L4 (B6 C (yQ (L4 (OQ C (yQ (L4 ?_))))));refine Jv c1 (.d C (.fn D6 C C h1 .nil)) C ?_;refine yQ (L4 (yU C C C (yQ (C5 (O4 C (I3 (F5 (F5 (N0 ?_)))))))));refine L4 (B6 C (yQ (L4 (L8 C C (yQ (L4 (B6 C (yQ (L4 ?_)))))))));rw[t1];refine B6 C (yQ (L4 (yC (k1) C C (yQ (L4 (yU C C C (yQ (L4 (L0 C C ?_)))))))));refine yQ (L4 (B6 C (yQ (L4 (yO C (yQ (L4 (yO C (yQ ?_)))))))));refine L4 (yO C (yQ (L4 (yO C (yQ (L4 (yO C (yQ (L4 ?_)))))))));refine yO C (yQ (L4 (yO C (yQ (L4 (L0 C C (yQ (C5 (O5 C ?_)))))))));refine F5 (N0 (L4 (X8 (cs':=[_]) C C C C (yQ (L4 (X8 (cs':=[_]) C C C C (yQ (C5 (M1 ?_)))))))));refine G0 ?_
   exact L7 _ (.one D6 C C C (.one D6 C C C .nil)) C
 have hn':n=[]∨((!n==[])=true∧I4 n=true):=by
  by_cases h:n=[]
  . exact .inl h
  . refine .inr ⟨by simp[h],?_⟩
    cases e:I4 n with
    | true=>rfl
    | false=>exact G5 ⟨h,e⟩ hbn
 by_cases hbo:o≠[]∧I4 o=false
 . have t2:(!o==[])=true:=by simp[hbo.1]
   rw[hbo.2]at k2
   rw[B9 (.inr hbo)]at hE
   rw[hE,B5 (by omega)]at hR
   subst hR hE
   rcases hn' with hn0|⟨t1,hn1⟩
   . have t1:(!n==[])=false:=by simp[hn0]
     refine P0 Tryz.func129 C Tryz.ntmps129 Tryz.results129 (by simp) fun p d0 hex=>?_
     refine F5 (N0 (L4 (yZ (cs:=[_]) C C (yQ (L4 (yZ (cs:=[_]) C C (yQ (C5 (F5 ?_)))))))));refine N0 (L4 (B6 C (yQ (L4 (B6 C (yQ (L4 (yC (c2) C C (yQ ?_)))))))));refine L4 (yZ (cs:=[_]) C C (yQ (L4 (yS (cs':=[_]) C C C C C (yQ (C5 (F5 (F5 (N0 ?_)))))))));refine L4 (B6 C (yQ (L4 (OQ C (yQ (L4 ?_))))));refine Jv c1 (.d C (.fn D6 C C h1 .nil)) C ?_;refine yQ (L4 (yU C C C (yQ (C5 (O4 C (I3 (F5 (F5 (N0 ?_)))))))));refine L4 (B6 C (yQ (L4 (L8 C C (yQ (L4 (B6 C (yQ (L4 ?_)))))))));rw[t1];refine yO C (yQ (L4 (yO C (yQ (L4 (yO C (yQ (L4 (K9 C C ?_)))))))));refine yQ (L4 (B6 C (yQ (L4 (B6 C (yQ (L4 (L8 C C (yQ ?_)))))))));refine L4 (B6 C (yQ (L4 ?_)));rw[t2];refine B6 C (yQ (L4 (yC (k2) C C (yQ (L4 (yU C C C (yQ (L4 (L0 C C ?_)))))))));refine yQ (L4 (K9 C C (yQ (C5 (O5 C (F5 (N0 (L4 (X8 (cs':=[_]) C C C C ?_)))))))));refine yQ (L4 (X8 (cs':=[_]) C C C C (yQ (C5 (M1 (G0 ?_))))))
     exact L7 _ (.one D6 C C C (.one D6 C C C .nil)) C
   . rw[hn1]at k1
     refine P0 Tryz.func129 C Tryz.ntmps129 Tryz.results129 (by simp) fun p d0 hex=>?_
     refine F5 (N0 (L4 (yZ (cs:=[_]) C C (yQ (L4 (yZ (cs:=[_]) C C (yQ (C5 (F5 ?_)))))))));refine N0 (L4 (B6 C (yQ (L4 (B6 C (yQ (L4 (yC (c2) C C (yQ ?_)))))))));refine L4 (yZ (cs:=[_]) C C (yQ (L4 (yS (cs':=[_]) C C C C C (yQ (C5 (F5 (F5 (N0 ?_)))))))));refine L4 (B6 C (yQ (L4 (OQ C (yQ (L4 ?_))))));refine Jv c1 (.d C (.fn D6 C C h1 .nil)) C ?_;refine yQ (L4 (yU C C C (yQ (C5 (O4 C (I3 (F5 (F5 (N0 ?_)))))))));refine L4 (B6 C (yQ (L4 (L8 C C (yQ (L4 (B6 C (yQ (L4 ?_)))))))));rw[t1];refine B6 C (yQ (L4 (yC (k1) C C (yQ (L4 (yU C C C (yQ (L4 (L0 C C ?_)))))))));refine yQ (L4 (B6 C (yQ (L4 (B6 C (yQ (L4 (L8 C C (yQ ?_)))))))));refine L4 (B6 C (yQ (L4 ?_)));rw[t2];refine B6 C (yQ (L4 (yC (k2) C C (yQ (L4 (yU C C C (yQ (L4 (L0 C C ?_)))))))));refine yQ (L4 (K9 C C (yQ (C5 (O5 C (F5 (N0 (L4 (X8 (cs':=[_]) C C C C ?_)))))))));refine yQ (L4 (X8 (cs':=[_]) C C C C (yQ (C5 (M1 (G0 ?_))))))
     exact L7 _ (.one D6 C C C (.one D6 C C C .nil)) C
 have ho':o=[]∨((!o==[])=true∧I4 o=true):=by
  by_cases h:o=[]
  . exact .inl h
  . refine .inr ⟨by simp[h],?_⟩
    cases e:I4 o with
    | true=>rfl
    | false=>exact G5 ⟨h,e⟩ hbo
 rw[B5 (by rintro(h|h);exact hbn h;exact hbo h)]at hE
 have h6:(R7 46 s).length<=6:=by
  rw[Hc,D1]at hf
  exact of_decide_eq_true hf.1
 obtain⟨X,hX⟩:=H8 ((R7 46 s).map (Fo n o))
 rw[<-hX]at hE hR
 have hXl:X.length<=6:=by rw[hX,A8];exact h6
 have hXm:∀ x∈X,x.length<=1000000:=fun x hx=>by
  rw[hX]at hx
  obtain⟨t,ht,rfl⟩:=H2.1 hx
  exact Qv hln hlo (D9 (Co 46 s t ht) hs)
 have hjl:(Go.Lib.join X [46]).length<=140737488355328:=by
  have h1:=SJ (sep:=[46]) hXm
  have h2:X.length*(1000000+([46]:F6).length)<=6*1000001:=Nat.mul_le_mul hXl (E0 _)
  omega
 have k3:=wJoin X [46] (by omega) hjl
 refine P0 Tryz.func129 C Tryz.ntmps129 Tryz.results129 (by simp) fun p d0 hex=>?_
 rcases hn' with hn0|⟨t1,hn1⟩<;>rcases ho' with ho0|⟨t2,ho1⟩
 all_goals
  first
   | (have t1:(!n==[])=false:=by simp[hn0]);skip
   | rw[hn1]at k1
  first
   | (have t2:(!o==[])=false:=by simp[ho0]);skip
   | rw[ho1]at k2
  first
   | (refine F5 ?_;refine N0 ?_;refine L4 ?_;refine yZ (cs:=[_]) C C (yQ ?_);refine L4 ?_;refine yZ (cs:=[_]) C C (yQ ?_);refine C5 ?_;refine F5 ?_;refine N0 ?_;refine L4 ?_;refine B6 C (yQ ?_);refine L4 ?_;refine B6 C (yQ ?_);refine L4 ?_;refine yC (c2) C C (yQ ?_);refine L4 ?_;refine yZ (cs:=[_]) C C (yQ ?_);refine L4 ?_;refine yS (cs':=[_]) C C C C C (yQ ?_);refine C5 ?_;refine F5 ?_;refine F5 ?_;refine N0 ?_;refine L4 ?_;refine B6 C (yQ ?_);refine L4 ?_;refine OQ C (yQ ?_);refine L4 ?_;refine Jv c1 (.d C (.fn D6 C C h1 .nil)) C ?_;refine yQ ?_;refine L4 ?_;refine yU C C C (yQ ?_);refine C5 ?_;refine O4 C ?_;refine I3 ?_;refine F5 ?_;refine F5 ?_;refine N0 ?_;refine L4 ?_;refine B6 C (yQ ?_);refine L4 ?_;refine L8 C C (yQ ?_);refine L4 ?_;refine B6 C (yQ ?_);refine L4 ?_;rw[t1];refine yO C (yQ ?_);refine L4 ?_;refine yO C (yQ ?_);refine L4 ?_;refine yO C (yQ ?_);refine L4 ?_;refine K9 C C (yQ ?_);refine L4 ?_;refine B6 C (yQ ?_);refine L4 ?_;refine B6 C (yQ ?_);refine L4 ?_;refine L8 C C (yQ ?_);refine L4 ?_;refine B6 C (yQ ?_);refine L4 ?_;rw[t2];refine yO C (yQ ?_);refine L4 ?_;refine yO C (yQ ?_);refine L4 ?_;refine yO C (yQ ?_);refine L4 ?_;refine K9 C C (yQ ?_);refine L4 ?_;refine K9 C C (yQ ?_);refine C5 ?_;refine O4 C ?_;refine I3 ?_;refine F5 ?_;refine N0 ?_;refine L4 ?_;refine yZ (cs:=[_]) C C (yQ ?_);refine C5 ?_;refine S4 (Cm 9 0 exT 1 C C C C) ?_;refine F5 ?_;refine F5 ?_;refine N0 ?_;refine L4 ?_;refine B6 C (yQ ?_);refine Ke (Kw s _) MSeg.ok C ?_)
   | (refine F5 ?_;refine N0 ?_;refine L4 ?_;refine yZ (cs:=[_]) C C (yQ ?_);refine L4 ?_;refine yZ (cs:=[_]) C C (yQ ?_);refine C5 ?_;refine F5 ?_;refine N0 ?_;refine L4 ?_;refine B6 C (yQ ?_);refine L4 ?_;refine B6 C (yQ ?_);refine L4 ?_;refine yC (c2) C C (yQ ?_);refine L4 ?_;refine yZ (cs:=[_]) C C (yQ ?_);refine L4 ?_;refine yS (cs':=[_]) C C C C C (yQ ?_);refine C5 ?_;refine F5 ?_;refine F5 ?_;refine N0 ?_;refine L4 ?_;refine B6 C (yQ ?_);refine L4 ?_;refine OQ C (yQ ?_);refine L4 ?_;refine Jv c1 (.d C (.fn D6 C C h1 .nil)) C ?_;refine yQ ?_;refine L4 ?_;refine yU C C C (yQ ?_);refine C5 ?_;refine O4 C ?_;refine I3 ?_;refine F5 ?_;refine F5 ?_;refine N0 ?_;refine L4 ?_;refine B6 C (yQ ?_);refine L4 ?_;refine L8 C C (yQ ?_);refine L4 ?_;refine B6 C (yQ ?_);refine L4 ?_;rw[t1];refine yO C (yQ ?_);refine L4 ?_;refine yO C (yQ ?_);refine L4 ?_;refine yO C (yQ ?_);refine L4 ?_;refine K9 C C (yQ ?_);refine L4 ?_;refine B6 C (yQ ?_);refine L4 ?_;refine B6 C (yQ ?_);refine L4 ?_;refine L8 C C (yQ ?_);refine L4 ?_;refine B6 C (yQ ?_);refine L4 ?_;rw[t2];refine B6 C (yQ ?_);refine L4 ?_;refine yC (k2) C C (yQ ?_);refine L4 ?_;refine yU C C C (yQ ?_);refine L4 ?_;refine L0 C C (yQ ?_);refine L4 ?_;refine K9 C C (yQ ?_);refine C5 ?_;refine O4 C ?_;refine I3 ?_;refine F5 ?_;refine N0 ?_;refine L4 ?_;refine yZ (cs:=[_]) C C (yQ ?_);refine C5 ?_;refine S4 (Cm 9 0 exT 1 C C C C) ?_;refine F5 ?_;refine F5 ?_;refine N0 ?_;refine L4 ?_;refine B6 C (yQ ?_);refine Ke (Kw s _) MSeg.ok C ?_)
   | (refine F5 ?_;refine N0 ?_;refine L4 ?_;refine yZ (cs:=[_]) C C (yQ ?_);refine L4 ?_;refine yZ (cs:=[_]) C C (yQ ?_);refine C5 ?_;refine F5 ?_;refine N0 ?_;refine L4 ?_;refine B6 C (yQ ?_);refine L4 ?_;refine B6 C (yQ ?_);refine L4 ?_;refine yC (c2) C C (yQ ?_);refine L4 ?_;refine yZ (cs:=[_]) C C (yQ ?_);refine L4 ?_;refine yS (cs':=[_]) C C C C C (yQ ?_);refine C5 ?_;refine F5 ?_;refine F5 ?_;refine N0 ?_;refine L4 ?_;refine B6 C (yQ ?_);refine L4 ?_;refine OQ C (yQ ?_);refine L4 ?_;refine Jv c1 (.d C (.fn D6 C C h1 .nil)) C ?_;refine yQ ?_;refine L4 ?_;refine yU C C C (yQ ?_);refine C5 ?_;refine O4 C ?_;refine I3 ?_;refine F5 ?_;refine F5 ?_;refine N0 ?_;refine L4 ?_;refine B6 C (yQ ?_);refine L4 ?_;refine L8 C C (yQ ?_);refine L4 ?_;refine B6 C (yQ ?_);refine L4 ?_;rw[t1];refine B6 C (yQ ?_);refine L4 ?_;refine yC (k1) C C (yQ ?_);refine L4 ?_;refine yU C C C (yQ ?_);refine L4 ?_;refine L0 C C (yQ ?_);refine L4 ?_;refine B6 C (yQ ?_);refine L4 ?_;refine B6 C (yQ ?_);refine L4 ?_;refine L8 C C (yQ ?_);refine L4 ?_;refine B6 C (yQ ?_);refine L4 ?_;rw[t2];refine yO C (yQ ?_);refine L4 ?_;refine yO C (yQ ?_);refine L4 ?_;refine yO C (yQ ?_);refine L4 ?_;refine K9 C C (yQ ?_);refine L4 ?_;refine K9 C C (yQ ?_);refine C5 ?_;refine O4 C ?_;refine I3 ?_;refine F5 ?_;refine N0 ?_;refine L4 ?_;refine yZ (cs:=[_]) C C (yQ ?_);refine C5 ?_;refine S4 (Cm 9 0 exT 1 C C C C) ?_;refine F5 ?_;refine F5 ?_;refine N0 ?_;refine L4 ?_;refine B6 C (yQ ?_);refine Ke (Kw s _) MSeg.ok C ?_)
   | (refine F5 ?_;refine N0 ?_;refine L4 ?_;refine yZ (cs:=[_]) C C (yQ ?_);refine L4 ?_;refine yZ (cs:=[_]) C C (yQ ?_);refine C5 ?_;refine F5 ?_;refine N0 ?_;refine L4 ?_;refine B6 C (yQ ?_);refine L4 ?_;refine B6 C (yQ ?_);refine L4 ?_;refine yC (c2) C C (yQ ?_);refine L4 ?_;refine yZ (cs:=[_]) C C (yQ ?_);refine L4 ?_;refine yS (cs':=[_]) C C C C C (yQ ?_);refine C5 ?_;refine F5 ?_;refine F5 ?_;refine N0 ?_;refine L4 ?_;refine B6 C (yQ ?_);refine L4 ?_;refine OQ C (yQ ?_);refine L4 ?_;refine Jv c1 (.d C (.fn D6 C C h1 .nil)) C ?_;refine yQ ?_;refine L4 ?_;refine yU C C C (yQ ?_);refine C5 ?_;refine O4 C ?_;refine I3 ?_;refine F5 ?_;refine F5 ?_;refine N0 ?_;refine L4 ?_;refine B6 C (yQ ?_);refine L4 ?_;refine L8 C C (yQ ?_);refine L4 ?_;refine B6 C (yQ ?_);refine L4 ?_;rw[t1];refine B6 C (yQ ?_);refine L4 ?_;refine yC (k1) C C (yQ ?_);refine L4 ?_;refine yU C C C (yQ ?_);refine L4 ?_;refine L0 C C (yQ ?_);refine L4 ?_;refine B6 C (yQ ?_);refine L4 ?_;refine B6 C (yQ ?_);refine L4 ?_;refine L8 C C (yQ ?_);refine L4 ?_;refine B6 C (yQ ?_);refine L4 ?_;rw[t2];refine B6 C (yQ ?_);refine L4 ?_;refine yC (k2) C C (yQ ?_);refine L4 ?_;refine yU C C C (yQ ?_);refine L4 ?_;refine L0 C C (yQ ?_);refine L4 ?_;refine K9 C C (yQ ?_);refine C5 ?_;refine O4 C ?_;refine I3 ?_;refine F5 ?_;refine N0 ?_;refine L4 ?_;refine yZ (cs:=[_]) C C (yQ ?_);refine C5 ?_;refine S4 (Cm 9 0 exT 1 C C C C) ?_;refine F5 ?_;refine F5 ?_;refine N0 ?_;refine L4 ?_;refine B6 C (yQ ?_);refine Ke (Kw s _) MSeg.ok C ?_)
  rintro r0 j ⟨b,xs,T,hx,hn,rfl,rfl⟩
  refine S4 (Nq 37 (vs:=[.pointer (some ⟨b,0,none⟩)]) C) ?_;refine L1 ?_;refine px_le (HE.stb _) (st':=⟨53,exS b,exB n o (X.take 0),exK (X.take 0)⟩) ⟨rfl,⟨E6,E6,E6,E6,E6,D3⟩,⟨⟨_,C,H5 _⟩,⟨_,C,H5 _⟩,⟨_,C,H5 _⟩,⟨_,C,H5 _⟩,D3⟩,⟨rfl,D3⟩,C⟩ ?_;refine RI (ys:=xs) (T0:=T) (b:=b) (vsg s) [(10,38)] (fun k=>∀ t∈X.take k,t≠[]) (fun k=>exB n o (X.take k)) (fun k=>exK (X.take k)) (fun t ht=>by simp at ht) rfl (ON b (xs,T) []) (KU s hs hx) (fun x hx=>by obtain⟨t,-,rfl⟩:=H2.1 hx;rfl) rfl rfl (by decide) ?_ ?_
  . rintro k x hx2 hI
    obtain⟨t,ht,rfl⟩:=Qa hx2
    refine⟨[.any,.any,.any,.any,.any,.any,.bx 6 0,.bx 7 0,.bx 8 0,.bx 9 0,.d (dS t)],of_decide_eq_true C,.any (.any (.any (.any (.any (.any (.keep C (.refl _) (.keep C (.refl _) (.keep C (.refl _) (.keep C (.refl _) (.new C C .nil)))))))))),C,C,by kernel_rfl,fun B w0=>?_⟩
    have q1:=NB n o t
    have hXk:X[k]? = some (Fo n o t):=by rw[hX,C6,ht];rfl
    have htk:X.take (k+1)=X.take k++[Fo n o t]:=by rw[H4,hXk];rfl
    have hkl:(X.take k).length<=6:=by rw[F4];omega
    obtain⟨y,hy⟩:=H8 (Fo n o t)
    rw[<-hy]at q1 hXk htk
    obtain⟨Z,hZ⟩:=H8 (X.take k)
    rw[<-hZ]at htk hI hkl ⊢
    by_cases hy0:y=[]
    . have u1:(y==[])=true:=by simp[hy0]
      have hE9:E=9:=by
       rw[hE,B9]
       exact List.any_eq_true.2 ⟨y,B8 hXk,u1⟩
      rw[hE9,B5 (by omega)]at hR
      subst hR hE9
      refine B7 (D7 (AL C C C (B6 C (yCh q1 C C C (N9 C (yX C C (yX C C (H3 C (H3 C ?_)))))))));refine yQ (B2 (D7 (B6 C (N6 C C (yQ (B3 ?_))))));rw[u1];refine G2 C (D7 (X8 (cs':=[_]) C C C C (X8 (cs':=[_]) C C C C (yQ (C4 (A5 (C3 ?_)))))))
      exact⟨[(6,[.d (dS [])]),(7,[.d (dI 9)]),(8,[.d (Sg n o)]),(9,[.ts exT 1 (Z.map fun t=>[dS t])])],exK Z,⟨rfl,C,C,C,D3⟩,⟨rfl,D3⟩,C,C,by kernel_rfl,K1 (G0 (L7 _ (.one D6 rfl rfl rfl (.one D6 rfl rfl rfl .nil)) rfl))⟩
    . have u1:(y==[])=false:=by simp[hy0]
      have hI2:∀ t∈X.take (k+1),t≠[]:=fun u hu=>by
       rw[htk]at hu
       rcases List.mem_append.1 hu with h|h
       . exact hI u h
       . rw[List.mem_singleton.1 h];exact hy0
      refine B7 (D7 (AL C C C (B6 C (yCh q1 C C C (N9 C (yX C C (yX C C (H3 C (H3 C ?_)))))))));refine yQ (B2 (D7 (B6 C (N6 C C (yQ (B3 ?_))))));rw[u1];refine D8 C (B1 (B4 (Ju C C C (B6 C ?_))));refine yR (es:=[[_]]) C C C C C ?_;refine yT (es':=(Z++[y]).map fun t=>[dS t]) (m:=((Z++[y]).map fun t=>([dS t]:List DV)).length) (by simp;omega) (by simp;omega) C C C C C (by simp) (by simp) ?_;refine Pr (cs':=[_]) C C C C (yQ (BA ?_))
      exact⟨hI2,⟨rfl,C,C,(by rw[htk];rfl),D3⟩,⟨(by rw[htk];rfl),D3⟩⟩
  . intro hI
    have hXs:(vsg s).length=X.length:=by rw[hX,A8,A8]
    rw[hXs,I2]at hI
    rw[hXs,I2]
    have hE0:E=0:=by
     rw[hE,B5]
     rw[Bool.not_eq_true,List.any_eq_false]
     intro x hx h
     exact hI x hx (by simpa using h)
    rw[hE0,B9 rfl]at hR
    rw[hE0]
    rw[<-hR]at k3
    show CF 0 _ .normal ⟨53,_,[(6,_),(7,_),(8,_),(9,[.ts exT 1 (X.map fun t=>[dS t])])],_⟩ _
    refine F5 (N0 (L4 (Ju C C C (yQ (L4 (yC (k3) C C (yQ (L4 (X8 (cs':=[_]) C C C C ?_)))))))));refine yQ (L4 (X8 (cs':=[_]) C C C C (yQ (C5 (M1 ?_)))))
    exact L7 _ (.one D6 C C C (.one D6 C C C .nil)) C
theorem QR (s:F6) (hs:s.length<=1000000):PCalls Tryz.prog 81 [dS s] (.d (dB (M0 I4 s))):=by
 have c1:=wExpand s [97] [98] hs (by simp) (by simp)
 have e:((Md s [97] [98]:Int)==0)=M0 I4 s:=by
  unfold Md
  cases h:M0 I4 s with
  | false=>rw[B9 rfl];rfl
  | true=>
   have h1:I4 [97]=true:=by kernel_rfl
   have h2:I4 [98]=true:=by kernel_rfl
   rw[B5 (by simp),B5 (by simp[h1,h2]),B5]
   . rfl
   . rw[Bool.not_eq_true,List.any_eq_false]
     intro x hx h3
     obtain⟨t,ht,rfl⟩:=H2.1 hx
     have h4:tsB t=true:=by
      rw[M0,Hc,D1]at h
      exact E5.1 h.2 t ht
     unfold Fo at h3
     unfold tsB JG at h4
     split at h3
     . cases h3
     . split at h3
       . cases h3
       . have:t=[]:=by simpa using h3
         rw[this]at h4
         exact G5 h4 (by decide)
 obtain⟨x,hx⟩:=H8 (Md s [97] [98])
 obtain⟨y,hy⟩:=H8 (expR s [97] [98])
 rw[<-hx,<-hy]at c1
 rw[<-hx]at e
 obtain⟨b,hb⟩:=H8 (M0 I4 s)
 rw[<-hb]at e ⊢
 refine L5 Tryz.func81 C Tryz.ntmps81 Tryz.results81 fun B w0=>?_
 refine D7 (H3 C (yQ (D7 (B6 C (yC (c1) C C (N9 C (yX C C (yX C C (H3 C ?_)))))))));refine H3 C (yQ (D7 (B6 C (yB C C C C (H3 C (yQ (C4 ?_)))))));rw[e]
 exact M5 C C
def bdE (e:List Cf):Prop:=e.length<=1000000 ∧ ∀ c∈e,c.1.length<=1000000∧c.2.length<=70000
def bdN (l:Ln):Prop:=l.1.length<=1000000∧bdE l.2.2
def OK (r:Ru):Prop:=r.2.length<=1000000 ∧ ∀ l∈r.2,bdN l
abbrev Y8 (r:Ru):Int:=rE (M0 I4) X0 r
theorem Ib {tp:F6->Bool} {ce:List Cf->Int} {ls:List Ln} {k:Nat} {l:Ln} (h:ls[k]? = some l):Hy tp ce (ls.drop k)=if tp l.1 then (if ce l.2.2=0 then Hy tp ce (ls.drop (k+1))else ce l.2.2)else 3:=by
 obtain⟨h1,h2⟩:=A6.1 h
 rw[I5 h1,h2,Hy]
theorem GT (r:Ru) (hb:OK r):PCalls Tryz.prog 56 [.agg (X6 r)] (.d (dI (Y8 r))):=by
 have k0:=Iy
 obtain⟨n,ls⟩:=r
 obtain⟨hg,hh⟩:=HU n
 obtain⟨M,hM⟩:=H8 (Bz)
 rw[<-hM]at k0 hg hh
 clear hM
 obtain⟨hb1,hb2⟩:=hb
 simp only at hb1 hb2
 obtain⟨E,hE⟩:=H8 (Y8 (n,ls))
 rw[<-hE]
 rw[Y8,rE]at hE
 obtain⟨kw,hkw⟩:=H8 (HQ n)
 obtain⟨kg,hkg⟩:=H8 (sgK n)
 obtain⟨kn,hkn⟩:=H8 (Gx n)
 rw[<-hkw,<-hkg,<-hkn]at hg
 clear hkw hkg hkn
 cases h:Z0 n with
 | none=>
  rw[h]at hh
  simp only[h]at hE
  subst hE
  refine L5 Tryz.func56 C Tryz.ntmps56 Tryz.results56 fun B w0=>?_
  refine D7 (yK (cs:=[_,_]) C C (H3 C (yQ (B2 (B2 ?_)))));refine J2 Tryz.mixed (by kernel_rfl) ?_;refine yC (k0) C C (X9 C (AL C C C (yKdI (t:=false) C C hg hh (N9 C (yX C C (yX C C (yZ (cs:=[_,_,_]) C C (yS (cs':=[_,_,_]) C C C C C (H3 C ?_)))))))));refine yQ (D7 (B6 C (yU C C C (yQ (G2 C (D7 (H3 C (yQ (C4 ?_)))))))));refine A5 ?_
  exact M5 C C
 | some k=>
 rw[h]at hh
 simp only[h]at hE
 clear h
 by_cases h1:64<ls.length
 . have t1:decide (((ls.map W9).length:Int) > 64)=true:=B0 (by rw[A8];omega)
   rw[B9 h1]at hE
   subst hE
   refine L5 Tryz.func56 C Tryz.ntmps56 Tryz.results56 fun B w0=>?_
   refine D7 (yK (cs:=[_,_]) C C (H3 C (yQ (B2 (B2 ?_)))));refine J2 Tryz.mixed (by kernel_rfl) ?_;refine yC (k0) C C (X9 C (AL C C C (yKdI (t:=true) C C hg hh (N9 C (yX C C (yX C C (yZ (cs:=[_,_,_]) C C (yS (cs':=[_,_,_]) C C C C C (H3 C ?_)))))))));refine yQ (D7 (B6 C (yU C C C (yQ (D8 C (B1 (B2 (D7 (X9 C ?_)))))))));refine AL C C C (yN C (yB C C C C (yQ (B3 ?_))));rw[t1];refine G2 C (D7 (H3 C (yQ (C4 (A5 ?_)))))
   exact M5 C C
 have t1:decide (((ls.map W9).length:Int) > 64)=false:=A7 (by rw[A8];omega)
 rw[B5 h1]at hE
 refine L5 Tryz.func56 C Tryz.ntmps56 Tryz.results56 fun B w0=>?_
 refine D7 (yK (cs:=[_,_]) C C (H3 C (yQ (B2 (B2 ?_)))));refine J2 Tryz.mixed (by kernel_rfl) ?_;refine yC (k0) C C (X9 C (AL C C C (yKdI (t:=true) C C hg hh (N9 C (yX C C (yX C C (yZ (cs:=[_,_,_]) C C (yS (cs':=[_,_,_]) C C C C C (H3 C ?_)))))))));refine yQ (D7 (B6 C (yU C C C (yQ (D8 C (B1 (B2 (D7 (X9 C ?_)))))))));refine AL C C C (yN C (yB C C C C (yQ (B3 ?_))));rw[t1];refine D8 C (B1 (B2 (D7 (X9 C (AL C C C (yN C (B6 C (yQ (B7 ?_)))))))));refine H9 (fun i:Nat=>⟨43,[(23,.d (.sl 3 (ls.map W9))),(24,.d (dI ls.length)),(25,.d (dI i))],[],[]⟩) (fun i=>i<=ls.length∧Hy (M0 I4) X0 (ls.drop i)=E) (fun i=>ls.length-i) 0 ⟨E7 _,hE.symm⟩
  ⟨rfl,⟨E6,FN (by simp),E6,D3⟩,D3,D3,rfl⟩ ?_
 rintro i ⟨hi,hI⟩
 rcases D5 i ls.length with h|h
 rotate_left
 . have u1:decide ((i:Int)<(ls.length:Int))=false:=A7 (by omega)
   have:E=0:=by rw[<-hI,J6 h];rfl
   subst this
   refine D7 (yB C C C C (yQ (B2 ?_)));rw[u1];refine D8 C (F9 (D7 (H3 C (yQ (C4 ?_)))))
   exact M5 C C
 have u1:decide ((i:Int)<(ls.length:Int))=true:=B0 (by omega)
 obtain⟨⟨a,c,e⟩,hl⟩:∃ a,ls[i]? = some a:=⟨_,A4 h⟩
 have ex:=ix W9 ls i i (a,c,e) rfl hl
 have hw:=I8 ((i:Int)+1) (by omega)
 obtain⟨b1,b2,b3⟩:=hb2 _ (B8 hl)
 simp only at b1 b2 b3
 have k1:=QR a b1
 have k2:=GU e b2 fun c hc=>(b3 c hc).2
 have arith:ls.length-(i+1)<ls.length-i:=by omega
 rw[Ib hl]at hI
 simp only at hI
 obtain⟨N,hN⟩:=H8 ((Pu e).map dCf)
 rw[<-hN]at k2
 clear hN hE hg hh hl
 cases ht:M0 I4 a with
 | false=>
  rw[ht]at k1 hI
  rw[B5 (by simp)]at hI
  subst hI
  refine D7 (yB C C C C (yQ (B2 ?_)));rw[u1];refine G2 C (B1 (B2 (B7 (D7 (yW ex (by omega) C C (T3 (ys:=[_,_,_]) C C C (yZ (cs:=[_,_,_]) C C (yS (cs':=[_,_,_]) C C C C C (yQ ?_)))))))));refine B2 (D7 (X9 C (AL C C C (yC (k1) C C (yU C C C (yQ (G2 C (D7 (H3 C ?_)))))))));refine yQ (C4 (A5 (C3 (A5 (A5 (C3 (A5 ?_)))))))
  exact M5 C C
 | true=>
 rw[ht]at k1 hI
 rw[B9 rfl]at hI
 obtain⟨x,hx⟩:=H8 (X0 e)
 rw[<-hx]at k2 hI
 by_cases h0:x=0
 . have t2:(x != 0)=false:=by simp[h0]
   rw[B9 h0]at hI
   refine D7 (yB C C C C (yQ (B2 ?_)));rw[u1];refine G2 C (B1 (B2 (B7 (D7 (yW ex (by omega) C C (T3 (ys:=[_,_,_]) C C C (yZ (cs:=[_,_,_]) C C (yS (cs':=[_,_,_]) C C C C C (yQ ?_)))))))));refine B2 (D7 (X9 C (AL C C C (yC (k1) C C (yU C C C (yQ (D8 C (B1 (D7 ?_)))))))));refine X9 C (AL C C C (yC (k2) C C (N9 C (yX C C (yX C C (H3 C (H3 C (yQ (D7 ?_)))))))));refine B6 C (yB C C C C (yQ (B3 ?_)));rw[t2];refine D8 C (B1 (B4 (yB C C C C (B6 C (yQ (B3 ?_))))))
   exact⟨i+1,⟨h,hI⟩,arith,C,⟨E6,E6,P2 hw,D3⟩,D3,D3,C⟩
 . have t2:(x != 0)=true:=by simp[h0]
   rw[B5 h0]at hI
   subst hI
   refine D7 (yB C C C C (yQ (B2 ?_)));rw[u1];refine G2 C (B1 (B2 (B7 (D7 (yW ex (by omega) C C (T3 (ys:=[_,_,_]) C C C (yZ (cs:=[_,_,_]) C C (yS (cs':=[_,_,_]) C C C C C (yQ ?_)))))))));refine B2 (D7 (X9 C (AL C C C (yC (k1) C C (yU C C C (yQ (D8 C (B1 (D7 ?_)))))))));refine X9 C (AL C C C (yC (k2) C C (N9 C (yX C C (yX C C (H3 C (H3 C (yQ (D7 ?_)))))))));refine B6 C (yB C C C C (yQ (B3 ?_)));rw[t2];refine G2 C (D7 (B6 C (H3 C (yQ (C4 (C3 (A5 (A5 (C3 ?_)))))))));refine A5 ?_
   exact M5 C C
end Go.Proofs.YtddfimjiihggmaaGreatDoor
namespace Go.Proofs.YtddfimjiihggmaaGreatDoor.Px
open Go.RowKit
variable {st:PS}
theorem T8 (i off k:Nat) {cs:List SV} (hi:st.bget i=some cs) (hc:cs[off]? = some (.d (.val (.slice none 0 0)))) (hlt:Nat.blt i 500000=true:=by rfl):∀ B w0 g a w,Rep B w0 g st a w->∃ g',Evo g w g' w∧Rep B w0 g' (st.bput i (cs.set off (.d (.sl k [])))) a w:=fun B w0 g a w hr=>by
 have hlt:=C0 hlt
 refine⟨g,Evo.refl _ _,{ hr with lim:=hr.lim,size:=hr.size,slots:=hr.slots,boxes:=fun j cs' hj hj5=>?_,maps:=fun j ms hj hge=>?_,dom:=fun j b hj=>?_,tdom:=hr.tdom,tlen:=hr.tlen,glob:=hr.glob }⟩
 . have hj':(st.bput i (cs.set off (.d (.sl k [])))).bget j=some cs':=hj
   rw[K7]at hj'
   by_cases e:j=i
   . rw[B9 e]at hj'
     cases hj'
     subst e
     obtain⟨b,xs,T,h1,h2,h3,h4,h5⟩:=hr.boxes j cs hi hj5
     refine⟨b,xs,T,h1,h2,by simpa using h3,fun q c hq=>?_,fun q u hq hu=>h5 q u (by simpa using hq) hu⟩
     by_cases eq:q=off
     . subst eq
       rw[List.getElem?_set_self (A6.1 hc).1]at hq
       cases hq
       obtain⟨x,h6,h7⟩:=h4 q _ hc
       have hx:x=.slice none 0 0:=DRep.val_eq h7
       exact⟨x,h6,by rw[hx];exact DRep.nil⟩
     . rw[List.getElem?_set_ne (Ne.symm eq)]at hq
       exact h4 q c hq
   . rw[B5 e]at hj'
     exact hr.boxes j cs' hj' hj5
 . have hj':(st.bput i (cs.set off (.d (.sl k [])))).bget j=some [.mc ms]:=hj
   rw[K7,B5 (by omega)]at hj'
   exact hr.maps j ms hj' hge
 . show(st.bput i (cs.set off (.d (.sl k [])))).bget j≠none
   rw[K7]
   by_cases e:j=i
   . simp[e]
   . rw[B5 e];exact hr.dom j b hj
theorem Aj (s:Nat) {cs:List DV} (hs:st.get s=.d (.ref cs)):∀ B w0 g a w,Rep B w0 g st a w->∃ g',Evo g w g' w∧Rep B w0 g' (st.put (some s) (.rd cs)) a w:=Gd s hs fun _ _ _ h=>SRep.le h (.ref cs)
theorem Na {P:Program} {rl:Option Nat} {d0:Nat} {p:EP} {Q:Exit->PS->EI->Prop} {i:EI} {id:Nat} {l:Array Oper} (h:∀ B w0,w0.rl=rl->PW P B w0 (.region id l true) (fun e s=>Q e s i) st):PX P rl d0 (HE p) (.region id l true) Q st i:=pe_ord h
section
variable {P:Program} {sq:Bool} {ops:Array Oper} {K:PS->Prop} {rest:List Oper} {d:Option Nat} {ty:TypeId} {pos:String} {af:Array Edge} {gd:Option (Nat×Bool)}
theorem Lg {T:Nat} {x y:Operand} {E k n c b off q:Nat} {m:Int} {kd:IntKind} [SliceOf P T E k] (ho:off+m.toNat*k=q) (h0:0<=m) (hm:m<n) (hx:st.ev x=.d (.val (.slice (some ⟨b,off,none⟩) n c))) (hy:st.ev y=.d (.val (.int kd m))) (h:YR P sq ops K rest (st.put d (.d (.val (.pointer (some ⟨b,q,none⟩)))))) (zz:zk ops st ⟨d,.indexAddr T x y,ty,pos,af,gd⟩ .no=true:=by kernel_rfl):
 YR P sq ops K (⟨d,.indexAddr T x y,ty,pos,af,gd⟩::rest) st:=yWv h0 hm hx hy (ho ▸ h) zz
end
end Go.Proofs.YtddfimjiihggmaaGreatDoor.Px
namespace Go.Proofs.YtddfimjiihggmaaGreatDoor
open Go.RowKit Px
abbrev orR (o:Option Ru):Ru:=o.getD (0,[])
theorem wFindR (l:List Ru) (n:Int) (hl:l.length<=1000000):PCalls Tryz.prog 22 [P3 l,dI n] (.tup [.agg (X6 (orR (Pa l n))),dB (Pa l n).isSome]):=by
 obtain⟨r,hr⟩:=H8 (Pa l n)
 rw[<-hr]
 refine L5 Tryz.func22 C Tryz.ntmps22 Tryz.results22 fun B w0=>?_
 refine D7 (yZ (cs:=[_,_]) C C (H3 C (yQ ?_)));refine U6 (T8 4 1 3 C C) ?_;refine B2 (D7 (B6 C (yN C (B6 C (yQ (B7 ?_))))));refine H9 (fun i:Nat=>⟨21,[(1,.d (dI n)),(4,.bx 4 0),(8,.d (P3 l)),(9,.d (dI l.length)),(10,.d (dI i))],[(4,[.d (dI 0),.d (.sl 3 [])])],[]⟩) (fun i=>i<=l.length∧(l.drop i).find? (fun r=>r.1==n)=r) (fun i=>l.length-i) 0 ⟨E7 _,hr.symm⟩
  ⟨rfl,⟨E6,E6,E6,FN (by simp),E6,D3⟩,⟨⟨_,rfl,H5 _⟩,D3⟩,D3,rfl⟩ ?_
 rintro i ⟨hi,hI⟩
 clear hr
 rcases D5 i l.length with h|h
 rotate_left
 . have u1:decide ((i:Int)<(l.length:Int))=false:=A7 (by omega)
   rw[J6 h]at hI
   subst hI
   refine D7 (yB C C C C (yQ (B2 ?_)));rw[u1];refine D8 C (F9 (D7 (yG (ys:=[_,_]) C C (yS (cs':=[_,_]) C C C C C (H3 C (yQ ?_))))));refine U6 (T8 4 1 3 C C) ?_;refine C4 ?_
   exact J5 _ (.agg D6 C C C C (.tmp C .nil)) C
 have u1:decide ((i:Int)<(l.length:Int))=true:=B0 (by omega)
 obtain⟨⟨m,ls⟩,hx⟩:∃ a,l[i]? = some a:=⟨_,A4 h⟩
 have ex:=ix X6 l i i (m,ls) rfl hx
 have hw:=I8 ((i:Int)+1) (by omega)
 obtain⟨q1,q2⟩:=A6.1 hx
 rw[I5 q1,q2,List.find?_cons]at hI
 simp only at hI
 cases he:(m==n) with
 | true=>
  rw[he]at hI
  simp only at hI
  subst hI
  rw[show orR (some (m,ls))=(m,ls)from rfl]
  refine D7 (yB C C C C (yQ (B2 ?_)));rw[u1];refine G2 C (B1 (B2 (B7 (D7 (yW ex (by omega) C C (T3 (ys:=[_,_]) C C C (yZ (cs:=[_,_]) C C (yS (cs':=[_,_]) C C C C C (yQ ?_)))))))));refine D7 (X9 C (AL C C C (B6 C (yB C C C C (yQ (B3 ?_))))));rw[he];refine G2 C (D7 (Ae (ys:=[_,_]) C C C C (yS (cs':=[_,_]) C C C C C (H3 C (yQ (C4 (C3 (A5 (A5 ?_)))))))));refine C3 (A5 ?_)
  exact J5 _ (.agg D6 C C C C (.tmp C .nil)) C
 | false=>
  rw[he]at hI
  simp only at hI
  refine D7 (yB C C C C (yQ (B2 ?_)));rw[u1];refine G2 C (B1 (B2 (B7 (D7 (yW ex (by omega) C C (T3 (ys:=[_,_]) C C C (yZ (cs:=[_,_]) C C (yS (cs':=[_,_]) C C C C C (yQ ?_)))))))));refine D7 (X9 C (AL C C C (B6 C (yB C C C C (yQ (B3 ?_))))));rw[he];refine D8 C (B1 (B4 (yB C C C C (B6 C (yQ (B3 ?_))))))
  exact⟨i+1,⟨h,hI⟩,by omega,rfl,⟨E6,E6,E6,E6,P2 hw,D3⟩,⟨⟨_,rfl,H5 _⟩,D3⟩,D3,rfl⟩
instance:MapTy Tryz.prog 155:=⟨⟨9,72,by kernel_rfl⟩⟩
theorem EG (a b:List Ln):W8 (a++b)=W8 a++W8 b:=by simp[W8]
theorem De (l:Ln):(lnC l).length=l.2.2.length:=by unfold lnC;split<;>simp
theorem lnsC_at {ls:List Ln} {k m:Nat} {l:Ln} {c:Cf} (hl:ls[k]? = some l) (hc:l.2.2[m]? = some c):(W8 ls)[(W8 (ls.take k)).length+m]? = some (if l.2.1 then ngC c else c):=by
 obtain⟨h1,h2⟩:=A6.1 hl
 have e:ls=ls.take k++l::ls.drop (k+1):=by
  rw[<-h2,<-I5 h1,List.take_append_drop]
 have e2:W8 ls=W8 (ls.take k)++(lnC l++W8 (ls.drop (k+1))):=by
  conv=>lhs;rw[e]
  rw[EG,show l::ls.drop (k+1)=[l]++ls.drop (k+1)from rfl,EG]
  simp[W8]
 have hlt:=(A6.1 hc).1
 rw[e2,E9 (by omega),Nat.add_sub_cancel_left,F3 (by rw[De];exact hlt)]
 unfold lnC
 split
 . rw[C6,hc];rfl
 . exact hc
theorem PJ {ls:List Ln} {k:Nat} {l:Ln} (hl:ls[k]? = some l):(W8 (ls.take (k+1))).length=(W8 (ls.take k)).length+l.2.2.length:=by
 rw[H4,hl,EG,C9]
 simp[W8,De]
theorem Rw {ls:List Ln} {A B:Nat} (h1:ls.length<=A) (h2:∀ l∈ls,l.2.2.length<=B):(W8 ls).length<=A*B:=by
 have:(W8 ls).length<=ls.length*B:=by
  clear h1
  induction ls with
  | nil=>simp[W8]
  | cons l ls ih=>
   have h3:=ih fun x hx=>h2 x (by simp[hx])
   have h4:=h2 l (by simp)
   rw[show l::ls=[l]++ls from rfl,EG,C9,C9,Nat.add_mul]
   simp[W8,De]at h3 ⊢
   omega
 exact D9 this (Nat.mul_le_mul_right _ h1)
theorem Nh {c:Cf} {B:Nat} (h:c.2.length<=B):(ngC c).2.length<=B+1:=by
 show(J3 (- val c.2)).length<=B+1
 exact EU (by rw[Int.natAbs_neg];exact GV h)
def SeenZ (l dn:List (Value×DV)):Prop:=(∃ rl,(dn++rl).Perm l) ∧ ∀ q∈dn,q.2=dS []
theorem vS_inj0 {v:F6} (h:dS v=dS []):v=[]:=by
 have h1:vS v=vS []:=by injection h
 have h2:v.toArray = #[]:=by injection h1 with h1;injection h1
 simpa using h2
theorem IH (r:Ru) (hb1:r.2.length<=64) (hb2:∀ l∈r.2,l.2.2.length<=16 ∧ ∀ c∈l.2.2,c.2.length<=70000):PCalls Tryz.prog 59 [.agg (X6 r)] (.d (dB (Fs r.2))):=by
 obtain⟨n,ls⟩:=r
 simp only at hb1 hb2
 obtain⟨R,hR⟩:=H8 (Fs ls)
 rw[<-hR]
 rw[<-Sq]at hR
 obtain⟨e,he⟩:=H8 (W8 ls)
 rw[<-he]at hR
 have hel:e.length<=1024:=by rw[he];exact Rw hb1 fun l hl=>(hb2 l hl).1
 have hef:∀ c∈e,c.2.length<=70001:=fun c hc=>by
  rw[he]at hc
  obtain⟨l,hl,hc⟩:=List.mem_flatMap.1 hc
  unfold lnC at hc
  split at hc
  . obtain⟨d,hd,rfl⟩:=H2.1 hc
    exact Nh ((hb2 l hl).2 d hd)
  . have:=(hb2 l hl).2 c hc;omega
 have hml:=fun i k=>GY hef i k
 refine P0 Tryz.func59 C Tryz.ntmps59 Tryz.results59 (by simp) fun p d0 hex=>?_
 refine F5 (N0 (L4 (yK (cs:=[_,_]) C C (yQ (L4 (H3 C (yQ (C5 (F5 ?_)))))))));refine N0 (L4 (yKm C (yQ (L4 (yAm C (yQ (C5 (F5 (F5 ?_)))))))));refine N0 (L4 (X9 C (yQ (L4 (AL C C C (yQ (L4 (yN C (yQ ?_)))))))));refine L4 (B6 C (yQ (C5 (L1 ?_))));refine IR (fun k:Nat=>⟨51,[(3,.mb 500011),(13,.d (.sl 3 (ls.map W9))),(14,.d (dI ls.length)),(15,.d (dI k))],[(500011,[.mc (Q0 (Y9 (O3 e (W8 (ls.take k)).length)))])],[]⟩) (fun _=>⟨[],[],none⟩) (fun k=>k<=ls.length) (fun k=>ls.length-k) 0 (E7 _) C
  ⟨rfl,⟨E6,E6,FN (by simp),E6,D3⟩,⟨⟨_,rfl,K8 rfl⟩,D3⟩,D3,rfl⟩ ?_
 intro k hk
 rcases D5 k ls.length with h|h
 . have u1:decide ((k:Int)<(ls.length:Int))=true:=B0 (by omega)
   obtain⟨⟨a,c,x⟩,hl⟩:∃ a,ls[k]? = some a:=⟨_,A4 h⟩
   have ex:=ix W9 ls k k (a,c,x) rfl hl
   have hw:=I8 ((k:Int)+1) (by omega)
   have hnk:=PJ hl
   have hat:∀ m d,x[m]? = some d->e[(W8 (ls.take k)).length+m]? = some (if c then ngC d else d):=fun m d hd=>by rw[he];exact lnsC_at hl hd
   obtain⟨x1,x2⟩:=hb2 _ (B8 hl)
   simp only at hnk x1 x2
   obtain⟨K,hK⟩:=H8 ((W8 (ls.take k)).length)
   rw[<-hK]at hnk hat ⊢
   have arith:ls.length-(k+1)<ls.length-k:=by omega
   clear hl hK hR he
   refine F5 (N0 (L4 (yB C C C C (yQ (C5 (F5 ?_))))));rw[u1];refine O5 C (I3 (F5 (L1 (F5 (N0 (L4 (yW ex (by omega) C C (yQ (L4 ?_)))))))));refine T3 (ys:=[_,_,_]) C C C (yQ (L4 (yZ (cs:=[_,_,_]) C C (yQ (L4 (yS (cs':=[_,_,_]) C C C C C (yQ (C5 (F5 ?_)))))))));refine N0 (L4 (X9 C (yQ (L4 (AL C C C (yQ (L4 (yN C (yQ ?_)))))))));refine L4 (B6 C (yQ (C5 (L1 ?_))));refine IR (fun m:Nat=>⟨51,[(3,.mb 500011),(13,.d (.sl 3 (ls.map W9))),(14,.d (dI ls.length)),(15,.d (dI k)),(5,.bx 5 0),(20,.d (.sl 2 (x.map dCf))),(21,.d (dI x.length)),(22,.d (dI m))],[(500011,[.mc (Q0 (Y9 (O3 e (K+m))))]),(5,[.d (dS a),.d (dB c),.d (.sl 2 (x.map dCf))])],[]⟩) (fun _=>⟨[],[],none⟩) (fun m=>m<=x.length) (fun m=>x.length-m) 0 (E7 _) C
    ⟨rfl,⟨E6,E6,E6,E6,E6,E6,FN (by simp),E6,D3⟩,⟨⟨_,rfl,K8 rfl⟩,⟨_,rfl,H5 _⟩,D3⟩,D3,rfl⟩ ?_
   intro m hm
   rcases D5 m x.length with h2|h2
   . have u2:decide ((m:Int)<(x.length:Int))=true:=B0 (by omega)
     obtain⟨⟨c0,f⟩,hc⟩:∃ a,x[m]? = some a:=⟨_,A4 h2⟩
     have em:=ix dCf x m m (c0,f) rfl hc
     have hw2:=I8 ((m:Int)+1) (by omega)
     have hq:=x2 _ (B8 hc)
     simp only at hq
     have hd:=hat m _ hc
     have hln:=hml (K+m) c0
     have arith2:x.length-(m+1)<x.length-m:=by omega
     have hKm:K+m<e.length:=(A6.1 hd).1
     cases c with
     | false=>
      have hnx:O3 e (K+(m+1))=Ai c0 (Cl (O8 c0 (O3 e (K+m))) f) (O3 e (K+m)):=by
       rw[show K+(m+1)=(K+m)+1 by omega,O3,hd];rfl
      obtain⟨M,hM⟩:=H8 (O3 e (K+m))
      rw[<-hM]at hnx hln ⊢
      have hg:=Ja c0 M
      have k1:=QY (O8 c0 M) f (by omega) (by omega)
      have hs:Ao c0 (dS (J3 (val (O8 c0 M)+val f))) (Y9 M)=Y9 (Ai c0 (Cl (O8 c0 M) f) M):=MM c0 (Cl (O8 c0 M) f) M
      obtain⟨v,hv⟩:=H8 (O8 c0 M)
      rw[<-hv]at hg k1 hs hnx
      obtain⟨M2,hM2⟩:=H8 (Ai c0 (Cl v f) M)
      rw[<-hM2]at hs hnx
      obtain⟨z,hz⟩:=H8 (J3 (val v+val f))
      rw[<-hz]at k1 hs
      clear hz hM2 hv hM hat hml hd
      refine F5 (N0 (L4 (yB C C C C (yQ (C5 (F5 ?_))))));rw[u2];refine O5 C (I3 (F5 (L1 (F5 (N0 (L4 (yW em (by omega) C C (yQ (L4 ?_)))))))));refine T3 (ys:=[_,_]) C C C (yQ (L4 (yZ (cs:=[_,_]) C C (yQ (L4 (yS (cs':=[_,_]) C C C C C (yQ (C5 (F5 ?_)))))))));refine N0 (L4 (X9 C (yQ (L4 (AL C C C (yQ (L4 (H3 C (yQ ?_)))))))));refine C5 (F5 (F5 (N0 (L4 (X9 C (yQ (L4 (AL C C C (yQ ?_)))))))));refine C5 (O4 C (I3 ?_));refine Na fun B w0 hrl=>?_;refine J2 Tryz.mixed (by kernel_rfl) ?_;refine yMm C (X9 C (AL C C C (yMm C (X9 C (AL C C C (yKl (z:=dS []) C C C hg (B6 C (yC (k1) C C (yKu (z:=dS []) C C C C hs ?_)))))))));refine yQ (N0 (L4 (yB C C C C (yQ (L4 (B6 C (yQ (C5 (I6 ?_)))))))))
      exact⟨m+1,h2,arith2,⟨rfl,⟨E6,E6,E6,E6,E6,E6,E6,P2 hw2,D3⟩,⟨⟨_,C,K8 (by rw[hnx])⟩,⟨_,rfl,H5 _⟩,D3⟩,D3,rfl⟩,rfl⟩
     | true=>
      have k2:=QP f (by omega)
      have hng:=Nh (c:=(c0,f)) hq
      have hnx:O3 e (K+(m+1))=Ai c0 (Cl (O8 c0 (O3 e (K+m))) (J3 (- val f))) (O3 e (K+m)):=by
       rw[show K+(m+1)=(K+m)+1 by omega,O3,hd];rfl
      change (J3 (- val f)).length<=_ at hng
      obtain⟨f2,hf2⟩:=H8 (J3 (- val f))
      rw[<-hf2]at hnx k2 hng
      obtain⟨M,hM⟩:=H8 (O3 e (K+m))
      rw[<-hM]at hnx hln ⊢
      have hg:=Ja c0 M
      have k1:=QY (O8 c0 M) f2 (by omega) (by omega)
      have hs:Ao c0 (dS (J3 (val (O8 c0 M)+val f2))) (Y9 M)=Y9 (Ai c0 (Cl (O8 c0 M) f2) M):=MM c0 (Cl (O8 c0 M) f2) M
      obtain⟨v,hv⟩:=H8 (O8 c0 M)
      rw[<-hv]at hg k1 hs hnx
      obtain⟨M2,hM2⟩:=H8 (Ai c0 (Cl v f2) M)
      rw[<-hM2]at hs hnx
      obtain⟨z,hz⟩:=H8 (J3 (val v+val f2))
      rw[<-hz]at k1 hs
      clear hz hM2 hv hM hat hml hd hf2
      refine F5 (N0 (L4 (yB C C C C (yQ (C5 (F5 ?_))))));rw[u2];refine O5 C (I3 (F5 (L1 (F5 (N0 (L4 (yW em (by omega) C C (yQ (L4 ?_)))))))));refine T3 (ys:=[_,_]) C C C (yQ (L4 (yZ (cs:=[_,_]) C C (yQ (L4 (yS (cs':=[_,_]) C C C C C (yQ (C5 (F5 ?_)))))))));refine N0 (L4 (X9 C (yQ (L4 (AL C C C (yQ (L4 (H3 C (yQ ?_)))))))));refine C5 (F5 (F5 (N0 (L4 (X9 C (yQ (L4 (AL C C C (yQ ?_)))))))));refine C5 (O5 C (N0 (L4 (B6 C (yQ (L4 (yC (k2) C C (yQ (L4 ?_)))))))));refine H3 C (yQ (C5 ?_));refine Na fun B w0 hrl=>?_;refine J2 Tryz.mixed (by kernel_rfl) ?_;refine yMm C (X9 C (AL C C C (yMm C (X9 C (AL C C C (yKl (z:=dS []) C C C hg (B6 C (yC (k1) C C (yKu (z:=dS []) C C C C hs ?_)))))))));refine yQ (N0 (L4 (yB C C C C (yQ (L4 (B6 C (yQ (C5 (I6 ?_)))))))))
      exact⟨m+1,h2,arith2,⟨rfl,⟨E6,E6,E6,E6,E6,E6,E6,P2 hw2,D3⟩,⟨⟨_,C,K8 (by rw[hnx])⟩,⟨_,rfl,H5 _⟩,D3⟩,D3,rfl⟩,rfl⟩
   . have u2:decide ((m:Int)<(x.length:Int))=false:=A7 (by omega)
     obtain rfl:m=x.length:=by omega
     refine F5 (N0 (L4 (yB C C C C (yQ (C5 (F5 ?_))))));rw[u2];refine O4 C (Q4 (N0 (L4 (yB C C C C (yQ (L4 (B6 C (yQ (C5 ?_)))))))));refine I6 ?_
     exact⟨k+1,h,arith,⟨rfl,⟨E6,E6,E6,P2 hw,D3⟩,⟨⟨_,C,K8 (by rw[hnk])⟩,D3⟩,D3,rfl⟩,rfl⟩
 . have u1:decide ((k:Int)<(ls.length:Int))=false:=A7 (by omega)
   obtain rfl:k=ls.length:=by omega
   rw[I2,<-he]
   obtain⟨M,hM⟩:=H8 (O3 e e.length)
   rw[<-hM]at hR ⊢
   clear hml hef hel
   have hone:∀ q∈Q0 (Y9 M),q.1.oneCell'=true:=fun q hq=>by obtain⟨p,-,rfl⟩:=H2.1 hq;rfl
   have hmem:∀ (kk:Value) (v:DV),(kk,v)∈Q0 (Y9 M)->∃ p∈M,kk=vS p.1∧v=dS p.2:=fun kk v hq=>by
    obtain⟨p,hp,e⟩:=H2.1 hq
    obtain⟨q,hq2,rfl⟩:=H2.1 hp
    cases e
    exact⟨q,hq2,C,C⟩
   refine S4 (Et 3 500011 C C) ?_;refine F5 (N0 (L4 (yB C C C C (yQ (C5 (F5 ?_))))));rw[u1];refine O4 C (Q4 (F5 (F5 (N0 (L4 (B6 C (yQ ?_)))))));refine RQ C fun r=>?_;refine L1 ?_;refine IR (fun dn:List (Value×DV)=>⟨51,[(44,.d (.val (.pointer (some ⟨r,0,none⟩))))],[],[]⟩) (fun dn=>⟨[],[],some (r,Q0 (Y9 M),dn)⟩) (fun dn=>SeenZ (Q0 (Y9 M)) dn) (fun dn=>(Q0 (Y9 M)).length-dn.length) [] ⟨⟨_,List.Perm.refl _⟩,fun q hq=>by simp at hq⟩ rfl
    ⟨rfl,⟨E6,D3⟩,D3,D3,rfl⟩ ?_
   rintro dn ⟨⟨rl0,hdn⟩,hz⟩
   refine F5 (N0 ?_);refine P4 (RR C C (fun hp=>?_) (fun kk v rl hq hp hk1=>?_) hone);refine L4 (yX C C (yQ (C5 (F5 (O4 C (Q4 (F5 (N0 (L4 ?_)))))))));refine H3 C (yQ (C5 (M1 ?_)))
   . have hRt:R=true:=by
      rw[hR,E5]
      intro p hp2
      have:(vS p.1,dS p.2)∈dn:=hp.mem_iff.2 (H2.2 ⟨(p.1,dS p.2),H2.2 ⟨p,hp2,rfl⟩,rfl⟩)
      rw[vS_inj0 (hz _ this)];rfl
     subst hRt
     skip
     exact L7 _ (.tmp C .nil) C
   . obtain⟨p,hpM,rfl,rfl⟩:=hmem kk v hq
     have hlen:=hp.length_eq
     rw[C9,List.length_cons]at hlen
     by_cases h0:p.2=[]
     . have t1:(!p.2==[])=false:=by simp[h0]
       have hz2:SeenZ (Q0 (Y9 M)) (dn++[(vS p.1,dS p.2)]):=⟨⟨rl,by rw[G8];exact hp⟩,fun q hq=>by
        rcases List.mem_append.1 hq with hq|hq
        . exact hz q hq
        . rw[List.mem_singleton.1 hq,h0]⟩
       refine L4 (yX C C (yQ (C5 (F5 (O5 C (I3 (L1 (F5 (N0 ?_)))))))));refine P4 (JU C (List.getLast?_concat ..) C C ?_);refine L4 (yX C C (yQ (L4 (H3 C (yQ (C5 (F5 (N0 (L4 ?_)))))))));refine B6 C (yQ (L4 (L8 C C (yQ (C5 (I6 ?_))))));rw[t1];refine O4 C (I3 (RG (I6 ?_)))
       exact⟨dn++[(vS p.1,dS p.2)],hz2,by rw[C9];simp only[List.length_cons,List.length_nil];omega,⟨rfl,⟨E6,D3⟩,D3,D3,rfl⟩,rfl⟩
     . have t1:(!p.2==[])=true:=by simp[h0]
       have hRf:R=false:=by
        rw[hR,List.all_eq_false]
        exact⟨p,hpM,by simp[h0]⟩
       subst hRf
       refine L4 (yX C C (yQ (C5 (F5 (O5 C (I3 (L1 (F5 (N0 ?_)))))))));refine P4 (JU C (List.getLast?_concat ..) C C ?_);refine L4 (yX C C (yQ (L4 (H3 C (yQ (C5 (F5 (N0 (L4 ?_)))))))));refine B6 C (yQ (L4 (L8 C C (yQ (C5 (I6 ?_))))));rw[t1];refine O5 C (F5 (N0 (L4 (H3 C (yQ (C5 (M1 (K1 (G0 ?_)))))))));refine K1 (G0 ?_)
       exact L7 _ (.tmp C .nil) C
theorem II (r:Ru) (hb:OK r):PCalls Tryz.prog 16 [.agg (X6 r)] (.tup [dB (decide (Y8 r=0)&&Fs r.2),dI (Y8 r)]):=by
 have c1:=GT r hb
 by_cases h:Y8 r=0
 . obtain⟨h1,h2,h3⟩:=(GB (tp:=M0 I4) (ce:=X0)).1 h
   have c2:=IH r h2 fun l hl=>⟨(T7.1 (h3 l hl).2).1,fun c hc=>((hb.2 l hl).2.2 c hc).2⟩
   rw[h]at c1 ⊢
   rw[B0 rfl,Bool.true_and]
   obtain⟨b,hbb⟩:=H8 (Fs r.2)
   rw[<-hbb]at c2 ⊢
   obtain⟨n,ls⟩:=r
   obtain⟨L,hL⟩:∃ L:DV,L=.sl 3 (ls.map W9):=⟨_,rfl⟩
   simp only[X6]at c1 c2
   rw[<-hL]at c1 c2
   show PCalls Tryz.prog 16 [.agg [dI n,.sl 3 (ls.map W9)]] _
   rw[<-hL]
   clear hL hbb h h1 h2 h3 hb
   refine L5 Tryz.func16 C Tryz.ntmps16 Tryz.results16 fun B w0=>?_
   refine D7 (yK (cs:=[_,_]) C C (H3 C (H3 C (yQ (B2 (D7 (Ae (ys:=[_,_]) C C C C (yC (c1) C C (H3 C ?_)))))))));refine yQ (D7 (B6 C (yB C C C C (yQ (D8 C (B1 (D7 (Ae (ys:=[_,_]) C C C C (yC (c2) C C ?_)))))))));refine H3 C (H3 C (yQ (C4 ?_)))
   exact Y7 C C C
 . rw[A7 h,Bool.false_and]
   have t1:(Y8 r != 0)=true:=by simp[h]
   obtain⟨x,hx⟩:=H8 (Y8 r)
   rw[<-hx]at c1 t1 ⊢
   obtain⟨n,ls⟩:=r
   obtain⟨L,hL⟩:∃ L:DV,L=.sl 3 (ls.map W9):=⟨_,rfl⟩
   simp only[X6]at c1
   rw[<-hL]at c1
   show PCalls Tryz.prog 16 [.agg [dI n,.sl 3 (ls.map W9)]] _
   rw[<-hL]
   clear hL hx h hb
   refine L5 Tryz.func16 C Tryz.ntmps16 Tryz.results16 fun B w0=>?_
   refine D7 (yK (cs:=[_,_]) C C (H3 C (H3 C (yQ (B2 (D7 (Ae (ys:=[_,_]) C C C C (yC (c1) C C (H3 C ?_)))))))));refine yQ (D7 (B6 C (yB C C C C (yQ (B3 ?_)))));rw[t1];refine G2 C (D7 (B6 C (H3 C (H3 C (yQ (C4 (A5 ?_)))))))
   exact Y7 C C C
end Go.Proofs.YtddfimjiihggmaaGreatDoor