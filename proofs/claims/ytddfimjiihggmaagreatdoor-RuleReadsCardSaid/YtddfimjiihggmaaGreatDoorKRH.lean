/- The law RuleReads returns true for every input, and each argument reads afterwards as before; the tied card of it. Conditions: none, but that the listed package variables hold what the program's text lays. -/
import Derived.Test.YtddfimjiihggmaaGreatDoorB13
import Derived.Test.YtddfimjiihggmaaGreatDoorCards
import Derived.Test.YtddfimjiihggmaaGreatDoorTie
namespace Go.Proofs.YtddfimjiihggmaaGreatDoor
open Go.ChangeShapes Go.WideShapes Go.ChangeAt Go.RowKit Px

theorem Fn:∀ t∈Tryz.f7.params.toList,Tryz.prog.readableRec t=true∧t<Tryz.prog.types.size:=by
  rw[Tryz.params7]
  intro t ht
  have:t=9∨t=22:=by simp at ht;omega
  rcases this with rfl|rfl
  . exact⟨by kernel_rfl,of_decide_eq_true (by kernel_rfl)⟩
  . exact⟨by kernel_rfl,of_decide_eq_true (by kernel_rfl)⟩

set_option maxRecDepth 100000 in
theorem Ei (os:Os) (started:os.Started) (H:Type) (enc:TypeId×Value->H):
    ReturnsInHanded {} Tryz.checked os 7 .any (fun w args=>(Rows.ruleReadsSpec.pre enc Tryz.prog Tryz.f7 Rows.ruleReadsRow.domain false w args∧laidMetH Tryz.prog Rows.ruleReadsRow.laid w)∧sizedMet enc Tryz.prog Tryz.f7 (OpenSpec.ofChange Rows.ruleReadsSpec) false w args)
      (Rows.ruleReadsSpec.post enc Tryz.prog Tryz.f7 false true false false):=by
  refine returnsInHanded_of_change_and (C:=Tryz.checked) (X:=fun w _=>laidMetH Tryz.prog Rows.ruleReadsRow.laid w) (fun _ _ _ hh h=>h.of_heap hh) own started (by kernel_rfl) Tryz.func7
    (ChangeSpec.witness_shaped (enc:=enc) (C:=Tryz.checked) (os:=os) (X:=fun w _=>laidMetH Tryz.prog Rows.ruleReadsRow.laid w) false (World.laidAll Tryz.prog os Rows.ruleReadsRow.laid) #[.string ⟨#[]⟩,.slice none 0 0] 8 (World.laidAll_os _ _ _)
      (World.shaped_of_ZipB (by kernel_rfl) (by kernel_rfl)) (by kernel_rfl) (by kernel_rfl) (by kernel_rfl)
      (by rw[MakeChecks.laidMetH_plain _ _ _ (by kernel_rfl)];exact laidMet_laidAll _ (by kernel_rfl) (by kernel_rfl))) ?_
  intro W base args ds gs before hval0 hW hcnd hwt hL _
  have hG:GlobOk (fun _ _=>True) W:=by
    rw[MakeChecks.laidMetH_plain _ _ _ (by kernel_rfl)]at hL
    obtain⟨ps,⟨g0,t0,cs0,f0,p0,q0,hg0,ht0,hv0,hd0,⟨g1,t1,cs1,f1,p1,q1,hg1,ht1,hv1,hd1,⟨g2,t2,cs2,f2,p2,q2,hg2,ht2,hv2,hd2,_,_⟩,_⟩,_⟩,_,_⟩:=hL
    obtain rfl:=J0 ((show Tryz.prog.globalNamed "internal/strconv.uint64pow10" = some 5 by kernel_rfl).symm.trans hg2)
    obtain rfl:=J0 ((show(Tryz.prog.globals[5]?).map (·.type)=some 293 by kernel_rfl).symm.trans ht2)
    exact Ky hv2 C hd2
  have hval:∀ (j:Nat) t v,Tryz.f7.params[j]? = some t->args[j]? = some v->Value.okWide Tryz.prog W .any base t v:=hval0
  have hW':=hW
  obtain⟨p,q,hA0,hV,rfl,hfz,hnd⟩:=hW
  have hA:DataW.TrodAll enc Tryz.prog W 0 (fun _=>true) true Tryz.f7.params.toList args.toList ds p:=hA0
  rw[Tryz.params7]at hA hval
  obtain⟨v0,vs0,d0,ds0,p0,q0,hargs,rfl,rfl,h0,r0⟩:=trodAll_cons hA
  obtain⟨v1,vs1,d1,ds1,p1,q1,rfl,rfl,rfl,h1,r1⟩:=trodAll_cons r0
  obtain⟨rfl,rfl,rfl⟩:=trodAll_nil r1
  obtain rfl:args = #[v0,v1]:=by cases args;simp_all
  obtain⟨rfl,rfl⟩:=trodVars_none hV
  obtain⟨x0,wx0,e0⟩:=Nd (sh:=.s) (by kernel_rfl) (hval 0 9 v0 rfl rfl) h0
  obtain⟨x1,wx1,e1⟩:=Nd (sh:=shR) (by kernel_rfl) (hval 1 22 v1 rfl rfl) h1
  obtain⟨l1,hl1⟩:=rus_dv x1
  rw[hl1]at e1
  refine(IB (SD x0 l1) W [v0,v1] C (fun j v x hv hx=>?_) hG).mono fun e W' ⟨he,bel⟩=>?_
  . match j,hv,hx with
    | 0,hv,hx=>cases hv;cases hx;exact e0
    | 1,hv,hx=>cases hv;cases hx;exact e1
    | j+2,hv,_=>simp at hv
  . subst he
    exact⟨_,C,SC hW' C C C Fn bel⟩

theorem Gn:Rows.ruleReadsRow.wf (OpenSpec.ofChange Rows.ruleReadsSpec)=true:=by kernel_rfl
theorem Gm:Tryz.f7.params.all (Tryz.prog.readableRec ·)=true:=by kernel_rfl
theorem Gl:namedTie Tryz.prog Rows.ruleReadsRow.named Rows.ruleReadsSpec.vars=true:=by kernel_rfl
theorem Gk:(Rows.ruleReadsRow.stops==[])=true:=by kernel_rfl
theorem Gj:(Rows.ruleReadsRow.knobs==[])=true:=by kernel_rfl
theorem Gi:(Rows.ruleReadsRow.inPlace==Tryz.prog.inPlace 7)=true:=by kernel_rfl
theorem Fl:(Rows.ruleReadsRow.unfollowed==Tryz.prog.unfollowed 7)=true:=by kernel_rfl
theorem Fk:(Rows.ruleReadsRow.recurses==Tryz.prog.recurses 7)=true:=by kernel_rfl
theorem Fj:(Rows.ruleReadsRow.named==Tryz.prog.varsNamed 7)=true:=by kernel_rfl
theorem Fi:(Rows.ruleReadsRow.maps==(Tryz.f7.params.toList++Rows.ruleReadsSpec.plain.varTypes Tryz.prog).any (Tryz.prog.mapsRec ·))=true:=by kernel_rfl
theorem Fh:(Rows.ruleReadsRow.ifaces==(Tryz.f7.params.toList++Rows.ruleReadsSpec.plain.varTypes Tryz.prog).any (Tryz.prog.ifacesRec ·))=true:=by kernel_rfl
theorem Fg:(Rows.ruleReadsRow.mapsOut==Tryz.prog.mapsAmong Tryz.f7.resultTypes.toList)=true:=by kernel_rfl
theorem Ff:(Rows.ruleReadsRow.loops==(Tryz.f7.params.toList++Rows.ruleReadsSpec.plain.varTypes Tryz.prog).any (Tryz.prog.loopsFrom ·))=true:=by kernel_rfl
theorem Fe:(Rows.ruleReadsRow.wideKeys==(Tryz.f7.params.toList++Rows.ruleReadsSpec.plain.varTypes Tryz.prog++Tryz.f7.resultTypes.toList).any (Tryz.prog.wideKeysFrom ·))=true:=by kernel_rfl
theorem Fd:Rows.ruleReadsSpec.vars.all (Tryz.prog.varReadable ·)=true:=by kernel_rfl
theorem Fc:Tryz.f7.resultTypes.all (fun t=>Tryz.prog.readableRec t&&decide (t<Tryz.prog.types.size))=true:=by kernel_rfl
theorem Fb:(Rows.ruleReadsRow.ifacesOut==Tryz.f7.resultTypes.toList.any (Tryz.prog.ifacesRec ·))=true:=by kernel_rfl
theorem Fa:(Rows.ruleReadsRow.loopsOut==Tryz.f7.resultTypes.toList.any (Tryz.prog.loopsFrom ·))=true:=by kernel_rfl
theorem FZ:(Rows.ruleReadsRow.plainKeys==Tryz.prog.plainKeys)=true:=by rw[FO];rfl
theorem FY:Rows.ruleReadsRow.shortTexts.isNone=true:=by kernel_rfl
theorem FX:(Rows.ruleReadsRow.lifted==Tryz.prog.liftsFinal)=true:=by rw[Eh];rfl
theorem FW:(Tryz.prog.make==some Rows.ruleReadsRow.make)=true:=by kernel_rfl
theorem FV:(Rows.ruleReadsRow.kinds==(if Rows.ruleReadsRow.domain.isEmpty then []else Tryz.f7.params.toList.map fun t=>match Tryz.prog.underlying t with|some (.int k)=>some k|_=>none))=true:=by kernel_rfl
theorem FU:(Rows.ruleReadsRow.pinned==Rows.ruleReadsRow.pinnedBy)=true:=by kernel_rfl
theorem FT:(Rows.ruleReadsRow.veiled==(Tryz.f7.params.toList++Rows.ruleReadsSpec.plain.varTypes Tryz.prog++Tryz.f7.resultTypes.toList).any (Tryz.prog.veiledRec ·))=true:=by kernel_rfl
theorem FS:Rows.ruleReadsRow.veiledFits Tryz.prog Tryz.f7.params.toList (Tryz.f7.params.toList++Rows.ruleReadsSpec.plain.varTypes Tryz.prog++Tryz.f7.resultTypes.toList)=true:=by kernel_rfl
set_option maxRecDepth 100000 in
theorem Fm:joinedFacts Tryz.prog 7 Tryz.f7 Rows.ruleReadsSpec Rows.ruleReadsRow=true:=(N8 (N8 (N8 (N8 (N8 (N8 (N8 (N8 (N8 (N8 (N8 (N8 (N8 (N8 (N8 (N8 (N8 (N8 (N8 (N8 (N8 (N8 (N8 (N8 (N8 (N8 (N8 (N8 (N8 (N8 (N8 Gn KT) KS) Gm) Gl) Gk) KR) Gj) KQ) Gi) Fl) Fk) Fj) Fi) Fh) Fg) Ff) Fe) Fd) Fc) Fb) Fa) FZ) FY) JF) JE) FX) FW) FV) FU) FT) FS)

theorem CI:Tryz.prog.funcNamed Rows.ruleReadsRow.func=some 7:=by kernel_rfl
theorem Gp:Tryz.f7.isWrapper Tryz.prog Rows.ruleReadsRow.wrapper Rows.ruleReadsRow.mainSum:=by
  unfold Func.isWrapper
  first|(rw[B9 (by decide +kernel)];kernel_rfl)|(rw[B5 (by decide +kernel)];exact⟨rfl,C⟩)
theorem Gr:Tryz.f7.isInstance Tryz.prog Rows.ruleReadsRow.origin Rows.ruleReadsRow.targs:=of_decide_eq_true (by kernel_rfl)
theorem Gq:Rows.ruleReadsRow.holds Tryz.pinned (OpenSpec.ofChange Rows.ruleReadsSpec):=
  OpenClaim.holds_of_wide 7 Tryz.f7 rfl rfl rfl rfl rfl rfl rfl ⟨rfl,rfl,rfl,rfl,rfl⟩ rfl rfl rfl rfl rfl CI Tryz.func7 Fm Gr Gp
    (fun os started H enc _=>Ei os started H enc)
theorem RuleReads_card:Rows.RuleReadsCardSaid:=
  Claim7.holds_tied_plain_at .later [] [.data,.data,.data,.data,.sentinel,.sentinel,.pinned] true (true, "8e18a1714f7751f504d649e6490be771b7277452e1c4c66a7d7170bf3153b3c9") true Gq (fun _ h=>by cases h) (by kernel_rfl) (fun _ h=>by cases h) ruleReads_row_tie rfl ⟨rfl,rfl⟩ (by kernel_rfl) rfl
    (fun f fn hf hfn=>by
      obtain rfl:f=7:=J0 (CI.symm.trans hf) |>.symm
      obtain rfl:fn=Tryz.f7:=(J0 (Tryz.func7.symm.trans hfn)).symm
      exact⟨by kernel_rfl,fun j t ht=>by
        rw[Tryz.params7]at ht
        have hm:t∈[9,22]:=by simpa using Array.mem_of_getElem? ht
        have hall:([9,22].all fun u=>!Tryz.prog.wantsStandIn u)=true:=by kernel_rfl
        exact(show Tryz.prog.wantsStandIn t=false by simpa using E5.1 hall t hm)⟩)
    (by kernel_rfl)
#print axioms RuleReads_card
end Go.Proofs.YtddfimjiihggmaaGreatDoor
