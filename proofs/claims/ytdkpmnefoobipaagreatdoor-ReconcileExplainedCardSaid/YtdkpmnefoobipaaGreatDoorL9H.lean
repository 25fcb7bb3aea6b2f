/- The law ReconcileExplained returns true for every input, and each argument reads afterwards as before; the tied card of it. Conditions: none, but that the listed package variables hold what the program's text lays. -/
import Derived.Test.YtdkpmnefoobipaaGreatDoorB7
import Derived.Test.YtdkpmnefoobipaaGreatDoorCards
import Derived.Test.YtdkpmnefoobipaaGreatDoorTie
namespace Go.Proofs.YtdkpmnefoobipaaGreatDoor
open Go.ChangeShapes Go.WideShapes Go.ChangeAt Go.RowKit Px

theorem X6:∀ t∈Tryz.f9.params.toList,Tryz.prog.readableRec t=true∧t<Tryz.prog.types.size:=by
  rw[Tryz.params9]
  intro t ht
  have:t=26∨t=5:=by simp at ht;omega
  rcases this with rfl|rfl
  . exact⟨by kernel_rfl,of_decide_eq_true (by kernel_rfl)⟩
  . exact⟨by kernel_rfl,of_decide_eq_true (by kernel_rfl)⟩

set_option maxRecDepth 100000 in
theorem U5 (os:Os) (started:os.Started) (H:Type) (enc:TypeId×Value->H):
    ReturnsInHanded {} Tryz.checked os 9 .any (fun w args=>(Rows.reconcileExplainedSpec.pre enc Tryz.prog Tryz.f9 Rows.reconcileExplainedRow.domain false w args∧laidMetH Tryz.prog Rows.reconcileExplainedRow.laid w)∧sizedMet enc Tryz.prog Tryz.f9 (OpenSpec.ofChange Rows.reconcileExplainedSpec) false w args)
      (Rows.reconcileExplainedSpec.post enc Tryz.prog Tryz.f9 false true false false):=by
  refine returnsInHanded_of_change_and (C:=Tryz.checked) (X:=fun w _=>laidMetH Tryz.prog Rows.reconcileExplainedRow.laid w) (fun _ _ _ hh h=>h.of_heap hh) own started (by kernel_rfl) Tryz.func9
    (ChangeSpec.witness_shaped (enc:=enc) (C:=Tryz.checked) (os:=os) (X:=fun w _=>laidMetH Tryz.prog Rows.reconcileExplainedRow.laid w) false (World.laidAll Tryz.prog os Rows.reconcileExplainedRow.laid) #[.agg #[.int .i64 0,.slice none 0 0,.slice none 0 0],.agg #[.int .i64 0,.slice none 0 0,.slice none 0 0],.int .u8 0] 8 (World.laidAll_os _ _ _)
      (World.shaped_of_ZipB (by kernel_rfl) (by kernel_rfl)) (by kernel_rfl) (by kernel_rfl) (by kernel_rfl)
      (by rw[MakeChecks.laidMetH_plain _ _ _ (by kernel_rfl)];exact laidMet_laidAll _ (by kernel_rfl) (by kernel_rfl))) ?_
  intro W base args ds gs before hval0 hW hcnd hwt hL _
  have hG:GlobOk (fun _ _=>True) W:=by
    rw[MakeChecks.laidMetH_plain _ _ _ (by kernel_rfl)]at hL
    obtain⟨ps,⟨g0,t0,cs0,f0,p0,q0,hg0,ht0,hv0,hd0,⟨g1,t1,cs1,f1,p1,q1,hg1,ht1,hv1,AV,⟨g2,t2,cs2,f2,p2,q2,hg2,ht2,hv2,hd2,_,_⟩,_⟩,_⟩,_,_⟩:=hL
    obtain rfl:=G4 ((show Tryz.prog.globalNamed "internal/strconv.uint64pow10" = some 2 by kernel_rfl).symm.trans hg2)
    obtain rfl:=G4 ((show(Tryz.prog.globals[2]?).map (·.type)=some 229 by kernel_rfl).symm.trans ht2)
    exact Gk hv2 O hd2
  have hval:∀ (j:Nat) t v,Tryz.f9.params[j]? = some t->args[j]? = some v->Value.okWide Tryz.prog W .any base t v:=hval0
  have hW':=hW
  obtain⟨p,q,hA0,hV,rfl,hfz,hnd⟩:=hW
  have hA:DataW.TrodAll enc Tryz.prog W 0 (fun _=>true) true Tryz.f9.params.toList args.toList ds p:=hA0
  rw[Tryz.params9]at hA hval
  obtain⟨v0,vs0,d0,ds0,p0,q0,hargs,rfl,rfl,h0,r0⟩:=trodAll_cons hA
  obtain⟨v1,vs1,d1,ds1,p1,q1,rfl,rfl,rfl,h1,r1⟩:=trodAll_cons r0
  obtain⟨v2,vs2,d2,ds2,p2,q2,rfl,rfl,rfl,h2,r2⟩:=trodAll_cons r1
  obtain⟨rfl,rfl,rfl⟩:=trodAll_nil r2
  obtain rfl:args = #[v0,v1,v2]:=by cases args;simp_all
  obtain⟨rfl,rfl⟩:=trodVars_none hV
  obtain⟨x0,wx0,e0⟩:=FQ (sh:=shS) (by kernel_rfl) (hval 0 26 v0 rfl rfl) h0
  obtain⟨s0,hs0⟩:=LJ x0
  rw[hs0]at e0
  obtain⟨x1,wx1,e1⟩:=FQ (sh:=shS) (by kernel_rfl) (hval 1 26 v1 rfl rfl) h1
  obtain⟨s1,hs1⟩:=LJ x1
  rw[hs1]at e1
  obtain⟨x2,wx2,e2⟩:=FQ (sh:=.i .u8) (by kernel_rfl) (hval 2 5 v2 rfl rfl) h2
  have bu2:0<=(x2:Int)∧(x2:Int)<=255:=by simpa[Dat.ok,Lit.wf,IntKind.min,IntKind.max,IntKind.signed,IntKind.bits]using wx2
  refine(EJ (law9 s0 s1 x2 bu2.1 bu2.2) W [v0,v1,v2] O (fun j v x hv hx=>?_) hG).mono fun e W' ⟨he,bel⟩=>?_
  . match j,hv,hx with
    | 0,hv,hx=>cases hv;cases hx;exact e0
    | 1,hv,hx=>cases hv;cases hx;exact e1
    | 2,hv,hx=>cases hv;cases hx;exact e2
    | j+3,hv,_=>simp at hv
  . subst he
    exact⟨_,O,Lz hW' O O O X6 bel⟩

theorem Y7:Rows.reconcileExplainedRow.wf (OpenSpec.ofChange Rows.reconcileExplainedSpec)=true:=by kernel_rfl
theorem Y6:Tryz.f9.params.all (Tryz.prog.readableRec ·)=true:=by kernel_rfl
theorem Y5:namedTie Tryz.prog Rows.reconcileExplainedRow.named Rows.reconcileExplainedSpec.vars=true:=by kernel_rfl
theorem Y4:(Rows.reconcileExplainedRow.stops==[])=true:=by kernel_rfl
theorem Y3:(Rows.reconcileExplainedRow.knobs==[])=true:=by kernel_rfl
theorem Y2:(Rows.reconcileExplainedRow.inPlace==Tryz.prog.inPlace 9)=true:=by kernel_rfl
theorem X4:(Rows.reconcileExplainedRow.unfollowed==Tryz.prog.unfollowed 9)=true:=by kernel_rfl
theorem X3:(Rows.reconcileExplainedRow.recurses==Tryz.prog.recurses 9)=true:=by kernel_rfl
theorem X2:(Rows.reconcileExplainedRow.named==Tryz.prog.varsNamed 9)=true:=by kernel_rfl
theorem X1:(Rows.reconcileExplainedRow.maps==(Tryz.f9.params.toList++Rows.reconcileExplainedSpec.plain.varTypes Tryz.prog).any (Tryz.prog.mapsRec ·))=true:=by kernel_rfl
theorem X0:(Rows.reconcileExplainedRow.ifaces==(Tryz.f9.params.toList++Rows.reconcileExplainedSpec.plain.varTypes Tryz.prog).any (Tryz.prog.ifacesRec ·))=true:=by kernel_rfl
theorem W9:(Rows.reconcileExplainedRow.mapsOut==Tryz.prog.mapsAmong Tryz.f9.resultTypes.toList)=true:=by kernel_rfl
theorem W8:(Rows.reconcileExplainedRow.loops==(Tryz.f9.params.toList++Rows.reconcileExplainedSpec.plain.varTypes Tryz.prog).any (Tryz.prog.loopsFrom ·))=true:=by kernel_rfl
theorem W7:(Rows.reconcileExplainedRow.wideKeys==(Tryz.f9.params.toList++Rows.reconcileExplainedSpec.plain.varTypes Tryz.prog++Tryz.f9.resultTypes.toList).any (Tryz.prog.wideKeysFrom ·))=true:=by kernel_rfl
theorem W6:Rows.reconcileExplainedSpec.vars.all (Tryz.prog.varReadable ·)=true:=by kernel_rfl
theorem W5:Tryz.f9.resultTypes.all (fun t=>Tryz.prog.readableRec t&&decide (t<Tryz.prog.types.size))=true:=by kernel_rfl
theorem W4:(Rows.reconcileExplainedRow.ifacesOut==Tryz.f9.resultTypes.toList.any (Tryz.prog.ifacesRec ·))=true:=by kernel_rfl
theorem W3:(Rows.reconcileExplainedRow.loopsOut==Tryz.f9.resultTypes.toList.any (Tryz.prog.loopsFrom ·))=true:=by kernel_rfl
theorem W2:(Rows.reconcileExplainedRow.plainKeys==Tryz.prog.plainKeys)=true:=by rw[Cj];rfl
theorem W1:Rows.reconcileExplainedRow.shortTexts.isNone=true:=by kernel_rfl
theorem W0:(Rows.reconcileExplainedRow.lifted==Tryz.prog.liftsFinal)=true:=by rw[CC];rfl
theorem V9:(Tryz.prog.make==some Rows.reconcileExplainedRow.make)=true:=by kernel_rfl
theorem V8:(Rows.reconcileExplainedRow.kinds==(if Rows.reconcileExplainedRow.domain.isEmpty then []else Tryz.f9.params.toList.map fun t=>match Tryz.prog.underlying t with|some (.int k)=>some k|_=>none))=true:=by kernel_rfl
theorem V7:(Rows.reconcileExplainedRow.pinned==Rows.reconcileExplainedRow.pinnedBy)=true:=by kernel_rfl
theorem V6:(Rows.reconcileExplainedRow.veiled==(Tryz.f9.params.toList++Rows.reconcileExplainedSpec.plain.varTypes Tryz.prog++Tryz.f9.resultTypes.toList).any (Tryz.prog.veiledRec ·))=true:=by kernel_rfl
theorem V5:Rows.reconcileExplainedRow.veiledFits Tryz.prog Tryz.f9.params.toList (Tryz.f9.params.toList++Rows.reconcileExplainedSpec.plain.varTypes Tryz.prog++Tryz.f9.resultTypes.toList)=true:=by kernel_rfl
set_option maxRecDepth 100000 in
theorem X5:joinedFacts Tryz.prog 9 Tryz.f9 Rows.reconcileExplainedSpec Rows.reconcileExplainedRow=true:=(I8 (I8 (I8 (I8 (I8 (I8 (I8 (I8 (I8 (I8 (I8 (I8 (I8 (I8 (I8 (I8 (I8 (I8 (I8 (I8 (I8 (I8 (I8 (I8 (I8 (I8 (I8 (I8 (I8 (I8 (I8 Y7 GK) GJ) Y6) Y5) Y4) GI) Y3) GH) Y2) X4) X3) X2) X1) X0) W9) W8) W7) W6) W5) W4) W3) W2) W1) FB) FA) W0) V9) V8) V7) V6) V5)

theorem N9:Tryz.prog.funcNamed Rows.reconcileExplainedRow.func=some 9:=by kernel_rfl
theorem Y8:Tryz.f9.isWrapper Tryz.prog Rows.reconcileExplainedRow.wrapper Rows.reconcileExplainedRow.mainSum:=by
  unfold Func.isWrapper
  first|(rw[C2 (by decide +kernel)];kernel_rfl)|(rw[B8 (by decide +kernel)];exact⟨rfl,O⟩)
theorem Z0:Tryz.f9.isInstance Tryz.prog Rows.reconcileExplainedRow.origin Rows.reconcileExplainedRow.targs:=of_decide_eq_true (by kernel_rfl)
theorem Y9:Rows.reconcileExplainedRow.holds Tryz.pinned (OpenSpec.ofChange Rows.reconcileExplainedSpec):=
  OpenClaim.holds_of_wide 9 Tryz.f9 rfl rfl rfl rfl rfl rfl rfl ⟨rfl,rfl,rfl,rfl,rfl⟩ rfl rfl rfl rfl rfl N9 Tryz.func9 X5 Z0 Y8
    (fun os started H enc _=>U5 os started H enc)
theorem ReconcileExplained_card:Rows.ReconcileExplainedCardSaid:=
  Claim7.holds_tied_plain_at .later [] [.data,.data,.data,.data,.sentinel,.sentinel,.pinned] true (true, "e35ac5b408a18c2e1d6eae73f8f4c2b49f81947261df319c7eaeffe52850a4dd") true Y9 (fun _ h=>by cases h) (by kernel_rfl) (fun _ h=>by cases h) reconcileExplained_row_tie rfl ⟨rfl,rfl⟩ (by kernel_rfl) rfl
    (fun f fn hf hfn=>by
      obtain rfl:f=9:=G4 (N9.symm.trans hf) |>.symm
      obtain rfl:fn=Tryz.f9:=(G4 (Tryz.func9.symm.trans hfn)).symm
      exact⟨by kernel_rfl,fun j t ht=>by
        rw[Tryz.params9]at ht
        have hm:t∈[26,26,5]:=by simpa using Array.mem_of_getElem? ht
        have hall:([26,26,5].all fun u=>!Tryz.prog.wantsStandIn u)=true:=by kernel_rfl
        exact(show Tryz.prog.wantsStandIn t=false by simpa using E7.1 hall t hm)⟩)
    (by kernel_rfl)
#print axioms ReconcileExplained_card
end Go.Proofs.YtdkpmnefoobipaaGreatDoor
