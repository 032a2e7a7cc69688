/- CanonSteps holds: for every input the law returns true. No condition. Part 17 of 19. No condition. -/
import Derived.Test.YtkdhppfdiagglaaGreatDoorCSp
import Derived.JoinedOf
set_option linter.unusedVariables false
set_option linter.unnecessarySimpa false
set_option linter.unusedSimpArgs false
set_option maxRecDepth 100000
set_option maxHeartbeats 4000000
namespace Go.Proofs.YtkdhppfdiagglaaGreatDoor
open Go Go.Abs
theorem andT{a b:Bool}(h1:a=true)(h2:b=true):(a&&b)=true:=by rw[h1,h2];rfl
theorem jf0:(Rows.canonStepsRow.wf (OpenSpec.ofChange Rows.canonStepsSpec))=true:=by kernel_rfl
theorem jf1:(laidOutB Tryz.prog)=true:=by kernel_rfl
theorem jf2:(mapsRowed Tryz.prog)=true:=by kernel_rfl
theorem jf3:(Tryz.f3.params.all (Tryz.prog.readableRec ·))=true:=by kernel_rfl
theorem jf4:(namedTie Tryz.prog Rows.canonStepsRow.named Rows.canonStepsSpec.vars)=true:=by kernel_rfl
theorem jf5:((Rows.canonStepsRow.stops==[]))=true:=by kernel_rfl
theorem jf6:((Tryz.prog.stops==[]))=true:=by kernel_rfl
theorem jf7:((Rows.canonStepsRow.knobs==[]))=true:=by kernel_rfl
theorem jf8:((Tryz.prog.stopKnobs==[]))=true:=by kernel_rfl
theorem jf9:((Rows.canonStepsRow.inPlace==Tryz.prog.inPlace 3))=true:=by kernel_rfl
theorem jf10:((Rows.canonStepsRow.unfollowed==Tryz.prog.unfollowed 3))=true:=by kernel_rfl
theorem jf11:((Rows.canonStepsRow.recurses==Tryz.prog.recurses 3))=true:=by kernel_rfl
theorem jf12:((Rows.canonStepsRow.named==Tryz.prog.varsNamed 3))=true:=by kernel_rfl
theorem jf13:((Rows.canonStepsRow.maps==(Tryz.f3.params.toList++Rows.canonStepsSpec.plain.varTypes Tryz.prog).any (Tryz.prog.mapsRec ·)))=true:=by kernel_rfl
theorem jf14:((Rows.canonStepsRow.ifaces==(Tryz.f3.params.toList++Rows.canonStepsSpec.plain.varTypes Tryz.prog).any (Tryz.prog.ifacesRec ·)))=true:=by kernel_rfl
theorem jf15:((Rows.canonStepsRow.mapsOut==Tryz.prog.mapsAmong Tryz.f3.resultTypes.toList))=true:=by kernel_rfl
theorem jf16:((Rows.canonStepsRow.loops==(Tryz.f3.params.toList++Rows.canonStepsSpec.plain.varTypes Tryz.prog).any (Tryz.prog.loopsFrom ·)))=true:=by kernel_rfl
theorem jf17:((Rows.canonStepsRow.wideKeys==(Tryz.f3.params.toList++Rows.canonStepsSpec.plain.varTypes Tryz.prog++Tryz.f3.resultTypes.toList).any (Tryz.prog.wideKeysFrom ·)))=true:=by kernel_rfl
theorem jf18:(Rows.canonStepsSpec.vars.all (Tryz.prog.varReadable ·))=true:=by kernel_rfl
theorem jf19:(Tryz.f3.resultTypes.all (fun t=>Tryz.prog.readableRec t&&decide (t<Tryz.prog.types.size)))=true:=by kernel_rfl
theorem jf20:((Rows.canonStepsRow.ifacesOut==Tryz.f3.resultTypes.toList.any (Tryz.prog.ifacesRec ·)))=true:=by kernel_rfl
theorem jf21:((Rows.canonStepsRow.loopsOut==Tryz.f3.resultTypes.toList.any (Tryz.prog.loopsFrom ·)))=true:=by kernel_rfl
theorem jf22:((Rows.canonStepsRow.plainKeys==Tryz.prog.plainKeys))=true:=by kernel_rfl
theorem jf23:(Rows.canonStepsRow.shortTexts.isNone)=true:=by kernel_rfl
theorem jf24:(Tryz.prog.stopsHeard)=true:=by kernel_rfl
theorem jf25:(Tryz.prog.mayEnter)=true:=by kernel_rfl
theorem jf26:((Rows.canonStepsRow.lifted==Tryz.prog.liftsFinal))=true:=by kernel_rfl
theorem jf27:((Tryz.prog.make==some Rows.canonStepsRow.make))=true:=by kernel_rfl
theorem jf28:((Rows.canonStepsRow.kinds==(if Rows.canonStepsRow.domain.isEmpty then [] else Tryz.f3.params.toList.map fun t=>match Tryz.prog.underlying t with|some (.int k)=>some k|_=>none)))=true:=by kernel_rfl
theorem jf29:((Rows.canonStepsRow.pinned==Rows.canonStepsRow.pinnedBy))=true:=by kernel_rfl
theorem jf30:((Rows.canonStepsRow.veiled==(Tryz.f3.params.toList++Rows.canonStepsSpec.plain.varTypes Tryz.prog++Tryz.f3.resultTypes.toList).any (Tryz.prog.veiledRec ·)))=true:=by kernel_rfl
theorem jf31:(Rows.canonStepsRow.veiledFits Tryz.prog Tryz.f3.params.toList (Tryz.f3.params.toList++Rows.canonStepsSpec.plain.varTypes Tryz.prog++Tryz.f3.resultTypes.toList))=true:=by kernel_rfl
theorem canonSteps_closed:joinedFacts Tryz.prog 3 Tryz.f3 Rows.canonStepsSpec Rows.canonStepsRow=true:=
 andT (andT (andT (andT (andT (andT (andT (andT (andT (andT (andT (andT (andT (andT (andT (andT (andT (andT (andT (andT (andT (andT (andT (andT (andT (andT (andT (andT (andT (andT (andT (jf0) jf1) jf2) jf3) jf4) jf5) jf6) jf7) jf8) jf9) jf10) jf11) jf12) jf13) jf14) jf15) jf16) jf17) jf18) jf19) jf20) jf21) jf22) jf23) jf24) jf25) jf26) jf27) jf28) jf29) jf30) jf31
end Go.Proofs.YtkdhppfdiagglaaGreatDoor
