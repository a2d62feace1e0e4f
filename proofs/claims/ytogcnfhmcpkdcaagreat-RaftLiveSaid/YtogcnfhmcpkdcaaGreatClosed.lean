/-
  The closed facts on the program that every row of this seat asks, each proved once.
-/
import Derived.Test.YtogcnfhmcpkdcaaGreatRows
import Derived.JoinedOf
namespace Go.Proofs.YtogcnfhmcpkdcaaGreat
set_option maxRecDepth 100000
theorem headWord : (behindMainWord (wordsSigns Tryz.prog.initOrder.toList)).head? = some "cut".toList := by
 rw [show Tryz.prog.initOrder.toList=_ from String.toList_ofList]
 kernel_rfl
theorem headWords : ∃ rest, behindMainWord (wordsSigns Tryz.prog.initOrder.toList) = "cut".toList :: rest := by
 have h:=headWord;cases hl:behindMainWord (wordsSigns Tryz.prog.initOrder.toList) with
 | nil=>rw [hl] at h;cases h
 | cons c r=>rw [hl] at h;simp at h;exact ⟨r,by rw [h];rfl⟩
theorem make_of_cut {P : Program} {r : List (List Char)} (h : behindMainWord (wordsSigns P.initOrder.toList) = "cut".toList :: r) : P.make = some .cut := by
 unfold Program.make;rw [h]
 dsimp only
 rw [if_neg (by decide),if_pos (by simp)]
theorem strip_of_cut (r : List (List Char)) : stripLifts liftWords ("cut".toList :: r) = ([], "cut".toList :: r) := by
 simp [stripLifts,liftWords]
theorem lifts_of_cut {P : Program} {r : List (List Char)} (h : behindMainWord (wordsSigns P.initOrder.toList) = "cut".toList :: r) : P.liftsFinal = false := by
 unfold Program.liftsFinal Program.headLifts;rw [h,strip_of_cut]
 dsimp only
 rw [if_pos (by simp)]
 simp
theorem enter_of_cut {P : Program} {r : List (List Char)} (h : behindMainWord (wordsSigns P.initOrder.toList) = "cut".toList :: r) (h1 : P.laysLater = false) (h2 : P.bearsReflect = false) (h3 : P.doorFits [] = true) : P.mayEnter = true := by
 unfold Program.mayEnter;rw [h]
 dsimp only
 rw [strip_of_cut,h1,h2,h3]
 simp
theorem laysLater_no:Tryz.prog.laysLater=false:=by kernel_rfl
theorem bearsReflect_no:Tryz.prog.bearsReflect=false:=by kernel_rfl
theorem doorFits_yes:Tryz.prog.doorFits []=true:=by kernel_rfl
theorem mayEnter_yes:Tryz.prog.mayEnter=true:=let ⟨_,h⟩:=headWords;enter_of_cut h laysLater_no bearsReflect_no doorFits_yes
theorem make_cut:Tryz.prog.make=some .cut:=let ⟨_,h⟩:=headWords;make_of_cut h
theorem liftsFinal_no:Tryz.prog.liftsFinal=false:=let ⟨_,h⟩:=headWords;lifts_of_cut h
theorem laidOut_yes:laidOutB Tryz.prog=true:=by kernel_rfl
theorem mapsRowed_yes:mapsRowed Tryz.prog=true:=by kernel_rfl
theorem stops_none:(Tryz.prog.stops== [])=true:=by kernel_rfl
theorem stopKnobs_none:(Tryz.prog.stopKnobs== [])=true:=by kernel_rfl
theorem plainKeys_are:Tryz.prog.plainKeys=true:=by kernel_rfl
theorem stopsHeard_yes:Tryz.prog.stopsHeard=true:=by kernel_rfl
theorem ownKnob_none:ownKnob Tryz.prog.godebug=none:=by kernel_rfl
theorem joined_of {f:FuncId} {fn:Func} {s:ChangeSpec} {c:OpenClaim}
  (h1:(c.wf (OpenSpec.ofChange s) && fn.params.all (Tryz.prog.readableRec ·) && namedTie Tryz.prog c.named s.vars && (c.stops== []) && (c.knobs== []))=true)
  (h2:(c.inPlace==Tryz.prog.inPlace f)=true) (h3:(c.unfollowed==Tryz.prog.unfollowed f)=true) (h4:(c.recurses==Tryz.prog.recurses f)=true) (h5:(c.named==Tryz.prog.varsNamed f)=true)
  (h6:((c.maps==(fn.params.toList++s.plain.varTypes Tryz.prog).any (Tryz.prog.mapsRec ·)) && (c.ifaces==(fn.params.toList++s.plain.varTypes Tryz.prog).any (Tryz.prog.ifacesRec ·)) && (c.mapsOut==Tryz.prog.mapsAmong fn.resultTypes.toList) &&
   (c.loops==(fn.params.toList++s.plain.varTypes Tryz.prog).any (Tryz.prog.loopsFrom ·)) && (c.wideKeys==(fn.params.toList++s.plain.varTypes Tryz.prog++fn.resultTypes.toList).any (Tryz.prog.wideKeysFrom ·)) &&
   s.vars.all (Tryz.prog.varReadable ·) && fn.resultTypes.all (fun t=>Tryz.prog.readableRec t && decide (t<Tryz.prog.types.size)) && (c.ifacesOut==fn.resultTypes.toList.any (Tryz.prog.ifacesRec ·)) && (c.loopsOut==fn.resultTypes.toList.any (Tryz.prog.loopsFrom ·)) &&
   c.shortTexts.isNone && (c.pinned==c.pinnedBy) &&
   (c.veiled==(fn.params.toList++s.plain.varTypes Tryz.prog++fn.resultTypes.toList).any (Tryz.prog.veiledRec ·)) && c.veiledFits Tryz.prog fn.params.toList (fn.params.toList++s.plain.varTypes Tryz.prog++fn.resultTypes.toList))=true)
  (h8:(c.kinds==(if c.domain.isEmpty then [] else fn.params.toList.map fun t=>match Tryz.prog.underlying t with | some (.int k)=>some k | _=>none))=true)
  (h7:c.plainKeys=true∧c.lifted=false∧c.make= .cut):joinedFacts Tryz.prog f fn s c=true:=by
 obtain ⟨h7a,h7b,h7c⟩:=h7;simp only [Bool.and_eq_true] at h1 h6;unfold joinedFacts;rw [h7a,h7b,h7c,mayEnter_yes,make_cut,liftsFinal_no,laidOut_yes,mapsRowed_yes,stops_none,stopKnobs_none,plainKeys_are,stopsHeard_yes,h2,h3,h4,h5];simp only [Bool.and_eq_true,h1,h6,and_self,and_true,true_and];exact ⟨⟨⟨rfl,rfl⟩,rfl⟩,h8⟩
end Go.Proofs.YtogcnfhmcpkdcaaGreat
