import Derived.Test.YtfmnjkpddljdcaaGreatDoorER
import Derived.Test.YtfmnjkpddljdcaaGreatDoorJF
import Derived.Test.YtfmnjkpddljdcaaGreatDoorCards
import Derived.Test.YtfmnjkpddljdcaaGreatDoorTie
import Derived.Lib.LaidU8
import Derived.Deep.DeepHandedRow
import Derived.Lay
import Derived.LaidOnce
import Derived.SevenTiedAt
import Derived.ChangeMaps5
namespace Go.Proofs.YtfmnjkpddljdcaaGreatDoor
open Go.ChangeShapes Go.WideShapes Go.ChangeAt Go.RowKit
set_option maxRecDepth 100000
theorem xPh:Rows.laid_internal_strconv_uint64pow10 (H:=Unit)=Lib.tabData .u64 Lib.pow10Tab:=by rfl
theorem xIu {W:World} {l:List (String×DataW Unit)} (h:laidMet Tryz.prog l W) (hm:("internal/strconv.uint64pow10",Lib.tabData .u64 Lib.pow10Tab)∈l):Lib.TabIs Tryz.prog W "internal/strconv.uint64pow10" .u64 Lib.pow10Tab:=by
  obtain⟨g,t,cs,fuel,p,h1,h2,h3,h4⟩:=Lib.laidMet.reads h hm
  have hb:(Tryz.prog.globalNamed "internal/strconv.uint64pow10").bind (fun g=>(Tryz.prog.globals[g]?).map (·.type))=some 272:=by kernel_rfl
  rw[h1] at hb;obtain rfl:=Option.some.inj (hb.symm.trans h2);have:=Lib.cells_of_tab Tryz.underlying272 Tryz.underlying116 (by kernel_rfl) (by kernel_rfl) h4
  unfold Lib.TabIs
  rw[h3,← this]
end Go.Proofs.YtfmnjkpddljdcaaGreatDoor
namespace Go.Proofs.YtfmnjkpddljdcaaGreatDoor
open Go.ChangeShapes Go.WideShapes Go.ChangeAt Go.RowKit
set_option maxRecDepth 100000
theorem xVs : "*" ++ "errors.errorString" = "*errors.errorString":=by decide
theorem xVp (u:TypeId) (h:Tryz.prog.typeName? 3 u=some "*errors.errorString"):u=268:=typeName_ptr_named (nm:="errors.errorString") (by rw[xVs];kernel_rfl) (by kernel_rfl) (by decide) u (by rw[xVs];exact h)
theorem xLs {n:String} {text:List UInt8} {r:List (String×DataW Unit)} {W:World} (h:laidMet Tryz.prog ((n,.iface "*errors.errorString" (.ptr (.agg [.lit (.string text)])))::r) W)
    (hg:(Tryz.prog.globalNamed n).bind (fun g=>(Tryz.prog.globals[g]?).map (·.type))=some 145):∃ tp p,W.var? Tryz.prog n=some #[.iface tp p]:=by
  cases hn:Tryz.prog.globalNamed n with
  | none=>rw[hn] at hg;cases hg
  | some g=>
    rw[hn] at hg;obtain⟨a,s,hv,_⟩:=laid_sentinel h hn hg Tryz.underlying145 xVp Tryz.underlying268 Tryz.underlying270 rfl rfl Tryz.underlying9 (by kernel_rfl) (by kernel_rfl);exact⟨_,_,hv⟩
end Go.Proofs.YtfmnjkpddljdcaaGreatDoor
