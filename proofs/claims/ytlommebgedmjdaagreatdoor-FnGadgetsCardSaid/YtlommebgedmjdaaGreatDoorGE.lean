import Derived.Test.YtlommebgedmjdaaGreatDoorER
import Derived.Test.YtlommebgedmjdaaGreatDoorJF
import Derived.Test.YtlommebgedmjdaaGreatDoorCards
import Derived.Test.YtlommebgedmjdaaGreatDoorTie
import Derived.Lib.LaidU8
import Derived.Deep.DeepHandedRow
import Derived.Lay
import Derived.LaidOnce
import Derived.SevenTiedAt
import Derived.ChangeMaps5
namespace Go.Proofs.YtlommebgedmjdaaGreatDoor
open Go.ChangeShapes Go.WideShapes Go.ChangeAt Go.RowKit
set_option maxRecDepth 100000
theorem xUo:Rows.laid_internal_strconv_uint64pow10 (H:=Unit)=Lib.tabData .u64 Lib.pow10Tab:=by rfl
theorem xLt {W:World} {l:List (String×DataW Unit)} (h:laidMet Tryz.prog l W) (hm:("internal/strconv.uint64pow10",Lib.tabData .u64 Lib.pow10Tab)∈l):Lib.TabIs Tryz.prog W "internal/strconv.uint64pow10" .u64 Lib.pow10Tab:=by
  obtain⟨g,t,cs,fuel,p,h1,h2,h3,h4⟩:=Lib.laidMet.reads h hm
  have hb:(Tryz.prog.globalNamed "internal/strconv.uint64pow10").bind (fun g=>(Tryz.prog.globals[g]?).map (·.type))=some 265:=by kernel_rfl
  rw[h1] at hb;obtain rfl:=Option.some.inj (hb.symm.trans h2);have:=Lib.cells_of_tab Tryz.underlying265 Tryz.underlying111 (by kernel_rfl) (by kernel_rfl) h4
  unfold Lib.TabIs
  rw[h3,← this]
end Go.Proofs.YtlommebgedmjdaaGreatDoor
namespace Go.Proofs.YtlommebgedmjdaaGreatDoor
open Go.ChangeShapes Go.WideShapes Go.ChangeAt Go.RowKit
set_option maxRecDepth 100000
theorem oAt : "*" ++ "errors.errorString" = "*errors.errorString":=by decide
theorem oCp (u:TypeId) (h:Tryz.prog.typeName? 3 u=some "*errors.errorString"):u=274:=typeName_ptr_named (nm:="errors.errorString") (by rw[oAt];kernel_rfl) (by kernel_rfl) (by decide) u (by rw[oAt];exact h)
theorem xPj {n:String} {text:List UInt8} {r:List (String×DataW Unit)} {W:World} (h:laidMet Tryz.prog ((n,.iface "*errors.errorString" (.ptr (.agg [.lit (.string text)])))::r) W)
    (hg:(Tryz.prog.globalNamed n).bind (fun g=>(Tryz.prog.globals[g]?).map (·.type))=some 175):∃ tp p,W.var? Tryz.prog n=some #[.iface tp p]:=by
  cases hn:Tryz.prog.globalNamed n with
  | none=>rw[hn] at hg;cases hg
  | some g=>
    rw[hn] at hg;obtain⟨a,s,hv,_⟩:=laid_sentinel h hn hg Tryz.underlying175 oCp Tryz.underlying274 Tryz.underlying276 rfl rfl Tryz.underlying9 (by kernel_rfl) (by kernel_rfl);exact⟨_,_,hv⟩
end Go.Proofs.YtlommebgedmjdaaGreatDoor
