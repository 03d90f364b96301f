import Derived.Test.YtlommebgedmjdaaGreatDoorProg
import Derived.Shelf.Strings.Cut
import Derived.Test.YtlommebgedmjdaaGreatDoorNE
import Derived.Test.YtlommebgedmjdaaGreatDoorER
import Derived.Shelf.Strings.BuilderK
namespace Go.Proofs.YtlommebgedmjdaaGreatDoor
open Go.Proofs.Tryz
set_option maxRecDepth 100000
open Go.Shelf
def xSp:Go.Shelf.Ren:=⟨fun | 145=>137 | 220=>185 | 219=>182 | 217=>198 | 225=>199 | 224=>200 | 267=>201 | 266=>227 | 314=>228 | n=>n,fun | 9=>9 | 4=>4 | 59=>178 | 3=>3 | 5=>5 | 46=>163 | 146=>206 | 51=>205 | n=>n,fun | 1=>0 | n=>n⟩
theorem layK:Go.Proofs.Lays.n145 Tryz.prog xSp:={
  mixed:=by kernel_rfl
  f145:=func137.trans (congrArg some (by kernel_rfl))
  f217:=func198.trans (congrArg some (by kernel_rfl))
  f219:=func182.trans (congrArg some (by kernel_rfl))
  f220:=func185.trans (congrArg some (by kernel_rfl))
  f224:=func200.trans (congrArg some (by kernel_rfl))
  f225:=func199.trans (congrArg some (by kernel_rfl))
  f266:=func227.trans (congrArg some (by kernel_rfl))
  f267:=func201.trans (congrArg some (by kernel_rfl))
  f314:=func228.trans (congrArg some (by kernel_rfl))
  t3:=underlying3
  a3:=isAgg3
  z3:=sizeOf3
  v3:=zeroValue3
  t4:=underlying4
  a4:=isAgg4
  z4:=sizeOf4
  v4:=zeroValue4
  t5:=underlying5
  a5:=isAgg5
  z5:=sizeOf5
  v5:=zeroValue5
  t9:=underlying9
  a9:=isAgg9
  z9:=sizeOf9
  v9:=zeroValue9
  t46:=underlying163
  a46:=isAgg163
  z46:=sizeOf163
  v46:=zeroValue163
  t51:=underlying205
  a51:=isAgg205
  z51:=sizeOf205
  v51:=zeroValue205
  t59:=underlying178
  a59:=isAgg178
  z59:=sizeOf178
  v59:=zeroValue178
  t146:=underlying206
  a146:=isAgg206
  z146:=sizeOf206
  v146:=zeroValue206
  g1:=by kernel_rfl }
end Go.Proofs.YtlommebgedmjdaaGreatDoor
namespace Go.Proofs.YtlommebgedmjdaaGreatDoor
open Go.Proofs.Tryz
set_option linter.unusedVariables false
set_option linter.unusedSimpArgs false
open Go.RowKit
theorem xTu {Φ:Value→World→Prop} {w w':World} {e:Ending} {B:Nat→Prop} (hN:∀ c,B c→c<w.heap.size) (h:xKs Φ w e w'):Gv (fun v w'=>Φ v w'∧Sep [] B w w' []) e w':=
  let ⟨v,h1,h2,h3⟩:=h;⟨v,h1,h3,(Sep.start hN).go h2⟩
theorem wN {B:Nat→Prop} {x0 x1:Int} (r:ByteArray) (hR:cB x0 x1=some r) (w0:World) (hN:∀ c,B c→c<w0.heap.size) (hG:Glo w0) (hx0:xH x0) (hx1:xH x1):Calls Tryz.prog 145 #[.int .i64 x0,.int .i64 x1] w0 (Gv (fun v w'=>v= .string r∧Sep [] B w0 w' []∧r.size≤maxLen)):=
  (wG r hR w0 hG hx0 hx1).mono fun e w' h=>let ⟨v,h1,⟨h2,h3⟩,h4⟩:=xTu hN h;⟨v,h1,h2,h4,h3⟩
theorem xEv {B:Nat→Prop} {x0:List ByteArray} {x1:ByteArray} (r:ByteArray) (hR:fQ x0 x1=some r) {v0:Value} (w0:World) (hN:∀ c,B c→c<w0.heap.size) (A0:Bo B w0 (Sl 1 rV) v0 x0) (hx1:x1.size≤maxLen):Calls Tryz.prog 79 #[v0,.string x1] w0 (Gv (fun v w'=>v= .string r∧Sep [] B w0 w' []∧r.size≤maxLen)):=
  let ⟨_,A,_⟩:=A0;(xEw r hR w0 A hx1).mono fun e w' h=>let ⟨v,h1,⟨h2,h3⟩,h4⟩:=xTu hN h;⟨v,h1,h2,h4,h3⟩
theorem yH {B:Nat→Prop} {x0:ByteArray} {x1 x2:Int} (r:Int×Bool) (hR:bH x0 x1 x2=some r) (w0:World) (hN:∀ c,B c→c<w0.heap.size) (hG:GloE w0) (hx0:x0.size≤maxLen) (hx1:xH x1) (hx2:xH x2):Calls Tryz.prog 136 #[.string x0,.int .i64 x1,.int .i64 x2] w0 (Gv (fun v w'=>∃ v1':Value,v= .tuple #[.int .i64 r.1,v1']∧Sep [] B w0 w' []∧xH r.1∧xNk v1' r.2)):=
  (yL r hR w0 hG hx0 hx1 hx2).mono fun e w' h=>let ⟨v,h1,⟨v1,h2,h3,h5⟩,h4⟩:=xTu hN h;⟨v,h1,v1,h2,h4,h3,h5⟩
theorem xDr {B:Nat→Prop} {x0 x1:ByteArray} (r:List ByteArray) (hR:cX x0 x1=some r) (w0:World) (hN:∀ c,B c→c<w0.heap.size) (hG:Glo w0) (hx0:x0.size≤maxLen) (hx1:x1.size≤maxLen):Calls Tryz.prog 32 #[.string x0,.string x1] w0 (Gv (fun v w'=>∃ v1':Value,v=v1'∧Sep [] B w0 w' [rl 1 rV 9 v1' r])):=
  (xDz r hR w0 hG hx0 hx1).mono fun e w' ⟨v,h1,h2,v1,rb,h3,h4⟩=>⟨v,h1,v1,h3,Row.push (Sep.start hN) h2 h4⟩
end Go.Proofs.YtlommebgedmjdaaGreatDoor
namespace Go.Proofs.YtlommebgedmjdaaGreatDoor
open Go.Proofs.Tryz
set_option linter.unusedVariables false
set_option linter.unusedSimpArgs false
open Go.RowKit
set_option maxRecDepth 100000
def jO (s sep:ByteArray):Option (ByteArray×ByteArray×Bool):=if s.size<4294967281 then some (⟨(Lib.cut s.data.toList sep.data.toList).1.toArray⟩,⟨(Lib.cut s.data.toList sep.data.toList).2.1.toArray⟩,(Lib.cut s.data.toList sep.data.toList).2.2) else none
theorem xHi {B:Nat→Prop} {x0 x1:ByteArray} (r:ByteArray×ByteArray×Bool) (hR:jO x0 x1=some r) (w0:World) (hN:∀ c,B c→c<w0.heap.size) (hG:Glo w0) (hx0:x0.size≤maxLen) (hx1:x1.size≤maxLen):Calls Tryz.prog 137 #[.string x0,.string x1] w0 (Gv (fun v w'=>v= .tuple #[.string r.1,.string r.2.1,.bool r.2.2]∧Sep [] B w0 w' []∧r.1.size≤maxLen∧r.2.1.size≤maxLen)):=by
  unfold jO at hR
  split at hR
  · rename_i h
    obtain rfl:=Option.some.inj hR;obtain⟨m,hm⟩:=hG.mx;refine(Any.strings_Cut layK x0 x1 m w0 h hm).mono (fun e w' h=>?_);obtain⟨he,k,rfl⟩:=h;refine⟨_,he,rfl,(Sep.start hN).go (below_drewN (Below.refl _ _) k),?_,?_⟩
    · show(Lib.cut x0.data.toList x1.data.toList).1.length≤maxLen
      unfold Lib.cut
      split
      · rw[List.length_take];have:x0.size=x0.data.toList.length:=rfl;omega
      · exact hx0
    · show(Lib.cut x0.data.toList x1.data.toList).2.1.length≤maxLen
      unfold Lib.cut
      split
      · rw[List.length_drop];have:x0.size=x0.data.toList.length:=rfl;omega
      · exact Nat.zero_le _
  · cases hR
end Go.Proofs.YtlommebgedmjdaaGreatDoor
namespace Go.Proofs.YtlommebgedmjdaaGreatDoor
open Go.Proofs.Tryz
set_option linter.unusedVariables false
set_option linter.unusedSimpArgs false
open Go.RowKit
set_option maxRecDepth 100000
def Bld (B:Nat) (w:World) (b:Nat) (s:ByteArray) (Y:List Nat):Prop:=B≤w.heap.size∧B≤b∧∃ p v,(p= .pointer none∨p= .pointer (some ⟨b,0,none⟩))∧w.heap[b]?=some (.cells #[p,v] 189 (0,0)) ∧
  w.ownsRowF B 5 1 v (Lib.strCells s).length (Lib.strCells s)∧v.ownBlock≠some b∧∀ y∈Y,y≠b∧v.ownBlock≠some y
theorem Bld.lt {B:Nat} {e:TypeId} {k:Nat} {v:Value} {xs:List Value} {w:World} (h:w.ownsRowF B e 1 v k xs):∀ g,v.ownBlock=some g→g<w.heap.size:=by
  intro g hg
  rcases h.2 with ⟨rfl,_⟩ | ⟨g',cap,cur,fz,rfl,_,hc,_⟩
  · cases hg
  · cases hg
    exact mJ hc
theorem Bld.keep {B b:Nat} {s:ByteArray} {Y:List Nat} {w w':World} (h:Bld B w b s Y) (hs:w.heap.size≤w'.heap.size) (hk:∀ g,g<w.heap.size→g ∉ Y→w'.heap[g]?=w.heap[g]?):Bld B w' b s Y:=by
  obtain⟨hB,hb,p,v,hp,h1,⟨h2,ho⟩,h3,h4⟩:=h;refine⟨Nat.le_trans hB hs,hb,p,v,hp,(hk b (mJ h1) (fun hy=>(h4 b hy).1 rfl)).trans h1,⟨h2,?_⟩,h3,h4⟩
  rcases ho with ⟨rfl,h0⟩ | ⟨g,cap,cur,fz,rfl,hg,hc,hr⟩
  · exact .inl ⟨rfl,h0⟩
  · exact .inr ⟨g,cap,cur,fz,rfl,hg,(hk g (mJ hc) (fun hy=>(h4 g hy).2 rfl)).trans hc,hr⟩
theorem Bld.only {B b:Nat} {s:ByteArray} {Y cs:List Nat} {w w':World} (h:Bld B w b s Y) (l:Only cs w w') (hc:∀ c∈cs,c∈Y):Bld B w' b s Y:=h.keep l.size (fun g hg hy=>l.block g hg (fun h=>hy (hc g h)))
section
variable {ops:Array Oper} {Q:Exit→Act→World→Prop} {a:Act} {w:World} {n:Nat} {L:List (Nat×Value)} {rest:List Oper} {d:Nat} {ty:TypeId} {pos:String} {af:Array Edge} {g:Option (Nat×Bool)}
end
end Go.Proofs.YtlommebgedmjdaaGreatDoor
namespace Go.Proofs.YtlommebgedmjdaaGreatDoor
open Go.Proofs.Tryz
set_option linter.unusedVariables false
set_option linter.unusedSimpArgs false
open Go.RowKit
set_option maxRecDepth 100000
section
variable {N:Nat→Prop} {w0 w:World} {D:List As} {b:Nat} {s:ByteArray}
variable {ops:Array Oper} {Q:Exit→Act→World→Prop} {a:Act} {n:Nat} {L:List (Nat×Value)} {rest:List Oper} {d:Nat} {ty:TypeId} {pos:String} {af:Array Edge} {g:Option (Nat×Bool)}
end
end Go.Proofs.YtlommebgedmjdaaGreatDoor
