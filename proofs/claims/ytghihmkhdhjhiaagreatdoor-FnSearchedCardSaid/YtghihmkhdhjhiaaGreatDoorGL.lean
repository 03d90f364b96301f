import Derived.Test.YtghihmkhdhjhiaaGreatDoorTS
import Derived.Test.YtghihmkhdhjhiaaGreatDoorDL
import Derived.Lib.AppendIntMem
import Derived.Lib.ItoaLen
namespace Go.Proofs.YtghihmkhdhjhiaaGreatDoor
set_option linter.unusedVariables false
set_option linter.unusedSimpArgs false
open Go.RowKit Go.Sort
set_option maxRecDepth 100000
structure Glo (w:World):Prop where
  tab:Lib.TabIs Tryz.prog w "internal/strconv.uint64pow10" .u64 Lib.pow10Tab
  mx:∃ m,w.cell? ⟨xDc.g 1,0,none⟩=some (.int .i64 m)
theorem xOe {w:World} {a:Addr} {v:Value} (h:w.cell? a=some v):a.block<w.heap.size:=by
  unfold World.cell? at h
  split at h
  · rename_i h1
    exact(Array.getElem?_eq_some_iff.1 h1).1
  all_goals cases h
theorem Glo.go {w w':World} (h:Glo w) (l:Below w.heap.size w w'):Glo w':=by
  obtain⟨m,hm⟩:=h.mx;exact⟨Lib.tabBelow_of_tabIs h.tab w' l,m,(gG (l.block _ (xOe hm)) _).trans hm⟩
theorem xGf:Builder.Extra Tryz.prog sC where
  sizeBuilder:=by kernel_rfl
  liesBuilder:=by kernel_rfl
  t5:=Tryz.underlying5
  a5:=Tryz.isAgg5
  z5:=Tryz.sizeOf5
  v5:=Tryz.zeroValue5
  infoByte:=by kernel_rfl
  cellsByte:=by kernel_rfl
  sizeByte:=by kernel_rfl
  neB5:=by decide
def cX (n b:Int):Option ByteArray:=if b=10 then some ⟨(Lib.itoa n).toArray⟩ else none
theorem pF {x0 x1:Int} (r:ByteArray) (hR:cX x0 x1=some r) (w0:World) (hG:Glo w0) (hx0:xO x0) (hx1:xO x1):Calls Tryz.prog 140 #[.int .i64 x0,.int .i64 x1] w0 (xDh (fun v w'=>v= .string r∧r.size≤maxLen) w0):=by
  unfold cX at hR
  split at hR
  · rename_i h
    subst h;obtain rfl:=Option.some.inj hR;refine(Any.strconv_FormatInt_10 layF x0 hx0.1 hx0.2 w0 hG.tab).mono (fun e w' h=>?_);obtain⟨he,k,os,hw⟩:=h;refine⟨_,he,?_,rfl,?_⟩
    · subst hw
      exact Lib.below_grow _ w0 (Nat.le_refl _) k os
    · have:=Lib.itoa_length_le x0 hx0.1 hx0.2
      have h2:(⟨(Lib.itoa x0).toArray⟩:ByteArray).size=(Lib.itoa x0).length:=by simp [ByteArray.size]
      rw[h2]
      unfold maxLen
      omega
  · cases hR
def wD (xs:List ByteArray) (sep:ByteArray):List UInt8:=Lib.join (xs.map (·.data.toList)) sep.data.toList
def gO (xs:List ByteArray) (sep:ByteArray):Option ByteArray:=if xs.length≤140737488355328∧(wD xs sep).length≤140737488355328 then some ⟨(wD xs sep).toArray⟩ else none
theorem yF {x0:List ByteArray} {x1:ByteArray} (r:ByteArray) (hR:gO x0 x1=some r) {v0:Value} {b0:List Nat} (w0:World) (A0:Rd (Sl 1 jP) w0 v0 x0 b0) (hx1:x1.size≤maxLen):Calls Tryz.prog 108 #[v0,.string x1] w0 (xDh (fun v w'=>v= .string r∧r.size≤maxLen) w0):=by
  unfold gO at hR
  split at hR
  · rename_i h
    obtain rfl:=Option.some.inj hR
    have hsz:(⟨(wD x0 x1).toArray⟩:ByteArray).size≤maxLen:=by
      have h2:(⟨(wD x0 x1).toArray⟩:ByteArray).size=(wD x0 x1).length:=by simp [ByteArray.size]
      rw[h2]
      unfold maxLen
      omega
    obtain⟨a,c,rfl,hl,hc,ha,hs⟩:=A0.r
    rcases hs with ⟨rfl,rfl⟩ | ⟨b,o,bss,rfl,rfl,he⟩
    · refine(Any.strings_Join_none xLa xGf a c x1 w0).mono (fun e w' h=>?_)
      obtain⟨he,rfl⟩:=h;exact⟨_,he,Below.refl _ _,rfl,hsz⟩
    · have hb:b<w0.heap.size:=A0.m b (by simp)
      refine(Any.strings_Join xLa xGf b o c x0 x1 w0 (fun j x hj=>?_) hb h.1 hl h.2).mono (fun e w' h=>?_)
      · have hjl:j<bss.length:=by rw[he.1];exact(List.getElem?_eq_some_iff.1 hj).1
        have:=(he.2 j x _ hj (List.getElem?_eq_getElem hjl)).1
        simpa using this
      · obtain⟨he,hb⟩:=h
        exact⟨_,he,hb,rfl,hsz⟩
  · cases hR
def bS (s sep:ByteArray):Option (List ByteArray):=if s.size<4294967281∧1≤sep.size∧Lib.countB s sep≤1000000000 then some (Lib.splitB sep 0 (Lib.countB s sep) s) else none
theorem xAc (sep:ByteArray):∀ (k:Nat) (s:ByteArray),∀ x∈Lib.splitB sep 0 k s,x.size≤s.size
  | 0,s=>fun x hx=>by
    rw[Lib.splitB_zero,List.mem_singleton] at hx;rw[hx];exact Nat.le_refl _
  | k+1,s=>fun x hx=>by
    unfold Lib.splitB at hx
    split at hx
    · rw[List.mem_singleton] at hx
      rw[hx];exact Nat.le_refl _
    · rcases List.mem_cons.1 hx with rfl | hx
      · rw[ByteArray.size_extract];omega
      · have:=xAc sep k _ x hx
        rw[ByteArray.size_extract] at this
        omega
theorem tX {x0 x1:ByteArray} (r:List ByteArray) (hR:bS x0 x1=some r) (w0:World) (hG:Glo w0) (hx0:x0.size≤maxLen) (hx1:x1.size≤maxLen):Calls Tryz.prog 32 #[.string x0,.string x1] w0 (xDh (fun v w'=>∃ (v1':Value) (rb2':List Nat),v=v1'∧Row 1 jP 9 w0.heap.size w' v1' r rb2' []) w0):=by
  unfold bS at hR
  split at hR
  · rename_i h
    obtain⟨h1,h2,h3⟩:=h;obtain rfl:=Option.some.inj hR;obtain⟨m,hm⟩:=hG.mx;have hlen:=Lib.splitB_all x1 h2 0 _ x0 rfl;refine(Any.strings_Split { xPa with } (by kernel_rfl) x0 x1 m w0 h1 hm h2).mono (fun e w' h=>?_);obtain⟨he,rfl⟩:=h;refine⟨_,he,(Below.refl _ _).alloc (Nat.le_refl _) _,_,[w0.heap.size],rfl,⟨(Lib.splitB x1 0 (Lib.countB x0 x1) x0).map Value.string,List.replicate (Lib.splitB x1 0 (Lib.countB x0 x1) x0).length [],⟨by simp,.inr ⟨w0.heap.size,Lib.countB x0 x1+1,((Lib.splitB x1 0 (Lib.countB x0 x1) x0).map Value.string).toArray,by rw[hlen],Nat.le_refl _,heap_alloc_new w0 _,by rw[hlen];exact Nat.le_refl _,by unfold maxLen;omega,by simp [hlen],by rw[List.take_of_length_le (by simp)]⟩⟩,by simp,by simp,fun i y bj hy hbj=>?_⟩,rfl,vZ.nil _,Dj.nil _⟩
    have hb:bj=[]:=by
      rw[List.getElem?_replicate] at hbj
      split at hbj
      · exact(Option.some.inj hbj).symm
      · cases hbj
    subst hb;refine⟨?_,Nat.le_trans (xAc x1 _ x0 y (List.mem_of_getElem? hy)) hx0,rfl⟩
    simp [hy]
  · cases hR
end Go.Proofs.YtghihmkhdhjhiaaGreatDoor
