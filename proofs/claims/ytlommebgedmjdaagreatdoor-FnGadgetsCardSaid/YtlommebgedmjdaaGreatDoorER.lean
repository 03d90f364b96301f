import Derived.Test.YtlommebgedmjdaaGreatDoorProg
import Derived.Shelf.LaysM
import Derived.Shelf.Strings.Builder1
import Derived.Shelf.Strconv.Itoa4
import Derived.Shelf.Strings.OnBuilder
import Derived.Shelf.Strings.Split
import Derived.Shelf.Strings.SplitShaped
import Derived.Shelf.Strings.BuilderK
import Derived.Test.YtlommebgedmjdaaGreatDoorTS
import Derived.Lib.AppendIntMem
import Derived.Lib.ItoaLen
import Derived.Shelf.LaysC
import Derived.Shelf.Strconv.ErrVarParseInt
import Derived.Stop.LaidErr
namespace Go.Proofs.YtlommebgedmjdaaGreatDoor
open Go.Proofs.Tryz
set_option maxRecDepth 100000
open Go.Shelf
def xTc:Go.Shelf.Ren:=⟨fun | 173=>145 | 246=>188 | 283=>208 | 284=>209 | 285=>210 | 286=>211 | 129=>225 | 317=>234 | 318=>235 | 319=>236 | 320=>237 | 337=>244 | 338=>245 | n=>n,fun | 2=>2 | 3=>3 | 9=>9 | 4=>4 | 171=>236 | 0=>0 | 53=>111 | 37=>22 | 5=>5 | 173=>239 | 212=>265 | 51=>205 | 20=>20 | 213=>266 | 46=>163 | 232=>280 | 233=>281 | n=>n,fun | 17=>5 | 18=>6 | 19=>7 | n=>n⟩
theorem layF:Go.Proofs.LaysM.n173 Tryz.prog xTc:={
  mixed:=by kernel_rfl
  f129:=func225.trans (congrArg some (by kernel_rfl))
  f173:=func145.trans (congrArg some (by kernel_rfl))
  f246:=func188.trans (congrArg some (by kernel_rfl))
  f283:=func208.trans (congrArg some (by kernel_rfl))
  f284:=func209.trans (congrArg some (by kernel_rfl))
  f285:=func210.trans (congrArg some (by kernel_rfl))
  f286:=func211.trans (congrArg some (by kernel_rfl))
  f317:=func234.trans (congrArg some (by kernel_rfl))
  f318:=func235.trans (congrArg some (by kernel_rfl))
  f319:=func236.trans (congrArg some (by kernel_rfl))
  f320:=func237.trans (congrArg some (by kernel_rfl))
  f337:=func244.trans (congrArg some (by kernel_rfl))
  f338:=func245.trans (congrArg some (by kernel_rfl))
  t0:=underlying0
  a0:=isAgg0
  z0:=sizeOf0
  v0:=zeroValue0
  t2:=underlying2
  a2:=isAgg2
  z2:=sizeOf2
  v2:=zeroValue2
  t3:=underlying3
  a3:=isAgg3
  z3:=sizeOf3
  v3:=zeroValue3
  t4:=underlying4
  a4:=isAgg4
  z4:=sizeOf4
  v4:=zeroValue4
  t5:=underlying5
  a5:=isAgg5
  z5:=sizeOf5
  v5:=zeroValue5
  t9:=underlying9
  a9:=isAgg9
  z9:=sizeOf9
  v9:=zeroValue9
  t20:=underlying20
  a20:=isAgg20
  z20:=sizeOf20
  v20:=zeroValue20
  t37:=underlying22
  a37:=isAgg22
  z37:=sizeOf22
  v37:=zeroValue22
  t46:=underlying163
  a46:=isAgg163
  z46:=sizeOf163
  v46:=zeroValue163
  t51:=underlying205
  a51:=isAgg205
  z51:=sizeOf205
  v51:=zeroValue205
  t53:=underlying111
  a53:=isAgg111
  z53:=sizeOf111
  v53:=zeroValue111
  t171:=underlying236
  a171:=isAgg236
  z171:=sizeOf236
  v171:=zeroValue236
  t173:=underlying239
  a173:=isAgg239
  z173:=sizeOf239
  v173:=zeroValue239
  t212:=underlying265
  a212:=isAgg265
  z212:=sizeOf265
  v212:=zeroValue265
  t213:=underlying266
  a213:=isAgg266
  z213:=sizeOf266
  t232:=underlying280
  a232:=isAgg280
  z232:=sizeOf280
  v232:=zeroValue280
  t233:=underlying281
  a233:=isAgg281
  z233:=sizeOf281
  v233:=zeroValue281
  g17:=by kernel_rfl
  g18:=by kernel_rfl
  g19:=by kernel_rfl
  i0:=by kernel_rfl
  i2:=by kernel_rfl
  i3:=by kernel_rfl
  i4:=by kernel_rfl
  i5:=by kernel_rfl
  i9:=by kernel_rfl
  i20:=by kernel_rfl
  i37:=by kernel_rfl
  i46:=by kernel_rfl
  i51:=by kernel_rfl
  i53:=by kernel_rfl
  i171:=by kernel_rfl
  i173:=by kernel_rfl
  i212:=by kernel_rfl
  i232:=by kernel_rfl
  i233:=by kernel_rfl
  m17:=by kernel_rfl
  m18:=by kernel_rfl
  m19:=by kernel_rfl }
def xMt:Go.Shelf.Ren:=⟨fun | 156=>79 | 165=>146 | 166=>147 | 169=>148 | 240=>189 | 241=>190 | 276=>212 | 277=>213 | n=>n,fun | 31=>67 | 9=>9 | 3=>3 | 4=>4 | 0=>0 | 20=>20 | 72=>189 | 76=>191 | 70=>187 | 37=>22 | 75=>175 | 127=>221 | 164=>241 | 5=>5 | 80=>193 | n=>n,fun | n=>n⟩
theorem oBu:Go.Proofs.Lays.n156 Tryz.prog xMt:={
  mixed:=by kernel_rfl
  f156:=func79.trans (congrArg some (by kernel_rfl))
  f165:=func146.trans (congrArg some (by kernel_rfl))
  f166:=func147.trans (congrArg some (by kernel_rfl))
  f169:=func148.trans (congrArg some (by kernel_rfl))
  f240:=func189.trans (congrArg some (by kernel_rfl))
  f241:=func190.trans (congrArg some (by kernel_rfl))
  f276:=func212.trans (congrArg some (by kernel_rfl))
  f277:=func213.trans (congrArg some (by kernel_rfl))
  t0:=underlying0
  a0:=isAgg0
  z0:=sizeOf0
  v0:=zeroValue0
  t3:=underlying3
  a3:=isAgg3
  z3:=sizeOf3
  v3:=zeroValue3
  t4:=underlying4
  a4:=isAgg4
  z4:=sizeOf4
  v4:=zeroValue4
  t9:=underlying9
  a9:=isAgg9
  z9:=sizeOf9
  v9:=zeroValue9
  t20:=underlying20
  a20:=isAgg20
  z20:=sizeOf20
  v20:=zeroValue20
  t31:=underlying67
  a31:=isAgg67
  z31:=sizeOf67
  v31:=zeroValue67
  t37:=underlying22
  a37:=isAgg22
  z37:=sizeOf22
  v37:=zeroValue22
  t70:=underlying187
  a70:=isAgg187
  z70:=sizeOf187
  v70:=zeroValue187
  t72:=underlying189
  a72:=isAgg189
  z72:=sizeOf189
  v72:=zeroValue189
  t75:=underlying175
  a75:=isAgg175
  z75:=sizeOf175
  v75:=zeroValue175
  t76:=underlying191
  a76:=isAgg191
  z76:=sizeOf191
  v76:=zeroValue191
  t127:=underlying221
  a127:=isAgg221
  z127:=sizeOf221
  v127:=zeroValue221
  t164:=underlying241
  a164:=isAgg241
  z164:=sizeOf241
  v164:=zeroValue241 }
def xMe:Go.Shelf.Ren:=⟨fun | 146=>32 | 221=>72 | 268=>132 | 138=>133 | 143=>134 | 195=>179 | 197=>180 | 218=>181 | 219=>182 | 260=>197 | 217=>198 | 225=>199 | 224=>200 | 267=>201 | 266=>227 | 314=>228 | n=>n,fun | 9=>9 | 31=>67 | 3=>3 | 4=>4 | 0=>0 | 105=>216 | 21=>21 | 5=>5 | 46=>163 | 119=>253 | 139=>256 | 138=>255 | 146=>206 | 51=>205 | n=>n,fun | 1=>0 | 3=>1 | 4=>2 | n=>n⟩
theorem oCb:Go.Proofs.LaysM.n146 Tryz.prog xMe:={
  mixed:=by kernel_rfl
  f138:=func133.trans (congrArg some (by kernel_rfl))
  f143:=func134.trans (congrArg some (by kernel_rfl))
  f146:=func32.trans (congrArg some (by kernel_rfl))
  f195:=func179.trans (congrArg some (by kernel_rfl))
  f197:=func180.trans (congrArg some (by kernel_rfl))
  f217:=func198.trans (congrArg some (by kernel_rfl))
  f218:=func181.trans (congrArg some (by kernel_rfl))
  f219:=func182.trans (congrArg some (by kernel_rfl))
  f221:=func72.trans (congrArg some (by kernel_rfl))
  f224:=func200.trans (congrArg some (by kernel_rfl))
  f225:=func199.trans (congrArg some (by kernel_rfl))
  f260:=func197.trans (congrArg some (by kernel_rfl))
  f266:=func227.trans (congrArg some (by kernel_rfl))
  f267:=func201.trans (congrArg some (by kernel_rfl))
  f268:=func132.trans (congrArg some (by kernel_rfl))
  f314:=func228.trans (congrArg some (by kernel_rfl))
  t0:=underlying0
  a0:=isAgg0
  z0:=sizeOf0
  v0:=zeroValue0
  t3:=underlying3
  a3:=isAgg3
  z3:=sizeOf3
  v3:=zeroValue3
  t4:=underlying4
  a4:=isAgg4
  z4:=sizeOf4
  v4:=zeroValue4
  t5:=underlying5
  a5:=isAgg5
  z5:=sizeOf5
  v5:=zeroValue5
  t9:=underlying9
  a9:=isAgg9
  z9:=sizeOf9
  v9:=zeroValue9
  t21:=underlying21
  a21:=isAgg21
  z21:=sizeOf21
  v21:=zeroValue21
  t31:=underlying67
  a31:=isAgg67
  z31:=sizeOf67
  v31:=zeroValue67
  t46:=underlying163
  a46:=isAgg163
  z46:=sizeOf163
  v46:=zeroValue163
  t51:=underlying205
  a51:=isAgg205
  z51:=sizeOf205
  v51:=zeroValue205
  t105:=underlying216
  a105:=isAgg216
  z105:=sizeOf216
  v105:=zeroValue216
  t119:=underlying253
  a119:=isAgg253
  z119:=sizeOf253
  t138:=underlying255
  a138:=isAgg255
  z138:=sizeOf255
  v138:=zeroValue255
  t139:=underlying256
  a139:=isAgg256
  z139:=sizeOf256
  v139:=zeroValue256
  t146:=underlying206
  a146:=isAgg206
  z146:=sizeOf206
  v146:=zeroValue206
  g1:=by kernel_rfl
  g3:=by kernel_rfl
  g4:=by kernel_rfl
  i0:=by kernel_rfl
  i3:=by kernel_rfl
  i4:=by kernel_rfl
  i5:=by kernel_rfl
  i9:=by kernel_rfl
  i21:=by kernel_rfl
  i31:=by kernel_rfl
  i46:=by kernel_rfl
  i51:=by kernel_rfl
  i105:=by kernel_rfl
  i138:=by kernel_rfl
  i139:=by kernel_rfl
  i146:=by kernel_rfl
  m1:=by kernel_rfl
  s1_3:=fun w h=>Go.Proofs.cell_of_shapedOpen_int (zero:=#[.int .i64 0]) (t:=3) h (of_decide_eq_true (by kernel_rfl)) (by kernel_rfl) rfl (by kernel_rfl) (by kernel_rfl) underlying3
  m3:=by kernel_rfl
  m4:=by kernel_rfl }
end Go.Proofs.YtlommebgedmjdaaGreatDoor
namespace Go.Proofs.YtlommebgedmjdaaGreatDoor
open Go.Proofs.Tryz
set_option linter.unusedVariables false
set_option linter.unusedSimpArgs false
open Go.RowKit Go.Sort
set_option maxRecDepth 100000
structure Glo (w:World):Prop where
  tab:Lib.TabIs Tryz.prog w "internal/strconv.uint64pow10" .u64 Lib.pow10Tab
  mx:∃ m,w.cell? ⟨xMe.g 1,0,none⟩=some (.int .i64 m)
theorem xZs {w:World} {a:Addr} {v:Value} (h:w.cell? a=some v):a.block<w.heap.size:=by
  unfold World.cell? at h
  split at h
  · rename_i h1
    exact(Array.getElem?_eq_some_iff.1 h1).1
  all_goals cases h
theorem Glo.go {w w':World} (h:Glo w) (l:Below w.heap.size w w'):Glo w':=by
  obtain⟨m,hm⟩:=h.mx;exact⟨Lib.tabBelow_of_tabIs h.tab w' l,m,(jR (l.block _ (xZs hm)) _).trans hm⟩
theorem xXo:Builder.Extra Tryz.prog xMt where
  sizeBuilder:=by kernel_rfl
  liesBuilder:=by kernel_rfl
  t5:=underlying5
  a5:=isAgg5
  z5:=sizeOf5
  v5:=zeroValue5
  infoByte:=by kernel_rfl
  cellsByte:=by kernel_rfl
  sizeByte:=by kernel_rfl
  neB5:=by decide
def cB (n b:Int):Option ByteArray:=if b=10 then some ⟨(Lib.itoa n).toArray⟩ else none
theorem wG {x0 x1:Int} (r:ByteArray) (hR:cB x0 x1=some r) (w0:World) (hG:Glo w0) (hx0:xH x0) (hx1:xH x1):Calls Tryz.prog 145 #[.int .i64 x0,.int .i64 x1] w0 (xKs (fun v w'=>v= .string r∧r.size≤maxLen) w0):=by
  unfold cB at hR
  split at hR
  · rename_i h
    subst h;obtain rfl:=Option.some.inj hR;refine(Any.strconv_FormatInt_10 layF x0 hx0.1 hx0.2 w0 hG.tab).mono (fun e w' h=>?_);obtain⟨he,k,os,hw⟩:=h;refine⟨_,he,?_,rfl,?_⟩
    · subst hw
      exact Lib.below_grow _ w0 (Nat.le_refl _) k os
    · have:=Lib.itoa_length_le x0 hx0.1 hx0.2
      have h2:(⟨(Lib.itoa x0).toArray⟩:ByteArray).size=(Lib.itoa x0).length:=by simp [ByteArray.size]
      rw[h2]
      unfold maxLen
      omega
  · cases hR
def xGt (xs:List ByteArray) (sep:ByteArray):List UInt8:=Lib.join (xs.map (·.data.toList)) sep.data.toList
def fQ (xs:List ByteArray) (sep:ByteArray):Option ByteArray:=if xs.length≤140737488355328∧(xGt xs sep).length≤140737488355328 then some ⟨(xGt xs sep).toArray⟩ else none
theorem xEw {x0:List ByteArray} {x1:ByteArray} (r:ByteArray) (hR:fQ x0 x1=some r) {v0:Value} {b0:List Nat} (w0:World) (A0:Rd (Sl 1 rV) w0 v0 x0 b0) (hx1:x1.size≤maxLen):Calls Tryz.prog 79 #[v0,.string x1] w0 (xKs (fun v w'=>v= .string r∧r.size≤maxLen) w0):=by
  unfold fQ at hR
  split at hR
  · rename_i h
    obtain rfl:=Option.some.inj hR
    have hsz:(⟨(xGt x0 x1).toArray⟩:ByteArray).size≤maxLen:=by
      have h2:(⟨(xGt x0 x1).toArray⟩:ByteArray).size=(xGt x0 x1).length:=by simp [ByteArray.size]
      rw[h2]
      unfold maxLen
      omega
    obtain⟨a,c,rfl,hl,hc,ha,hs⟩:=A0.r
    rcases hs with ⟨rfl,rfl⟩ | ⟨b,o,bss,rfl,rfl,he⟩
    · refine(Any.strings_Join_none oBu xXo a c x1 w0).mono (fun e w' h=>?_)
      obtain⟨he,rfl⟩:=h;exact⟨_,he,Below.refl _ _,rfl,hsz⟩
    · have hb:b<w0.heap.size:=A0.m b (by simp)
      refine(Any.strings_Join oBu xXo b o c x0 x1 w0 (fun j x hj=>?_) hb h.1 hl h.2).mono (fun e w' h=>?_)
      · have hjl:j<bss.length:=by rw[he.1];exact(List.getElem?_eq_some_iff.1 hj).1
        have:=(he.2 j x _ hj (List.getElem?_eq_getElem hjl)).1
        simpa using this
      · obtain⟨he,hb⟩:=h
        exact⟨_,he,hb,rfl,hsz⟩
  · cases hR
def cX (s sep:ByteArray):Option (List ByteArray):=if s.size<4294967281∧1≤sep.size∧Lib.countB s sep≤1000000000 then some (Lib.splitB sep 0 (Lib.countB s sep) s) else none
theorem xHw (sep:ByteArray):∀ (k:Nat) (s:ByteArray),∀ x∈Lib.splitB sep 0 k s,x.size≤s.size
  | 0,s=>fun x hx=>by
    rw[Lib.splitB_zero,List.mem_singleton] at hx;rw[hx];exact Nat.le_refl _
  | k+1,s=>fun x hx=>by
    unfold Lib.splitB at hx
    split at hx
    · rw[List.mem_singleton] at hx
      rw[hx];exact Nat.le_refl _
    · rcases List.mem_cons.1 hx with rfl | hx
      · rw[ByteArray.size_extract];omega
      · have:=xHw sep k _ x hx
        rw[ByteArray.size_extract] at this
        omega
theorem xDz {x0 x1:ByteArray} (r:List ByteArray) (hR:cX x0 x1=some r) (w0:World) (hG:Glo w0) (hx0:x0.size≤maxLen) (hx1:x1.size≤maxLen):Calls Tryz.prog 32 #[.string x0,.string x1] w0 (xKs (fun v w'=>∃ (v1':Value) (rb2':List Nat),v=v1'∧Row 1 rV 9 w0.heap.size w' v1' r rb2' []) w0):=by
  unfold cX at hR
  split at hR
  · rename_i h
    obtain⟨h1,h2,h3⟩:=h;obtain rfl:=Option.some.inj hR;obtain⟨m,hm⟩:=hG.mx;have hlen:=Lib.splitB_all x1 h2 0 _ x0 rfl;refine(Any.strings_Split { oCb with } (by kernel_rfl) x0 x1 m w0 h1 hm h2).mono (fun e w' h=>?_);obtain⟨he,rfl⟩:=h;refine⟨_,he,(Below.refl _ _).alloc (Nat.le_refl _) _,_,[w0.heap.size],rfl,⟨(Lib.splitB x1 0 (Lib.countB x0 x1) x0).map Value.string,List.replicate (Lib.splitB x1 0 (Lib.countB x0 x1) x0).length [],⟨by simp,.inr ⟨w0.heap.size,Lib.countB x0 x1+1,((Lib.splitB x1 0 (Lib.countB x0 x1) x0).map Value.string).toArray,by rw[hlen],Nat.le_refl _,heap_alloc_new w0 _,by rw[hlen];exact Nat.le_refl _,by unfold maxLen;omega,by simp [hlen],by rw[List.take_of_length_le (by simp)]⟩⟩,by simp,by simp,fun i y bj hy hbj=>?_⟩,rfl,qM.nil _,Dj.nil _⟩
    have hb:bj=[]:=by
      rw[List.getElem?_replicate] at hbj
      split at hbj
      · exact(Option.some.inj hbj).symm
      · cases hbj
    subst hb;refine⟨?_,Nat.le_trans (xHw x1 _ x0 y (List.mem_of_getElem? hy)) hx0,rfl⟩
    simp [hy]
  · cases hR
end Go.Proofs.YtlommebgedmjdaaGreatDoor
namespace Go.Proofs.YtlommebgedmjdaaGreatDoor
open Go.Proofs.Tryz
set_option maxRecDepth 100000
open Go.Shelf
def xSu:Go.Shelf.Ren:=⟨fun | 174=>136 | 247=>183 | 245=>184 | 287=>202 | 279=>203 | 280=>204 | 281=>205 | 282=>206 | 321=>229 | 322=>230 | 316=>231 | 171=>233 | 205=>232 | 243=>243 | 246=>188 | 283=>208 | 284=>209 | 285=>210 | 286=>211 | 129=>225 | 317=>234 | 318=>235 | 319=>236 | 320=>237 | 337=>244 | 338=>245 | n=>n,fun | 9=>9 | 3=>3 | 2=>2 | 75=>175 | 85=>176 | 4=>4 | 167=>229 | 5=>5 | 53=>111 | 175=>230 | 46=>163 | 168=>232 | 37=>22 | 0=>0 | 210=>262 | 21=>21 | 127=>221 | 145=>276 | 143=>274 | 171=>236 | 173=>239 | 212=>265 | 51=>205 | 20=>20 | 213=>266 | 232=>280 | 233=>281 | 80=>193 | n=>n,fun | 15=>3 | 16=>4 | 17=>5 | 18=>6 | 19=>7 | n=>n⟩
theorem xZb:Go.Proofs.LaysC.n174 Tryz.prog xSu:={
  mixed:=by kernel_rfl
  f129:=func225.trans (congrArg some (by kernel_rfl))
  f171:=func233.trans (congrArg some (by kernel_rfl))
  f174:=func136.trans (congrArg some (by kernel_rfl))
  f205:=func232.trans (congrArg some (by kernel_rfl))
  f243:=func243.trans (congrArg some (by kernel_rfl))
  f245:=func184.trans (congrArg some (by kernel_rfl))
  f246:=func188.trans (congrArg some (by kernel_rfl))
  f247:=func183.trans (congrArg some (by kernel_rfl))
  f279:=func203.trans (congrArg some (by kernel_rfl))
  f280:=func204.trans (congrArg some (by kernel_rfl))
  f281:=func205.trans (congrArg some (by kernel_rfl))
  f282:=func206.trans (congrArg some (by kernel_rfl))
  f283:=func208.trans (congrArg some (by kernel_rfl))
  f284:=func209.trans (congrArg some (by kernel_rfl))
  f285:=func210.trans (congrArg some (by kernel_rfl))
  f286:=func211.trans (congrArg some (by kernel_rfl))
  f287:=func202.trans (congrArg some (by kernel_rfl))
  f316:=func231.trans (congrArg some (by kernel_rfl))
  f317:=func234.trans (congrArg some (by kernel_rfl))
  f318:=func235.trans (congrArg some (by kernel_rfl))
  f319:=func236.trans (congrArg some (by kernel_rfl))
  f320:=func237.trans (congrArg some (by kernel_rfl))
  f321:=func229.trans (congrArg some (by kernel_rfl))
  f322:=func230.trans (congrArg some (by kernel_rfl))
  f337:=func244.trans (congrArg some (by kernel_rfl))
  f338:=func245.trans (congrArg some (by kernel_rfl))
  t0:=underlying0
  a0:=isAgg0
  z0:=sizeOf0
  v0:=zeroValue0
  t2:=underlying2
  a2:=isAgg2
  z2:=sizeOf2
  v2:=zeroValue2
  t3:=underlying3
  a3:=isAgg3
  z3:=sizeOf3
  v3:=zeroValue3
  t4:=underlying4
  a4:=isAgg4
  z4:=sizeOf4
  v4:=zeroValue4
  t5:=underlying5
  a5:=isAgg5
  z5:=sizeOf5
  v5:=zeroValue5
  t9:=underlying9
  a9:=isAgg9
  z9:=sizeOf9
  v9:=zeroValue9
  t20:=underlying20
  a20:=isAgg20
  z20:=sizeOf20
  v20:=zeroValue20
  t21:=underlying21
  a21:=isAgg21
  z21:=sizeOf21
  v21:=zeroValue21
  t37:=underlying22
  a37:=isAgg22
  z37:=sizeOf22
  v37:=zeroValue22
  t46:=underlying163
  a46:=isAgg163
  z46:=sizeOf163
  v46:=zeroValue163
  t51:=underlying205
  a51:=isAgg205
  z51:=sizeOf205
  v51:=zeroValue205
  t53:=underlying111
  a53:=isAgg111
  z53:=sizeOf111
  v53:=zeroValue111
  t75:=underlying175
  a75:=isAgg175
  z75:=sizeOf175
  v75:=zeroValue175
  t85:=underlying176
  a85:=isAgg176
  z85:=sizeOf176
  v85:=zeroValue176
  t127:=underlying221
  a127:=isAgg221
  z127:=sizeOf221
  v127:=zeroValue221
  t143:=underlying274
  a143:=isAgg274
  z143:=sizeOf274
  v143:=zeroValue274
  t145:=underlying276
  a145:=isAgg276
  z145:=sizeOf276
  v145:=zeroValue276
  t167:=underlying229
  a167:=isAgg229
  z167:=sizeOf229
  v167:=zeroValue229
  t168:=underlying232
  a168:=isAgg232
  z168:=sizeOf232
  v168:=zeroValue232
  t171:=underlying236
  a171:=isAgg236
  z171:=sizeOf236
  v171:=zeroValue236
  t173:=underlying239
  a173:=isAgg239
  z173:=sizeOf239
  v173:=zeroValue239
  t175:=underlying230
  a175:=isAgg230
  z175:=sizeOf230
  v175:=zeroValue230
  t210:=underlying262
  a210:=isAgg262
  z210:=sizeOf262
  v210:=zeroValue262
  t212:=underlying265
  a212:=isAgg265
  z212:=sizeOf265
  v212:=zeroValue265
  t213:=underlying266
  a213:=isAgg266
  z213:=sizeOf266
  t232:=underlying280
  a232:=isAgg280
  z232:=sizeOf280
  v232:=zeroValue280
  t233:=underlying281
  a233:=isAgg281
  z233:=sizeOf281
  v233:=zeroValue281
  g15:=by kernel_rfl
  g16:=by kernel_rfl
  g17:=by kernel_rfl
  g18:=by kernel_rfl
  g19:=by kernel_rfl
  t80:=underlying193
  a80:=isAgg193
  z80:=sizeOf193
  v80:=zeroValue193
  i0:=by kernel_rfl
  i2:=by kernel_rfl
  i3:=by kernel_rfl
  i4:=by kernel_rfl
  i5:=by kernel_rfl
  i9:=by kernel_rfl
  i20:=by kernel_rfl
  i21:=by kernel_rfl
  i37:=by kernel_rfl
  i46:=by kernel_rfl
  i51:=by kernel_rfl
  i53:=by kernel_rfl
  i75:=by kernel_rfl
  i80:=by kernel_rfl
  i85:=by kernel_rfl
  i127:=by kernel_rfl
  i143:=by kernel_rfl
  i145:=by kernel_rfl
  i167:=by kernel_rfl
  i168:=by kernel_rfl
  i171:=by kernel_rfl
  i173:=by kernel_rfl
  i175:=by kernel_rfl
  i210:=by kernel_rfl
  i212:=by kernel_rfl
  i232:=by kernel_rfl
  i233:=by kernel_rfl
  m15:=by kernel_rfl
  m16:=by kernel_rfl
  m17:=by kernel_rfl
  m18:=by kernel_rfl
  m19:=by kernel_rfl
  c0:=by kernel_rfl
  c2:=by kernel_rfl
  c3:=by kernel_rfl
  c4:=by kernel_rfl
  c5:=by kernel_rfl
  c9:=by kernel_rfl
  c20:=by kernel_rfl
  c21:=by kernel_rfl
  c37:=by kernel_rfl
  c46:=by kernel_rfl
  c51:=by kernel_rfl
  c53:=by kernel_rfl
  c75:=by kernel_rfl
  c80:=by kernel_rfl
  c85:=by kernel_rfl
  c127:=by kernel_rfl
  c143:=by kernel_rfl
  c145:=by kernel_rfl
  c167:=by kernel_rfl
  c168:=by kernel_rfl
  c171:=by kernel_rfl
  c173:=by kernel_rfl
  c175:=by kernel_rfl
  c210:=by kernel_rfl
  c212:=by kernel_rfl
  c213:=by kernel_rfl
  c232:=by kernel_rfl
  c233:=by kernel_rfl }
end Go.Proofs.YtlommebgedmjdaaGreatDoor
namespace Go.Proofs.YtlommebgedmjdaaGreatDoor
open Go.Proofs.Tryz
set_option linter.unusedVariables false
set_option linter.unusedSimpArgs false
open Go.RowKit
set_option maxRecDepth 100000
structure GloE (w:World):Prop extends Glo w where
  sy:∃ tp p,w.var? Tryz.prog "strconv.ErrSyntax" = some #[.iface tp p]
  ra:∃ tp p,w.var? Tryz.prog "strconv.ErrRange" = some #[.iface tp p]
theorem xKd {P:Program} {w w':World} {n:String} {cs:Array Value} (h:w.var? P n=some cs) (l:Below w.heap.size w w'):w'.var? P n=some cs:=by
  unfold World.var? at h ⊢
  cases hg:P.globalNamed n with
  | none=>rw[hg] at h;cases h
  | some g=>
    rw[hg] at h;simp only[Option.bind_some] at h ⊢
    have hl:g<w.heap.size:=by
      rcases Nat.lt_or_ge g w.heap.size with h1 | h1
      · exact h1
      · rw[Array.getElem?_eq_none h1] at h
        simp at h
    rw[l.block g hl];exact h
theorem GloE.go {w w':World} (h:GloE w) (l:Below w.heap.size w w'):GloE w':=by
  obtain⟨tp,p,h1⟩:=h.sy;obtain⟨tq,q,h2⟩:=h.ra;exact⟨h.toGlo.go l,⟨tp,p,xKd h1 l⟩,⟨tq,q,xKd h2 l⟩⟩
def xNk (v:Value) (b:Bool):Prop:=if b then v= .nilIface else ∃ t p,v= .iface t p
section
variable {P:Program} {ops:Array Oper} {Q:Exit→Act→World→Prop} {a:Act} {w:World} {n:Nat} {L:List (Nat×Value)} {rest:List Oper} {d:Nat} {dd:Option Tmp} {ty:TypeId} {pos:String} {af:Array Edge} {g:Option (Nat×Bool)}
theorem xVr {x:Operand} {t t':TypeId} {v:Value} {b:Bool} (hi:P.underlying t=some (.interface (P.methodsAt t))) (F:Sk a n L) (e:ev L x=some v) (h:xNk v b) {w':World} :
    (execOp a.eval ⟨dd,.binOp .neq t x (.const .nilIface) t',ty,pos,af,g⟩).run P w'= .ok (.value (.bool (!b))) w':=by
  have e':a.eval (.const .nilIface)= .nilIface:=rfl
  unfold xNk at h
  cases b with
  | true=>
    simp only[if_true] at h;subst h
    unfold execOp
    simp only[F.ev e,e']
    simp [eqGuard,binOp,run_equal_nil_nil _ _ hi]
  | false=>
    simp only[Bool.false_eq_true,if_false] at h;obtain⟨tt,p,rfl⟩:=h
    unfold execOp
    simp only[F.ev e,e']
    simp [eqGuard,binOp,run_equal_held_nil _ _ _ _ hi]
theorem xWm {x:Operand} {t t':TypeId} {v:Value} {b:Bool} (hi:P.underlying t=some (.interface (P.methodsAt t))) (F:Sk a n L) (hc:qH ops n L g d=true) (e:ev L x=some v) (h:xNk v b)
    (k:∀ a',Sk a' n ((d,.bool (!b))::L)→wpList P ops Q rest a' w):wpList P ops Q (⟨some d,.binOp .neq t x (.const .nilIface) t',ty,pos,af,g⟩::rest) a w:=qX F hc (xVr hi F e h) k
end
def bH (s:ByteArray) (b z:Int):Option (Int×Bool):=
  if b=10∧z=64∧s.size≤281474976710656∧xH (Lib.intSat 64 s.data.toList) then some (match Lib.parseIntB 64 s.data.toList with | .ok v=>(v,true) | .range=>(Lib.intSat 64 s.data.toList,false) | _=>(0,false)) else none
theorem yL {x0:ByteArray} {x1 x2:Int} (r:Int×Bool) (hR:bH x0 x1 x2=some r) (w0:World) (hG:GloE w0) (hx0:x0.size≤maxLen) (hx1:xH x1) (hx2:xH x2):Calls Tryz.prog 136 #[.string x0,.int .i64 x1,.int .i64 x2] w0 (xKs (fun v w'=>∃ v1':Value,v= .tuple #[.int .i64 r.1,v1']∧xH r.1∧xNk v1' r.2) w0):=by
  unfold bH at hR
  split at hR
  · rename_i h
    obtain⟨rfl,rfl,hs,hi⟩:=h;obtain rfl:=Option.some.inj hR
    cases hp:Lib.parseIntB 64 x0.data.toList
    case ok v=>
      have hb:=Lib.parseIntB_bounds hp;refine(Any.strconv_ParseInt_10_at64_ok xZb x0 (by omega) v hp w0).mono (fun e w' h=>?_);obtain⟨he,hw⟩:=h;refine⟨_,he,?_,_,rfl,⟨?_,?_⟩,rfl⟩
      · rcases hw with rfl | ⟨t,rfl⟩
        · exact Below.refl _ _
        · exact Lib.bytesWorld_below _ _ _
      · have:=hb.1
        simp at this ⊢
        omega
      · have:=hb.2
        simp at this ⊢
        omega
    case range=>
      obtain⟨tp,p,hv⟩:=hG.ra;refine(Any.strconv_ParseInt_10_at64_range_var xZb x0 hs hp tp p w0 hv).mono (fun e w' h=>?_);obtain⟨N,he,_,_,hb⟩:=h;exact⟨_,he,hb,_,rfl,hi,_,_,rfl⟩
    · obtain⟨tp,p,hv⟩:=hG.sy
      refine(Any.strconv_ParseInt_10_at64_syntax_var xZb x0 hs hp tp p w0 hv).mono (fun e w' h=>?_);obtain⟨N,he,_,_,hb⟩:=h;exact⟨_,he,hb,_,rfl,(show xH 0 by decide),_,_,rfl⟩
  · cases hR
end Go.Proofs.YtlommebgedmjdaaGreatDoor
