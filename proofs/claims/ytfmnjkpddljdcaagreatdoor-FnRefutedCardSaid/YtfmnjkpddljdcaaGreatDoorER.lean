import Derived.Test.YtfmnjkpddljdcaaGreatDoorProg
import Derived.Shelf.LaysM
import Derived.Shelf.Strings.Builder1
import Derived.Shelf.Strconv.Itoa4
import Derived.Shelf.Strings.OnBuilder
import Derived.Shelf.Strings.Split
import Derived.Shelf.Strings.SplitShaped
import Derived.Shelf.Strings.BuilderK
import Derived.Test.YtfmnjkpddljdcaaGreatDoorTS
import Derived.Lib.AppendIntMem
import Derived.Lib.ItoaLen
import Derived.Shelf.LaysC
import Derived.Shelf.Strconv.ErrVarParseInt
import Derived.Stop.LaidErr
namespace Go.Proofs.YtfmnjkpddljdcaaGreatDoor
open Go.Proofs.Tryz
set_option maxRecDepth 100000
open Go.Shelf
def xQq:Go.Shelf.Ren:=⟨fun | 173=>123 | 246=>169 | 283=>195 | 284=>196 | 285=>197 | 286=>198 | 129=>156 | 317=>205 | 318=>206 | 319=>207 | 320=>208 | 337=>209 | 338=>210 | n=>n,fun | 2=>2 | 3=>3 | 9=>9 | 4=>4 | 171=>252 | 0=>0 | 53=>116 | 37=>22 | 5=>5 | 173=>254 | 212=>272 | 51=>219 | 20=>20 | 213=>273 | 46=>162 | 232=>275 | 233=>276 | n=>n,fun | 17=>5 | 18=>6 | 19=>7 | n=>n⟩
theorem layF:Go.Proofs.LaysM.n173 Tryz.prog xQq:={
  mixed:=by kernel_rfl
  f129:=func156.trans (congrArg some (by kernel_rfl))
  f173:=func123.trans (congrArg some (by kernel_rfl))
  f246:=func169.trans (congrArg some (by kernel_rfl))
  f283:=func195.trans (congrArg some (by kernel_rfl))
  f284:=func196.trans (congrArg some (by kernel_rfl))
  f285:=func197.trans (congrArg some (by kernel_rfl))
  f286:=func198.trans (congrArg some (by kernel_rfl))
  f317:=func205.trans (congrArg some (by kernel_rfl))
  f318:=func206.trans (congrArg some (by kernel_rfl))
  f319:=func207.trans (congrArg some (by kernel_rfl))
  f320:=func208.trans (congrArg some (by kernel_rfl))
  f337:=func209.trans (congrArg some (by kernel_rfl))
  f338:=func210.trans (congrArg some (by kernel_rfl))
  t0:=underlying0
  a0:=isAgg0
  z0:=sizeOf0
  v0:=zeroValue0
  t2:=underlying2
  a2:=isAgg2
  z2:=sizeOf2
  v2:=zeroValue2
  t3:=underlying3
  a3:=isAgg3
  z3:=sizeOf3
  v3:=zeroValue3
  t4:=underlying4
  a4:=isAgg4
  z4:=sizeOf4
  v4:=zeroValue4
  t5:=underlying5
  a5:=isAgg5
  z5:=sizeOf5
  v5:=zeroValue5
  t9:=underlying9
  a9:=isAgg9
  z9:=sizeOf9
  v9:=zeroValue9
  t20:=underlying20
  a20:=isAgg20
  z20:=sizeOf20
  v20:=zeroValue20
  t37:=underlying22
  a37:=isAgg22
  z37:=sizeOf22
  v37:=zeroValue22
  t46:=underlying162
  a46:=isAgg162
  z46:=sizeOf162
  v46:=zeroValue162
  t51:=underlying219
  a51:=isAgg219
  z51:=sizeOf219
  v51:=zeroValue219
  t53:=underlying116
  a53:=isAgg116
  z53:=sizeOf116
  v53:=zeroValue116
  t171:=underlying252
  a171:=isAgg252
  z171:=sizeOf252
  v171:=zeroValue252
  t173:=underlying254
  a173:=isAgg254
  z173:=sizeOf254
  v173:=zeroValue254
  t212:=underlying272
  a212:=isAgg272
  z212:=sizeOf272
  v212:=zeroValue272
  t213:=underlying273
  a213:=isAgg273
  z213:=sizeOf273
  t232:=underlying275
  a232:=isAgg275
  z232:=sizeOf275
  v232:=zeroValue275
  t233:=underlying276
  a233:=isAgg276
  z233:=sizeOf276
  v233:=zeroValue276
  g17:=by kernel_rfl
  g18:=by kernel_rfl
  g19:=by kernel_rfl
  i0:=by kernel_rfl
  i2:=by kernel_rfl
  i3:=by kernel_rfl
  i4:=by kernel_rfl
  i5:=by kernel_rfl
  i9:=by kernel_rfl
  i20:=by kernel_rfl
  i37:=by kernel_rfl
  i46:=by kernel_rfl
  i51:=by kernel_rfl
  i53:=by kernel_rfl
  i171:=by kernel_rfl
  i173:=by kernel_rfl
  i212:=by kernel_rfl
  i232:=by kernel_rfl
  i233:=by kernel_rfl
  m17:=by kernel_rfl
  m18:=by kernel_rfl
  m19:=by kernel_rfl }
def yK:Go.Shelf.Ren:=⟨fun | 156=>85 | 165=>124 | 166=>125 | 169=>126 | 240=>170 | 241=>171 | 276=>199 | 277=>200 | n=>n,fun | 31=>103 | 9=>9 | 3=>3 | 4=>4 | 0=>0 | 20=>20 | 72=>188 | 76=>190 | 70=>186 | 37=>22 | 75=>145 | 127=>233 | 164=>256 | 5=>5 | 80=>192 | n=>n,fun | n=>n⟩
theorem xRy:Go.Proofs.Lays.n156 Tryz.prog yK:={
  mixed:=by kernel_rfl
  f156:=func85.trans (congrArg some (by kernel_rfl))
  f165:=func124.trans (congrArg some (by kernel_rfl))
  f166:=func125.trans (congrArg some (by kernel_rfl))
  f169:=func126.trans (congrArg some (by kernel_rfl))
  f240:=func170.trans (congrArg some (by kernel_rfl))
  f241:=func171.trans (congrArg some (by kernel_rfl))
  f276:=func199.trans (congrArg some (by kernel_rfl))
  f277:=func200.trans (congrArg some (by kernel_rfl))
  t0:=underlying0
  a0:=isAgg0
  z0:=sizeOf0
  v0:=zeroValue0
  t3:=underlying3
  a3:=isAgg3
  z3:=sizeOf3
  v3:=zeroValue3
  t4:=underlying4
  a4:=isAgg4
  z4:=sizeOf4
  v4:=zeroValue4
  t9:=underlying9
  a9:=isAgg9
  z9:=sizeOf9
  v9:=zeroValue9
  t20:=underlying20
  a20:=isAgg20
  z20:=sizeOf20
  v20:=zeroValue20
  t31:=underlying103
  a31:=isAgg103
  z31:=sizeOf103
  v31:=zeroValue103
  t37:=underlying22
  a37:=isAgg22
  z37:=sizeOf22
  v37:=zeroValue22
  t70:=underlying186
  a70:=isAgg186
  z70:=sizeOf186
  v70:=zeroValue186
  t72:=underlying188
  a72:=isAgg188
  z72:=sizeOf188
  v72:=zeroValue188
  t75:=underlying145
  a75:=isAgg145
  z75:=sizeOf145
  v75:=zeroValue145
  t76:=underlying190
  a76:=isAgg190
  z76:=sizeOf190
  v76:=zeroValue190
  t127:=underlying233
  a127:=isAgg233
  z127:=sizeOf233
  v127:=zeroValue233
  t164:=underlying256
  a164:=isAgg256
  z164:=sizeOf256
  v164:=zeroValue256 }
def xIg:Go.Shelf.Ren:=⟨fun | 146=>46 | 221=>82 | 268=>118 | 138=>119 | 143=>120 | 195=>160 | 197=>161 | 218=>162 | 219=>163 | 260=>185 | 217=>186 | 225=>187 | 224=>188 | 267=>189 | 266=>202 | 314=>203 | n=>n,fun | 9=>9 | 31=>103 | 3=>3 | 4=>4 | 0=>0 | 105=>224 | 21=>21 | 5=>5 | 46=>162 | 119=>262 | 139=>265 | 138=>264 | 146=>266 | 51=>219 | n=>n,fun | 1=>0 | 3=>3 | 4=>4 | n=>n⟩
theorem xWi:Go.Proofs.LaysM.n146 Tryz.prog xIg:={
  mixed:=by kernel_rfl
  f138:=func119.trans (congrArg some (by kernel_rfl))
  f143:=func120.trans (congrArg some (by kernel_rfl))
  f146:=func46.trans (congrArg some (by kernel_rfl))
  f195:=func160.trans (congrArg some (by kernel_rfl))
  f197:=func161.trans (congrArg some (by kernel_rfl))
  f217:=func186.trans (congrArg some (by kernel_rfl))
  f218:=func162.trans (congrArg some (by kernel_rfl))
  f219:=func163.trans (congrArg some (by kernel_rfl))
  f221:=func82.trans (congrArg some (by kernel_rfl))
  f224:=func188.trans (congrArg some (by kernel_rfl))
  f225:=func187.trans (congrArg some (by kernel_rfl))
  f260:=func185.trans (congrArg some (by kernel_rfl))
  f266:=func202.trans (congrArg some (by kernel_rfl))
  f267:=func189.trans (congrArg some (by kernel_rfl))
  f268:=func118.trans (congrArg some (by kernel_rfl))
  f314:=func203.trans (congrArg some (by kernel_rfl))
  t0:=underlying0
  a0:=isAgg0
  z0:=sizeOf0
  v0:=zeroValue0
  t3:=underlying3
  a3:=isAgg3
  z3:=sizeOf3
  v3:=zeroValue3
  t4:=underlying4
  a4:=isAgg4
  z4:=sizeOf4
  v4:=zeroValue4
  t5:=underlying5
  a5:=isAgg5
  z5:=sizeOf5
  v5:=zeroValue5
  t9:=underlying9
  a9:=isAgg9
  z9:=sizeOf9
  v9:=zeroValue9
  t21:=underlying21
  a21:=isAgg21
  z21:=sizeOf21
  v21:=zeroValue21
  t31:=underlying103
  a31:=isAgg103
  z31:=sizeOf103
  v31:=zeroValue103
  t46:=underlying162
  a46:=isAgg162
  z46:=sizeOf162
  v46:=zeroValue162
  t51:=underlying219
  a51:=isAgg219
  z51:=sizeOf219
  v51:=zeroValue219
  t105:=underlying224
  a105:=isAgg224
  z105:=sizeOf224
  v105:=zeroValue224
  t119:=underlying262
  a119:=isAgg262
  z119:=sizeOf262
  t138:=underlying264
  a138:=isAgg264
  z138:=sizeOf264
  v138:=zeroValue264
  t139:=underlying265
  a139:=isAgg265
  z139:=sizeOf265
  v139:=zeroValue265
  t146:=underlying266
  a146:=isAgg266
  z146:=sizeOf266
  v146:=zeroValue266
  g1:=by kernel_rfl
  g3:=by kernel_rfl
  g4:=by kernel_rfl
  i0:=by kernel_rfl
  i3:=by kernel_rfl
  i4:=by kernel_rfl
  i5:=by kernel_rfl
  i9:=by kernel_rfl
  i21:=by kernel_rfl
  i31:=by kernel_rfl
  i46:=by kernel_rfl
  i51:=by kernel_rfl
  i105:=by kernel_rfl
  i138:=by kernel_rfl
  i139:=by kernel_rfl
  i146:=by kernel_rfl
  m1:=by kernel_rfl
  s1_3:=fun w h=>Go.Proofs.cell_of_shapedOpen_int (zero:=#[.int .i64 0]) (t:=3) h (of_decide_eq_true (by kernel_rfl)) (by kernel_rfl) rfl (by kernel_rfl) (by kernel_rfl) underlying3
  m3:=by kernel_rfl
  m4:=by kernel_rfl }
end Go.Proofs.YtfmnjkpddljdcaaGreatDoor
namespace Go.Proofs.YtfmnjkpddljdcaaGreatDoor
open Go.Proofs.Tryz
set_option linter.unusedVariables false
set_option linter.unusedSimpArgs false
open Go.RowKit Go.Sort
set_option maxRecDepth 100000
structure Glo (w:World):Prop where
  tab:Lib.TabIs Tryz.prog w "internal/strconv.uint64pow10" .u64 Lib.pow10Tab
  mx:∃ m,w.cell? ⟨xIg.g 1,0,none⟩=some (.int .i64 m)
theorem xTu {w:World} {a:Addr} {v:Value} (h:w.cell? a=some v):a.block<w.heap.size:=by
  unfold World.cell? at h
  split at h
  · rename_i h1
    exact(Array.getElem?_eq_some_iff.1 h1).1
  all_goals cases h
theorem Glo.go {w w':World} (h:Glo w) (l:Below w.heap.size w w'):Glo w':=by
  obtain⟨m,hm⟩:=h.mx;exact⟨Lib.tabBelow_of_tabIs h.tab w' l,m,(iM (l.block _ (xTu hm)) _).trans hm⟩
theorem xMr:Builder.Extra Tryz.prog yK where
  sizeBuilder:=by kernel_rfl
  liesBuilder:=by kernel_rfl
  t5:=underlying5
  a5:=isAgg5
  z5:=sizeOf5
  v5:=zeroValue5
  infoByte:=by kernel_rfl
  cellsByte:=by kernel_rfl
  sizeByte:=by kernel_rfl
  neB5:=by decide
def fN (n b:Int):Option ByteArray:=if b=10 then some ⟨(Lib.itoa n).toArray⟩ else none
theorem uW {x0 x1:Int} (r:ByteArray) (hR:fN x0 x1=some r) (w0:World) (hG:Glo w0) (hx0:xS x0) (hx1:xS x1):Calls Tryz.prog 123 #[.int .i64 x0,.int .i64 x1] w0 (xIo (fun v w'=>v= .string r∧r.size≤maxLen) w0):=by
  unfold fN at hR
  split at hR
  · rename_i h
    subst h;obtain rfl:=Option.some.inj hR;refine(Any.strconv_FormatInt_10 layF x0 hx0.1 hx0.2 w0 hG.tab).mono (fun e w' h=>?_);obtain⟨he,k,os,hw⟩:=h;refine⟨_,he,?_,rfl,?_⟩
    · subst hw
      exact Lib.below_grow _ w0 (Nat.le_refl _) k os
    · have:=Lib.itoa_length_le x0 hx0.1 hx0.2
      have h2:(⟨(Lib.itoa x0).toArray⟩:ByteArray).size=(Lib.itoa x0).length:=by simp [ByteArray.size]
      rw[h2]
      unfold maxLen
      omega
  · cases hR
def xDu (xs:List ByteArray) (sep:ByteArray):List UInt8:=Lib.join (xs.map (·.data.toList)) sep.data.toList
def mH (xs:List ByteArray) (sep:ByteArray):Option ByteArray:=if xs.length≤140737488355328∧(xDu xs sep).length≤140737488355328 then some ⟨(xDu xs sep).toArray⟩ else none
theorem xDw {x0:List ByteArray} {x1:ByteArray} (r:ByteArray) (hR:mH x0 x1=some r) {v0:Value} {b0:List Nat} (w0:World) (A0:Rd (Sl 1 pZ) w0 v0 x0 b0) (hx1:x1.size≤maxLen):Calls Tryz.prog 85 #[v0,.string x1] w0 (xIo (fun v w'=>v= .string r∧r.size≤maxLen) w0):=by
  unfold mH at hR
  split at hR
  · rename_i h
    obtain rfl:=Option.some.inj hR
    have hsz:(⟨(xDu x0 x1).toArray⟩:ByteArray).size≤maxLen:=by
      have h2:(⟨(xDu x0 x1).toArray⟩:ByteArray).size=(xDu x0 x1).length:=by simp [ByteArray.size]
      rw[h2]
      unfold maxLen
      omega
    obtain⟨a,c,rfl,hl,hc,ha,hs⟩:=A0.r
    rcases hs with ⟨rfl,rfl⟩ | ⟨b,o,bss,rfl,rfl,he⟩
    · refine(Any.strings_Join_none xRy xMr a c x1 w0).mono (fun e w' h=>?_)
      obtain⟨he,rfl⟩:=h;exact⟨_,he,Below.refl _ _,rfl,hsz⟩
    · have hb:b<w0.heap.size:=A0.m b (by simp)
      refine(Any.strings_Join xRy xMr b o c x0 x1 w0 (fun j x hj=>?_) hb h.1 hl h.2).mono (fun e w' h=>?_)
      · have hjl:j<bss.length:=by rw[he.1];exact(List.getElem?_eq_some_iff.1 hj).1
        have:=(he.2 j x _ hj (List.getElem?_eq_getElem hjl)).1
        simpa using this
      · obtain⟨he,hb⟩:=h
        exact⟨_,he,hb,rfl,hsz⟩
  · cases hR
def iK (s sep:ByteArray):Option (List ByteArray):=if s.size<4294967281∧1≤sep.size∧Lib.countB s sep≤1000000000 then some (Lib.splitB sep 0 (Lib.countB s sep) s) else none
theorem xFz (sep:ByteArray):∀ (k:Nat) (s:ByteArray),∀ x∈Lib.splitB sep 0 k s,x.size≤s.size
  | 0,s=>fun x hx=>by
    rw[Lib.splitB_zero,List.mem_singleton] at hx;rw[hx];exact Nat.le_refl _
  | k+1,s=>fun x hx=>by
    unfold Lib.splitB at hx
    split at hx
    · rw[List.mem_singleton] at hx
      rw[hx];exact Nat.le_refl _
    · rcases List.mem_cons.1 hx with rfl | hx
      · rw[ByteArray.size_extract];omega
      · have:=xFz sep k _ x hx
        rw[ByteArray.size_extract] at this
        omega
theorem xBs {x0 x1:ByteArray} (r:List ByteArray) (hR:iK x0 x1=some r) (w0:World) (hG:Glo w0) (hx0:x0.size≤maxLen) (hx1:x1.size≤maxLen):Calls Tryz.prog 46 #[.string x0,.string x1] w0 (xIo (fun v w'=>∃ (v1':Value) (rb2':List Nat),v=v1'∧Row 1 pZ 9 w0.heap.size w' v1' r rb2' []) w0):=by
  unfold iK at hR
  split at hR
  · rename_i h
    obtain⟨h1,h2,h3⟩:=h;obtain rfl:=Option.some.inj hR;obtain⟨m,hm⟩:=hG.mx;have hlen:=Lib.splitB_all x1 h2 0 _ x0 rfl;refine(Any.strings_Split { xWi with } (by kernel_rfl) x0 x1 m w0 h1 hm h2).mono (fun e w' h=>?_);obtain⟨he,rfl⟩:=h;refine⟨_,he,(Below.refl _ _).alloc (Nat.le_refl _) _,_,[w0.heap.size],rfl,⟨(Lib.splitB x1 0 (Lib.countB x0 x1) x0).map Value.string,List.replicate (Lib.splitB x1 0 (Lib.countB x0 x1) x0).length [],⟨by simp,.inr ⟨w0.heap.size,Lib.countB x0 x1+1,((Lib.splitB x1 0 (Lib.countB x0 x1) x0).map Value.string).toArray,by rw[hlen],Nat.le_refl _,heap_alloc_new w0 _,by rw[hlen];exact Nat.le_refl _,by unfold maxLen;omega,by simp [hlen],by rw[List.take_of_length_le (by simp)]⟩⟩,by simp,by simp,fun i y bj hy hbj=>?_⟩,rfl,kD.nil _,Dj.nil _⟩
    have hb:bj=[]:=by
      rw[List.getElem?_replicate] at hbj
      split at hbj
      · exact(Option.some.inj hbj).symm
      · cases hbj
    subst hb;refine⟨?_,Nat.le_trans (xFz x1 _ x0 y (List.mem_of_getElem? hy)) hx0,rfl⟩
    simp [hy]
  · cases hR
end Go.Proofs.YtfmnjkpddljdcaaGreatDoor
namespace Go.Proofs.YtfmnjkpddljdcaaGreatDoor
open Go.Proofs.Tryz
set_option maxRecDepth 100000
open Go.Shelf
def xPr:Go.Shelf.Ren:=⟨fun | 174=>83 | 247=>121 | 245=>122 | 287=>164 | 279=>165 | 280=>166 | 281=>167 | 282=>168 | 321=>190 | 322=>191 | 316=>192 | 171=>194 | 205=>193 | 243=>204 | 246=>169 | 283=>195 | 284=>196 | 285=>197 | 286=>198 | 129=>156 | 317=>205 | 318=>206 | 319=>207 | 320=>208 | 337=>209 | 338=>210 | n=>n,fun | 9=>9 | 3=>3 | 2=>2 | 75=>145 | 85=>146 | 4=>4 | 167=>227 | 5=>5 | 53=>116 | 175=>228 | 46=>162 | 168=>230 | 37=>22 | 0=>0 | 210=>249 | 21=>21 | 127=>233 | 145=>270 | 143=>268 | 171=>252 | 173=>254 | 212=>272 | 51=>219 | 20=>20 | 213=>273 | 232=>275 | 233=>276 | 80=>192 | n=>n,fun | 15=>1 | 16=>2 | 17=>5 | 18=>6 | 19=>7 | n=>n⟩
theorem xUh:Go.Proofs.LaysC.n174 Tryz.prog xPr:={
  mixed:=by kernel_rfl
  f129:=func156.trans (congrArg some (by kernel_rfl))
  f171:=func194.trans (congrArg some (by kernel_rfl))
  f174:=func83.trans (congrArg some (by kernel_rfl))
  f205:=func193.trans (congrArg some (by kernel_rfl))
  f243:=func204.trans (congrArg some (by kernel_rfl))
  f245:=func122.trans (congrArg some (by kernel_rfl))
  f246:=func169.trans (congrArg some (by kernel_rfl))
  f247:=func121.trans (congrArg some (by kernel_rfl))
  f279:=func165.trans (congrArg some (by kernel_rfl))
  f280:=func166.trans (congrArg some (by kernel_rfl))
  f281:=func167.trans (congrArg some (by kernel_rfl))
  f282:=func168.trans (congrArg some (by kernel_rfl))
  f283:=func195.trans (congrArg some (by kernel_rfl))
  f284:=func196.trans (congrArg some (by kernel_rfl))
  f285:=func197.trans (congrArg some (by kernel_rfl))
  f286:=func198.trans (congrArg some (by kernel_rfl))
  f287:=func164.trans (congrArg some (by kernel_rfl))
  f316:=func192.trans (congrArg some (by kernel_rfl))
  f317:=func205.trans (congrArg some (by kernel_rfl))
  f318:=func206.trans (congrArg some (by kernel_rfl))
  f319:=func207.trans (congrArg some (by kernel_rfl))
  f320:=func208.trans (congrArg some (by kernel_rfl))
  f321:=func190.trans (congrArg some (by kernel_rfl))
  f322:=func191.trans (congrArg some (by kernel_rfl))
  f337:=func209.trans (congrArg some (by kernel_rfl))
  f338:=func210.trans (congrArg some (by kernel_rfl))
  t0:=underlying0
  a0:=isAgg0
  z0:=sizeOf0
  v0:=zeroValue0
  t2:=underlying2
  a2:=isAgg2
  z2:=sizeOf2
  v2:=zeroValue2
  t3:=underlying3
  a3:=isAgg3
  z3:=sizeOf3
  v3:=zeroValue3
  t4:=underlying4
  a4:=isAgg4
  z4:=sizeOf4
  v4:=zeroValue4
  t5:=underlying5
  a5:=isAgg5
  z5:=sizeOf5
  v5:=zeroValue5
  t9:=underlying9
  a9:=isAgg9
  z9:=sizeOf9
  v9:=zeroValue9
  t20:=underlying20
  a20:=isAgg20
  z20:=sizeOf20
  v20:=zeroValue20
  t21:=underlying21
  a21:=isAgg21
  z21:=sizeOf21
  v21:=zeroValue21
  t37:=underlying22
  a37:=isAgg22
  z37:=sizeOf22
  v37:=zeroValue22
  t46:=underlying162
  a46:=isAgg162
  z46:=sizeOf162
  v46:=zeroValue162
  t51:=underlying219
  a51:=isAgg219
  z51:=sizeOf219
  v51:=zeroValue219
  t53:=underlying116
  a53:=isAgg116
  z53:=sizeOf116
  v53:=zeroValue116
  t75:=underlying145
  a75:=isAgg145
  z75:=sizeOf145
  v75:=zeroValue145
  t85:=underlying146
  a85:=isAgg146
  z85:=sizeOf146
  v85:=zeroValue146
  t127:=underlying233
  a127:=isAgg233
  z127:=sizeOf233
  v127:=zeroValue233
  t143:=underlying268
  a143:=isAgg268
  z143:=sizeOf268
  v143:=zeroValue268
  t145:=underlying270
  a145:=isAgg270
  z145:=sizeOf270
  v145:=zeroValue270
  t167:=underlying227
  a167:=isAgg227
  z167:=sizeOf227
  v167:=zeroValue227
  t168:=underlying230
  a168:=isAgg230
  z168:=sizeOf230
  v168:=zeroValue230
  t171:=underlying252
  a171:=isAgg252
  z171:=sizeOf252
  v171:=zeroValue252
  t173:=underlying254
  a173:=isAgg254
  z173:=sizeOf254
  v173:=zeroValue254
  t175:=underlying228
  a175:=isAgg228
  z175:=sizeOf228
  v175:=zeroValue228
  t210:=underlying249
  a210:=isAgg249
  z210:=sizeOf249
  v210:=zeroValue249
  t212:=underlying272
  a212:=isAgg272
  z212:=sizeOf272
  v212:=zeroValue272
  t213:=underlying273
  a213:=isAgg273
  z213:=sizeOf273
  t232:=underlying275
  a232:=isAgg275
  z232:=sizeOf275
  v232:=zeroValue275
  t233:=underlying276
  a233:=isAgg276
  z233:=sizeOf276
  v233:=zeroValue276
  g15:=by kernel_rfl
  g16:=by kernel_rfl
  g17:=by kernel_rfl
  g18:=by kernel_rfl
  g19:=by kernel_rfl
  t80:=underlying192
  a80:=isAgg192
  z80:=sizeOf192
  v80:=zeroValue192
  i0:=by kernel_rfl
  i2:=by kernel_rfl
  i3:=by kernel_rfl
  i4:=by kernel_rfl
  i5:=by kernel_rfl
  i9:=by kernel_rfl
  i20:=by kernel_rfl
  i21:=by kernel_rfl
  i37:=by kernel_rfl
  i46:=by kernel_rfl
  i51:=by kernel_rfl
  i53:=by kernel_rfl
  i75:=by kernel_rfl
  i80:=by kernel_rfl
  i85:=by kernel_rfl
  i127:=by kernel_rfl
  i143:=by kernel_rfl
  i145:=by kernel_rfl
  i167:=by kernel_rfl
  i168:=by kernel_rfl
  i171:=by kernel_rfl
  i173:=by kernel_rfl
  i175:=by kernel_rfl
  i210:=by kernel_rfl
  i212:=by kernel_rfl
  i232:=by kernel_rfl
  i233:=by kernel_rfl
  m15:=by kernel_rfl
  m16:=by kernel_rfl
  m17:=by kernel_rfl
  m18:=by kernel_rfl
  m19:=by kernel_rfl
  c0:=by kernel_rfl
  c2:=by kernel_rfl
  c3:=by kernel_rfl
  c4:=by kernel_rfl
  c5:=by kernel_rfl
  c9:=by kernel_rfl
  c20:=by kernel_rfl
  c21:=by kernel_rfl
  c37:=by kernel_rfl
  c46:=by kernel_rfl
  c51:=by kernel_rfl
  c53:=by kernel_rfl
  c75:=by kernel_rfl
  c80:=by kernel_rfl
  c85:=by kernel_rfl
  c127:=by kernel_rfl
  c143:=by kernel_rfl
  c145:=by kernel_rfl
  c167:=by kernel_rfl
  c168:=by kernel_rfl
  c171:=by kernel_rfl
  c173:=by kernel_rfl
  c175:=by kernel_rfl
  c210:=by kernel_rfl
  c212:=by kernel_rfl
  c213:=by kernel_rfl
  c232:=by kernel_rfl
  c233:=by kernel_rfl }
end Go.Proofs.YtfmnjkpddljdcaaGreatDoor
namespace Go.Proofs.YtfmnjkpddljdcaaGreatDoor
open Go.Proofs.Tryz
set_option linter.unusedVariables false
set_option linter.unusedSimpArgs false
open Go.RowKit
set_option maxRecDepth 100000
structure GloE (w:World):Prop extends Glo w where
  sy:∃ tp p,w.var? Tryz.prog "strconv.ErrSyntax" = some #[.iface tp p]
  ra:∃ tp p,w.var? Tryz.prog "strconv.ErrRange" = some #[.iface tp p]
theorem xHt {P:Program} {w w':World} {n:String} {cs:Array Value} (h:w.var? P n=some cs) (l:Below w.heap.size w w'):w'.var? P n=some cs:=by
  unfold World.var? at h ⊢
  cases hg:P.globalNamed n with
  | none=>rw[hg] at h;cases h
  | some g=>
    rw[hg] at h;simp only[Option.bind_some] at h ⊢
    have hl:g<w.heap.size:=by
      rcases Nat.lt_or_ge g w.heap.size with h1 | h1
      · exact h1
      · rw[Array.getElem?_eq_none h1] at h
        simp at h
    rw[l.block g hl];exact h
theorem GloE.go {w w':World} (h:GloE w) (l:Below w.heap.size w w'):GloE w':=by
  obtain⟨tp,p,h1⟩:=h.sy;obtain⟨tq,q,h2⟩:=h.ra;exact⟨h.toGlo.go l,⟨tp,p,xHt h1 l⟩,⟨tq,q,xHt h2 l⟩⟩
def xOn (v:Value) (b:Bool):Prop:=if b then v= .nilIface else ∃ t p,v= .iface t p
section
variable {P:Program} {ops:Array Oper} {Q:Exit→Act→World→Prop} {a:Act} {w:World} {n:Nat} {L:List (Nat×Value)} {rest:List Oper} {d:Nat} {dd:Option Tmp} {ty:TypeId} {pos:String} {af:Array Edge} {g:Option (Nat×Bool)}
theorem xSc {x:Operand} {t t':TypeId} {v:Value} {b:Bool} (hi:P.underlying t=some (.interface (P.methodsAt t))) (F:Sk a n L) (e:ev L x=some v) (h:xOn v b) {w':World} :
    (execOp a.eval ⟨dd,.binOp .neq t x (.const .nilIface) t',ty,pos,af,g⟩).run P w'= .ok (.value (.bool (!b))) w':=by
  have e':a.eval (.const .nilIface)= .nilIface:=rfl
  unfold xOn at h
  cases b with
  | true=>
    simp only[if_true] at h;subst h
    unfold execOp
    simp only[F.ev e,e']
    simp [eqGuard,binOp,run_equal_nil_nil _ _ hi]
  | false=>
    simp only[Bool.false_eq_true,if_false] at h;obtain⟨tt,p,rfl⟩:=h
    unfold execOp
    simp only[F.ev e,e']
    simp [eqGuard,binOp,run_equal_held_nil _ _ _ _ hi]
theorem xRn {x:Operand} {t t':TypeId} {v:Value} {b:Bool} (hi:P.underlying t=some (.interface (P.methodsAt t))) (F:Sk a n L) (hc:aV ops n L g d=true) (e:ev L x=some v) (h:xOn v b)
    (k:∀ a',Sk a' n ((d,.bool (!b))::L)→wpList P ops Q rest a' w):wpList P ops Q (⟨some d,.binOp .neq t x (.const .nilIface) t',ty,pos,af,g⟩::rest) a w:=kJ F hc (xSc hi F e h) k
end
def eV (s:ByteArray) (b z:Int):Option (Int×Bool):=
  if b=10∧z=64∧s.size≤281474976710656∧xS (Lib.intSat 64 s.data.toList) then some (match Lib.parseIntB 64 s.data.toList with | .ok v=>(v,true) | .range=>(Lib.intSat 64 s.data.toList,false) | _=>(0,false)) else none
theorem wQ {x0:ByteArray} {x1 x2:Int} (r:Int×Bool) (hR:eV x0 x1 x2=some r) (w0:World) (hG:GloE w0) (hx0:x0.size≤maxLen) (hx1:xS x1) (hx2:xS x2):Calls Tryz.prog 83 #[.string x0,.int .i64 x1,.int .i64 x2] w0 (xIo (fun v w'=>∃ v1':Value,v= .tuple #[.int .i64 r.1,v1']∧xS r.1∧xOn v1' r.2) w0):=by
  unfold eV at hR
  split at hR
  · rename_i h
    obtain⟨rfl,rfl,hs,hi⟩:=h;obtain rfl:=Option.some.inj hR
    cases hp:Lib.parseIntB 64 x0.data.toList
    case ok v=>
      have hb:=Lib.parseIntB_bounds hp;refine(Any.strconv_ParseInt_10_at64_ok xUh x0 (by omega) v hp w0).mono (fun e w' h=>?_);obtain⟨he,hw⟩:=h;refine⟨_,he,?_,_,rfl,⟨?_,?_⟩,rfl⟩
      · rcases hw with rfl | ⟨t,rfl⟩
        · exact Below.refl _ _
        · exact Lib.bytesWorld_below _ _ _
      · have:=hb.1
        simp at this ⊢
        omega
      · have:=hb.2
        simp at this ⊢
        omega
    case range=>
      obtain⟨tp,p,hv⟩:=hG.ra;refine(Any.strconv_ParseInt_10_at64_range_var xUh x0 hs hp tp p w0 hv).mono (fun e w' h=>?_);obtain⟨N,he,_,_,hb⟩:=h;exact⟨_,he,hb,_,rfl,hi,_,_,rfl⟩
    · obtain⟨tp,p,hv⟩:=hG.sy
      refine(Any.strconv_ParseInt_10_at64_syntax_var xUh x0 hs hp tp p w0 hv).mono (fun e w' h=>?_);obtain⟨N,he,_,_,hb⟩:=h;exact⟨_,he,hb,_,rfl,(show xS 0 by decide),_,_,rfl⟩
  · cases hR
end Go.Proofs.YtfmnjkpddljdcaaGreatDoor
