import Derived.Test.YtlommebgedmjdaaGreatDoorND
namespace Go.Proofs.YtlommebgedmjdaaGreatDoor
set_option linter.unusedVariables false
set_option linter.unusedSimpArgs false
open Go.RowKit
theorem Sep.q {X:List Nat} {N:Nat→Prop} {w0 w:World} {D:List As} (H:Sep X N w0 w D):∀ w',Below w.heap.size w w'→Sm N w0 w':=fun _ l=>(H.go l).sm
theorem Sep.v {X:List Nat} {N:Nat→Prop} {w0 w:World} {D:List As} (H:Sep X N w0 w D):∀ w',Sm N w w'→Sm N w0 w':=fun _ s=>H.sm.trans s
theorem Sep.qb {X:List Nat} {N:Nat→Prop} {w0 w:World} {D:List As} {b:Nat} {cs:List Value} {T:TypeId} (H:Sep X N w0 w D) (i:Nat) (hi:D[i]?=some (bx b cs T)):∀ w',Below w.heap.size w w'→fI w' b cs.toArray T:=fun _ l=>(H.go l).b i hi
theorem Bk.v {N:Nat→Prop} {w1 w:World} {b:Nat} {cs:List Value} {T:TypeId} (h:Bk N w1 b cs T) (s:Sm N w1 w):∀ w',Sm N w w'→fI w' b cs.toArray T:=fun _ l=>((s.trans l).blk b h.2).trans h.1
theorem Bk.o {N:Nat→Prop} {w1 w:World} {b:Nat} {cs:List Value} {T:TypeId} (h:Bk N w1 b cs T) (s:Sm N w1 w):fI w b cs.toArray T:=(s.blk b h.2).trans h.1
theorem Bo.w {α:Type} {V:VR α} [VF V] {w w':World} {v:Value} {x:α} (h:Bo (All w) w V v x) (l:Below w.heap.size w w'):Bo (All w') w' V v x:=(h.to (Sm.all l)).all
theorem aA {w:World}:∀ c,All w c→c<w.heap.size:=fun _ h=>h
theorem Sep.r0 {X:List Nat} {N M:Nat→Prop} {w0 w w':World} {D:List As} (H:Sep X N w0 w D) (S:Sep [] M w w' []):Sep X N w0 w' D:=H.go S.bl
theorem Sep.r1 {X:List Nat} {N M:Nat→Prop} {w0 w w':World} {D:List As} {A:As} (H:Sep X N w0 w D) (S:Sep [] M w w' [A]) (h:∀ c,A.N c→N c):Sep X N w0 w' (A::D):=H.ret S (fun B hB=>by rw[List.mem_singleton] at hB;subst hB;exact h)
section
variable {P:Program} {ops:Array Oper} {C:World→Prop} {K:Act→Prop} {a:Act} {w w0 w1:World} {n:Nat} {L:List (Nat×Value)} {rest:List Oper} {d:Nat} {ty:TypeId} {pos:String} {af:Array Edge} {g:Option (Nat×Bool)} {M N:Nat→Prop} {X:List Nat} {D:List As}
theorem qI {α:Type} {sz:Nat} {R:ER α} {x iy:Operand} {t:TypeId} {v:Value} {l:List α} {e:TypeId} {i:Int} {y:α} (ht:P.underlying t=some (.slice e)) (hsz:∀ w,(sizeOf e).run P w= .ok sz w)
    (F:Sk a n L) (hc:qH ops n L g d=true) (he:ev L x=some v) (hi:ev L iy=some (.int .i64 i)) (h:Bo M w1 (Sl sz R) v l) (hix:ix l i=some y)
    (k:∀ a' p,Bo M w1 (Pt sz R) p y→Sk a' n ((d,p)::L)→wpQuiet P ops C K rest a'):wpQuiet P ops C K (⟨some d,.indexAddr t x iy,ty,pos,af,g⟩::rest) a:=
  let ⟨p,hr,hp⟩:=xJz ht hsz F he hi h hix;lT F hc (fun w' _=>hr w') (fun a' F'=>k a' p hp F')
theorem qF {α β:Type} {sz s':Nat} {R:ER α} {R':ER β} {x:Operand} {t:TypeId} {kk:Nat} {p:Value} {y:α} {z:β} {off:Nat} (hp:∀ (a:Addr) w,(Instr.fieldAt t (.pointer (some a)) kk).run P w= .ok (.pointer (some (a.add off))) w)
    (F:Sk a n L) (hc:qH ops n L g d=true) (he:ev L x=some p) (h:Bo M w1 (Pt sz R) p y) (hf:∀ f bi,R w1 f y bi→∃ bj,R' w1 (fun j=>f (off+j)) z bj∧∀ c∈bj,c∈bi)
    (k:∀ a' p',Bo M w1 (Pt s' R') p' z→Sk a' n ((d,p')::L)→wpQuiet P ops C K rest a'):wpQuiet P ops C K (⟨some d,.fieldAddr t x kk,ty,pos,af,g⟩::rest) a:=
  let ⟨p',hr,h'⟩:=xJa (s':=s') hp F he h hf;lT F hc (fun w' _=>hr w') (fun a' F'=>k a' p' h' F')
theorem qlI {x:Operand} {t:TypeId} {p:Value} {y:Int} (hag:∀ w,(isAgg t).run P w= .ok false w) (F:Sk a n L) (hc:qH ops n L g d=true) (he:ev L x=some p) (s:∀ w',C w'→Sm M w1 w') (h:Bo M w1 (Pt 1 xG) p y)
    (k:∀ a',xH y→Sk a' n ((d,.int .i64 y)::L)→wpQuiet P ops C K rest a'):wpQuiet P ops C K (⟨some d,.load t x,ty,pos,af,g⟩::rest) a:=
  let ⟨i,hr⟩:=xSx hag F he h;lT F hc (fun w' l=>hr w' (s w' l)) (fun a' F'=>k a' i F')
theorem qlU {x:Operand} {t:TypeId} {p:Value} {y:UInt8} (hag:∀ w,(isAgg t).run P w= .ok false w) (F:Sk a n L) (hc:qH ops n L g d=true) (he:ev L x=some p) (s:∀ w',C w'→Sm M w1 w') (h:Bo M w1 (Pt 1 aW) p y)
    (k:∀ a',Sk a' n ((d,.int .u8 y.toNat)::L)→wpQuiet P ops C K rest a'):wpQuiet P ops C K (⟨some d,.load t x,ty,pos,af,g⟩::rest) a:=lT F hc (fun w' l=>xSy hag F he h w' (s w' l)) k
theorem qlS {α:Type} {sz:Nat} {R:ER α} {x:Operand} {t:TypeId} {p:Value} {y:List α} (hag:∀ w,(isAgg t).run P w= .ok false w) (F:Sk a n L) (hc:qH ops n L g d=true) (he:ev L x=some p) (s:∀ w',C w'→Sm M w1 w') (h:Bo M w1 (Pt 1 (fG sz R)) p y)
    (k:∀ a' v,Bo M w1 (Sl sz R) v y→Sk a' n ((d,v)::L)→wpQuiet P ops C K rest a'):wpQuiet P ops C K (⟨some d,.load t x,ty,pos,af,g⟩::rest) a:=
  let ⟨v,hv,hr⟩:=oAk hag F he h;lT F hc (fun w' l=>hr w' (s w' l)) (fun a' F'=>k a' v hv F')
theorem qlP {α:Type} {sz:Nat} {R:ER α} {x:Operand} {t:TypeId} {p:Value} {y:α} (hag:∀ w,(isAgg t).run P w= .ok false w) (F:Sk a n L) (hc:qH ops n L g d=true) (he:ev L x=some p) (s:∀ w',C w'→Sm M w1 w') (h:Bo M w1 (Pt 1 (RP sz R)) p y)
    (k:∀ a' v,Bo M w1 (Pt sz R) v y→Sk a' n ((d,v)::L)→wpQuiet P ops C K rest a'):wpQuiet P ops C K (⟨some d,.load t x,ty,pos,af,g⟩::rest) a:=
  let ⟨v,hv,hr⟩:=xXu hag F he h;lT F hc (fun w' l=>hr w' (s w' l)) (fun a' F'=>k a' v hv F')
theorem qlA {α:Type} {sz:Nat} {R:ER α} [hR:FrC sz R] {x:Operand} {t:TypeId} {p:Value} {y:α} (hag:∀ w,(isAgg t).run P w= .ok true w) (hsz:∀ w,(sizeOf t).run P w= .ok sz w) (F:Sk a n L) (hc:qH ops n L g d=true) (he:ev L x=some p) (s:∀ w',C w'→Sm M w1 w') (h:Bo M w1 (Pt sz R) p y)
    (k:∀ a' v,Bo M w1 (qG sz R) v y→Sk a' n ((d,v)::L)→wpQuiet P ops C K rest a'):wpQuiet P ops C K (⟨some d,.load t x,ty,pos,af,g⟩::rest) a:=
  let ⟨v,hv,hr⟩:=xSh hag hsz F he h;lT F hc (fun w' l=>hr w' (s w' l)) (fun a' F'=>k a' v hv F')
theorem qL {α:Type} {sz:Nat} {R:ER α} {x:Operand} {t:TypeId} {v:Value} {l:List α} {e:TypeId} (ht:P.underlying t=some (.slice e)) (F:Sk a n L) (hc:qH ops n L g d=true) (he:ev L x=some v) (h:Bo M w1 (Sl sz R) v l)
    (k:∀ a',xH (l.length:Int)→Sk a' n ((d,.int .i64 l.length)::L)→wpQuiet P ops C K rest a'):wpQuiet P ops C K (⟨some d,.call ⟨.builtin .len,#[x],#[t]⟩,ty,pos,af,g⟩::rest) a:=lT F hc (fun w' _=>xXh ht F he h w') (fun a' F'=>k a' h.slen F')
theorem qN {α:Type} {sz:Nat} {R:ER α} {x:Operand} {p:Value} {y:α} (F:Sk a n L) (hc:qH ops n L g d=true) (e:ev L x=some p) (h:Bo M w1 (Pt sz R) p y)
    (k:∀ a',Sk a' n ((d,p)::L)→wpQuiet P ops C K rest a'):wpQuiet P ops C K (⟨some d,.nilCheck x,ty,pos,af,g⟩::rest) a:=
  have hr:=xUu (d:=some d) (ty:=ty) (pos:=pos) (af:=af) (g:=g) F e h;lT F hc (fun w' _=>hr w') k
theorem qB {x:Operand} {t:TypeId} {b o:Nat} {v:Value} {cs:List Value} {T:TypeId} (hag:∀ w,(isAgg t).run P w= .ok false w) (F:Sk a n L) (hc:qH ops n L g d=true) (he:ev L x=some (.pointer (some ⟨b,o,none⟩))) (h:∀ w',C w'→fI w' b cs.toArray T) (hv:cs[o]?=some v)
    (k:∀ a',Sk a' n ((d,v)::L)→wpQuiet P ops C K rest a'):wpQuiet P ops C K (⟨some d,.load t x,ty,pos,af,g⟩::rest) a:=lT F hc (fun w' l=>nY hag F he (((h w' l).cell o).trans (by simpa using hv))) k
theorem qBA {x:Operand} {t:TypeId} {b o sz:Nat} {cs vs:List Value} {T:TypeId} (hag:∀ w,(isAgg t).run P w= .ok true w) (hsz:∀ w,(sizeOf t).run P w= .ok sz w) (F:Sk a n L) (hc:qH ops n L g d=true) (he:ev L x=some (.pointer (some ⟨b,o,none⟩))) (h:∀ w',C w'→fI w' b cs.toArray T)
    (hv:(cs.drop o).take sz=vs) (hl:vs.length=sz)
    (k:∀ a',Sk a' n ((d,.agg vs.toArray)::L)→wpQuiet P ops C K rest a'):wpQuiet P ops C K (⟨some d,.load t x,ty,pos,af,g⟩::rest) a:=
  lT F hc (fun w' l=>xKz hag hsz F he (h w' l) hl (fun j hj=>by subst hv;simp [List.getElem?_take,hj])) k
end
section
variable {P:Program} {ops:Array Oper} {C:World→Prop} {K:Act→Prop} {a:Act} {w w0 w1:World} {n:Nat} {L:List (Nat×Value)} {rest:List Oper} {d:Nat} {ty:TypeId} {pos:String} {af:Array Edge} {g:Option (Nat×Bool)} {M N:Nat→Prop} {X:List Nat} {D:List As}
theorem vI {α:Type} {sz:Nat} {R:ER α} {x iy:Operand} {t:TypeId} {v:Value} {l:List α} {e:TypeId} {i:Int} {y:α} (ht:P.underlying t=some (.slice e)) (hsz:∀ w,(sizeOf e).run P w= .ok sz w)
    (F:Sk a n L) (hc:qH ops n L g d=true) (he:ev L x=some v) (hi:ev L iy=some (.int .i64 i)) (h:Bo M w1 (Sl sz R) v l) (hix:ix l i=some y)
    (k:∀ a' p,Bo M w1 (Pt sz R) p y→Sk a' n ((d,p)::L)→K a'):wpV P ops C K ⟨some d,.indexAddr t x iy,ty,pos,af,g⟩ a:=
  let ⟨p,hr,hp⟩:=xJz ht hsz F he hi h hix;gP F hc (fun w' _=>hr w') (fun a' F'=>k a' p hp F')
theorem vF {α β:Type} {sz s':Nat} {R:ER α} {R':ER β} {x:Operand} {t:TypeId} {kk:Nat} {p:Value} {y:α} {z:β} {off:Nat} (hp:∀ (a:Addr) w,(Instr.fieldAt t (.pointer (some a)) kk).run P w= .ok (.pointer (some (a.add off))) w)
    (F:Sk a n L) (hc:qH ops n L g d=true) (he:ev L x=some p) (h:Bo M w1 (Pt sz R) p y) (hf:∀ f bi,R w1 f y bi→∃ bj,R' w1 (fun j=>f (off+j)) z bj∧∀ c∈bj,c∈bi)
    (k:∀ a' p',Bo M w1 (Pt s' R') p' z→Sk a' n ((d,p')::L)→K a'):wpV P ops C K ⟨some d,.fieldAddr t x kk,ty,pos,af,g⟩ a:=
  let ⟨p',hr,h'⟩:=xJa (s':=s') hp F he h hf;gP F hc (fun w' _=>hr w') (fun a' F'=>k a' p' h' F')
theorem vlI {x:Operand} {t:TypeId} {p:Value} {y:Int} (hag:∀ w,(isAgg t).run P w= .ok false w) (F:Sk a n L) (hc:qH ops n L g d=true) (he:ev L x=some p) (s:∀ w',C w'→Sm M w1 w') (h:Bo M w1 (Pt 1 xG) p y)
    (k:∀ a',xH y→Sk a' n ((d,.int .i64 y)::L)→K a'):wpV P ops C K ⟨some d,.load t x,ty,pos,af,g⟩ a:=
  let ⟨i,hr⟩:=xSx hag F he h;gP F hc (fun w' l=>hr w' (s w' l)) (fun a' F'=>k a' i F')
theorem vlT {x:Operand} {t:TypeId} {p:Value} {y:ByteArray} (hag:∀ w,(isAgg t).run P w= .ok false w) (F:Sk a n L) (hc:qH ops n L g d=true) (he:ev L x=some p) (s:∀ w',C w'→Sm M w1 w') (h:Bo M w1 (Pt 1 rV) p y)
    (k:∀ a',y.size≤maxLen→Sk a' n ((d,.string y)::L)→K a'):wpV P ops C K ⟨some d,.load t x,ty,pos,af,g⟩ a:=
  let ⟨i,hr⟩:=xXs hag F he h;gP F hc (fun w' l=>hr w' (s w' l)) (fun a' F'=>k a' i F')
theorem vlS {α:Type} {sz:Nat} {R:ER α} {x:Operand} {t:TypeId} {p:Value} {y:List α} (hag:∀ w,(isAgg t).run P w= .ok false w) (F:Sk a n L) (hc:qH ops n L g d=true) (he:ev L x=some p) (s:∀ w',C w'→Sm M w1 w') (h:Bo M w1 (Pt 1 (fG sz R)) p y)
    (k:∀ a' v,Bo M w1 (Sl sz R) v y→Sk a' n ((d,v)::L)→K a'):wpV P ops C K ⟨some d,.load t x,ty,pos,af,g⟩ a:=
  let ⟨v,hv,hr⟩:=oAk hag F he h;gP F hc (fun w' l=>hr w' (s w' l)) (fun a' F'=>k a' v hv F')
theorem vlA {α:Type} {sz:Nat} {R:ER α} [hR:FrC sz R] {x:Operand} {t:TypeId} {p:Value} {y:α} (hag:∀ w,(isAgg t).run P w= .ok true w) (hsz:∀ w,(sizeOf t).run P w= .ok sz w) (F:Sk a n L) (hc:qH ops n L g d=true) (he:ev L x=some p) (s:∀ w',C w'→Sm M w1 w') (h:Bo M w1 (Pt sz R) p y)
    (k:∀ a' v,Bo M w1 (qG sz R) v y→Sk a' n ((d,v)::L)→K a'):wpV P ops C K ⟨some d,.load t x,ty,pos,af,g⟩ a:=
  let ⟨v,hv,hr⟩:=xSh hag hsz F he h;gP F hc (fun w' l=>hr w' (s w' l)) (fun a' F'=>k a' v hv F')
theorem vN {α:Type} {sz:Nat} {R:ER α} {x:Operand} {p:Value} {y:α} (F:Sk a n L) (hc:qH ops n L g d=true) (e:ev L x=some p) (h:Bo M w1 (Pt sz R) p y)
    (k:∀ a',Sk a' n ((d,p)::L)→K a'):wpV P ops C K ⟨some d,.nilCheck x,ty,pos,af,g⟩ a:=
  have hr:=xUu (d:=some d) (ty:=ty) (pos:=pos) (af:=af) (g:=g) F e h;gP F hc (fun w' _=>hr w') k
theorem vB {x:Operand} {t:TypeId} {b o:Nat} {v:Value} {cs:List Value} {T:TypeId} (hag:∀ w,(isAgg t).run P w= .ok false w) (F:Sk a n L) (hc:qH ops n L g d=true) (he:ev L x=some (.pointer (some ⟨b,o,none⟩))) (h:∀ w',C w'→fI w' b cs.toArray T) (hv:cs[o]?=some v)
    (k:∀ a',Sk a' n ((d,v)::L)→K a'):wpV P ops C K ⟨some d,.load t x,ty,pos,af,g⟩ a:=gP F hc (fun w' l=>nY hag F he (((h w' l).cell o).trans (by simpa using hv))) k
theorem vBA {x:Operand} {t:TypeId} {b o sz:Nat} {cs vs:List Value} {T:TypeId} (hag:∀ w,(isAgg t).run P w= .ok true w) (hsz:∀ w,(sizeOf t).run P w= .ok sz w) (F:Sk a n L) (hc:qH ops n L g d=true) (he:ev L x=some (.pointer (some ⟨b,o,none⟩))) (h:∀ w',C w'→fI w' b cs.toArray T)
    (hv:(cs.drop o).take sz=vs) (hl:vs.length=sz)
    (k:∀ a',Sk a' n ((d,.agg vs.toArray)::L)→K a'):wpV P ops C K ⟨some d,.load t x,ty,pos,af,g⟩ a:=
  gP F hc (fun w' l=>xKz hag hsz F he (h w' l) hl (fun j hj=>by subst hv;simp [List.getElem?_take,hj])) k
end
end Go.Proofs.YtlommebgedmjdaaGreatDoor
