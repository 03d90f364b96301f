import Derived.WalkKit
import Derived.WalkSpells
import Derived.WalkLawsBesides
import Derived.BigQuiet
import Derived.Deep.LoopGhost
namespace Go.Proofs.YtnjlbbfcngjhmaaGreat
set_option linter.unusedVariables false
set_option linter.unusedSimpArgs false
section
universe u
open Go.RowKit
abbrev Wd:=World
abbrev Vl:=Value
abbrev Ty:=TypeId
variable {w':Wd} {T:Ty} {arr:Array Vl}
theorem Aa:type_of% @List.getElem?_eq_getElem.{0}:=@List.getElem?_eq_getElem.{0}
theorem Ac:type_of% @List.getElem?_eq_some_iff.{0}:=@List.getElem?_eq_some_iff.{0}
theorem Ad:type_of% @Int.toNat_natCast:=@Int.toNat_natCast
theorem Ae:type_of% @List.mem_of_getElem?.{0}:=@List.mem_of_getElem?.{0}
theorem Af:type_of% @Bool.false_eq_true:=@Bool.false_eq_true
theorem Ah:type_of% @Nat.le_of_lt:=@Nat.le_of_lt
theorem Ai:type_of% @List.forall_mem_cons.{0}:=@List.forall_mem_cons.{0}
theorem Aj:type_of% @List.getElem?_set_ne.{0}:=@List.getElem?_set_ne.{0}
theorem Ak:type_of% @List.length_singleton.{0}:=@List.length_singleton.{0}
theorem Al:type_of% @List.getElem?_set_self.{0}:=@List.getElem?_set_self.{0}
theorem Am:type_of% @List.length_cons.{0}:=@List.length_cons.{0}
theorem Ao:type_of% @List.getD_eq_getElem?_getD.{0}:=@List.getD_eq_getElem?_getD.{0}
theorem Ap:type_of% @List.not_mem_nil.{0}:=@List.not_mem_nil.{0}
theorem Aq:type_of% @List.length_append.{0}:=@List.length_append.{0}
theorem Ar:type_of% @List.mem_append.{0}:=@List.mem_append.{0}
theorem At:type_of% @Nat.lt_of_lt_of_le:=@Nat.lt_of_lt_of_le
theorem Au:type_of% @false_implies:=@false_implies
theorem Av:type_of% @List.mem_cons.{0}:=@List.mem_cons.{0}
theorem Aw:type_of% @List.mem_cons_of_mem.{0}:=@List.mem_cons_of_mem.{0}
theorem Ax:type_of% @Nat.le_of_ble_eq_true:=@Nat.le_of_ble_eq_true
theorem Ay:type_of% @List.getElem?_map.{0,0}:=@List.getElem?_map.{0,0}
theorem Az:type_of% @Nat.le_refl:=@Nat.le_refl
theorem Ba:type_of% @Bool.and_eq_true:=@Bool.and_eq_true
theorem Bb:type_of% @List.getElem?_append_right.{0}:=@List.getElem?_append_right.{0}
theorem Bc:type_of% @List.length_take.{0}:=@List.length_take.{0}
theorem Bd:type_of% @List.mem_singleton.{0}:=@List.mem_singleton.{0}
theorem Be:type_of% @List.getElem?_take.{0}:=@List.getElem?_take.{0}
theorem Bf:type_of% @Nat.mul_le_mul_right:=@Nat.mul_le_mul_right
theorem Bg:type_of% @decide_eq_true_eq:=@decide_eq_true_eq
theorem Bh:type_of% @List.mem_cons_self.{0}:=@List.mem_cons_self.{0}
theorem Bi:type_of% @List.length_nil.{0}:=@List.length_nil.{0}
theorem Bj:type_of% @Nat.zero_add:=@Nat.zero_add
theorem Bl:type_of% @List.mem_flatten.{0}:=@List.mem_flatten.{0}
theorem Bm:type_of% @Bool.not_true:=@Bool.not_true
theorem Bn:type_of% @List.getElem_mem.{0}:=@List.getElem_mem.{0}
theorem Bp:type_of% @List.nil_append.{0}:=@List.nil_append.{0}
theorem Bq:type_of% @List.mem_append_right.{0}:=@List.mem_append_right.{0}
theorem Br:type_of% @List.drop_eq_getElem_cons.{0}:=@List.drop_eq_getElem_cons.{0}
theorem Bs:type_of% @List.getElem?_append_left.{0}:=@List.getElem?_append_left.{0}
theorem Bt:type_of% @List.mem_append_left.{0}:=@List.mem_append_left.{0}
theorem Bu:type_of% @List.length_map.{0,0}:=@List.length_map.{0,0}
theorem Bv:type_of% @List.length_replicate.{0}:=@List.length_replicate.{0}
theorem Bw:type_of% @List.length_eq_zero_iff.{0}:=@List.length_eq_zero_iff.{0}
theorem Bx:type_of% @List.getElem_of_mem.{0}:=@List.getElem_of_mem.{0}
theorem Ca:type_of% @List.eq_of_mem_replicate.{0}:=@List.eq_of_mem_replicate.{0}
theorem Cb:type_of% @Nat.add_zero:=@Nat.add_zero
theorem Cc:type_of% @Array.getElem?_setIfInBounds.{0}:=@Array.getElem?_setIfInBounds.{0}
theorem Cd:type_of% @List.append_nil.{0}:=@List.append_nil.{0}
theorem Ce:type_of% @Nat.mul_one:=@Nat.mul_one
theorem Cg:type_of% @List.getElem?_eq_none.{0}:=@List.getElem?_eq_none.{0}
theorem Ch:type_of% @List.nodup_append.{0}:=@List.nodup_append.{0}
theorem Ci:type_of% @List.all_eq_true.{0}:=@List.all_eq_true.{0}
theorem Cj:type_of% @Nat.le_trans:=@Nat.le_trans
theorem Ck:type_of% @List.take_of_length_le.{0}:=@List.take_of_length_le.{0}
theorem Cl:type_of% @Bool.not_false:=@Bool.not_false
theorem Cm:type_of% @Int.tmod_eq_emod_of_nonneg:=@Int.tmod_eq_emod_of_nonneg
theorem Cn:type_of% @List.length_set.{0}:=@List.length_set.{0}
theorem Co:type_of% @Array.getElem?_eq_none.{0}:=@Array.getElem?_eq_none.{0}
theorem Cp:type_of% @List.drop_eq_nil_of_le.{0}:=@List.drop_eq_nil_of_le.{0}
theorem Cr:type_of% @Option.map_some.{0,0}:=@Option.map_some.{0,0}
theorem Cs:type_of% @List.ext_getElem?.{0}:=@List.ext_getElem?.{0}
theorem Ct:type_of% @Nat.add_mul:=@Nat.add_mul
theorem Cu:type_of% @List.take_append_of_le_length.{0}:=@List.take_append_of_le_length.{0}
theorem Cv:type_of% @List.mem_map.{0,0}:=@List.mem_map.{0,0}
theorem Cw:type_of% @Array.getElem?_eq_getElem.{0}:=@Array.getElem?_eq_getElem.{0}
theorem Cx:type_of% @List.mem_or_eq_of_mem_set.{0}:=@List.mem_or_eq_of_mem_set.{0}
theorem Cy:type_of% @beq_iff_eq.{0}:=@beq_iff_eq.{0}
theorem Cz:type_of% @List.mem_filter.{0}:=@List.mem_filter.{0}
theorem Da:type_of% @List.map_cons.{0,0}:=@List.map_cons.{0,0}
theorem Db:type_of% @Bool.true_and:=@Bool.true_and
theorem Dc:type_of% @Nat.zero_le:=@Nat.zero_le
theorem Dd:type_of% @List.getD_cons_zero.{0}:=@List.getD_cons_zero.{0}
theorem De:type_of% @List.replicate_succ.{0}:=@List.replicate_succ.{0}
theorem Df:type_of% @List.append_assoc.{0}:=@List.append_assoc.{0}
theorem Dg:type_of% @List.getElem?_replicate.{0}:=@List.getElem?_replicate.{0}
theorem Dh:type_of% @Array.getElem?_eq_some_iff.{0}:=@Array.getElem?_eq_some_iff.{0}
theorem Di:type_of% @List.map_toArray.{0,0}:=@List.map_toArray.{0,0}
theorem Dk:type_of% @List.length_drop.{0}:=@List.length_drop.{0}
theorem Dl:type_of% @List.getD_cons_succ.{0}:=@List.getD_cons_succ.{0}
theorem Dm:type_of% @beq_eq_false_iff_ne.{0}:=@beq_eq_false_iff_ne.{0}
theorem Dn:type_of% @Int.mul_le_mul_of_nonneg_left:=@Int.mul_le_mul_of_nonneg_left
theorem Dp:type_of% @Array.getElem?_toList.{0}:=@Array.getElem?_toList.{0}
theorem Dq:type_of% @Nat.add_assoc:=@Nat.add_assoc
theorem Dr:type_of% @List.getElem?_drop.{0}:=@List.getElem?_drop.{0}
theorem Ds:type_of% @List.range'_succ:=@List.range'_succ
theorem Dt:type_of% @List.mem_of_mem_take.{0}:=@List.mem_of_mem_take.{0}
theorem Du:type_of% @List.flatten_eq_nil_iff.{0}:=@List.flatten_eq_nil_iff.{0}
theorem Dv:type_of% @List.filter_cons.{0}:=@List.filter_cons.{0}
theorem Dw:type_of% @decide_eq_false_iff_not:=@decide_eq_false_iff_not
theorem Dx:type_of% @List.any_cons.{0}:=@List.any_cons.{0}
theorem Dy:type_of% @Nat.lt_or_ge:=@Nat.lt_or_ge
theorem Dz:type_of% @List.getElem?_range:=@List.getElem?_range
theorem Ea:type_of% @List.rel_of_pairwise_cons.{0}:=@List.rel_of_pairwise_cons.{0}
theorem Eb:type_of% @Option.getD_some.{0}:=@Option.getD_some.{0}
theorem Ec:type_of% @Int.emod_lt_of_pos:=@Int.emod_lt_of_pos
theorem Ed:type_of% @Nat.sub_self:=@Nat.sub_self
theorem Ee:type_of% @Bool.false_or:=@Bool.false_or
theorem Ef:type_of% @Nat.add_comm:=@Nat.add_comm
theorem Eg:type_of% @List.drop_drop.{0}:=@List.drop_drop.{0}
theorem Eh:type_of% @Int.mul_nonneg:=@Int.mul_nonneg
theorem Ei:type_of% @Nat.add_sub_cancel_left:=@Nat.add_sub_cancel_left
theorem Ej:type_of% @List.not_all_eq_any_not.{0}:=@List.not_all_eq_any_not.{0}
theorem Ek:type_of% @List.head?_drop.{0}:=@List.head?_drop.{0}
theorem Em:type_of% @List.flatten_append.{0}:=@List.flatten_append.{0}
theorem En:type_of% @Option.map_eq_some_iff.{0,0}:=@Option.map_eq_some_iff.{0,0}
theorem Ep:type_of% @List.map_nil.{0,0}:=@List.map_nil.{0,0}
theorem Er:type_of% @List.drop_zero.{0}:=@List.drop_zero.{0}
theorem Es:type_of% @List.take_append_drop.{0}:=@List.take_append_drop.{0}
theorem Et:type_of% @List.length_filter_le.{0}:=@List.length_filter_le.{0}
theorem Eu:type_of% @Nat.min_eq_left:=@Nat.min_eq_left
theorem Ev:type_of% @Int.emod_nonneg:=@Int.emod_nonneg
theorem Ew:type_of% @List.size_toArray.{0}:=@List.size_toArray.{0}
theorem Ex:type_of% @List.reverse_cons.{0}:=@List.reverse_cons.{0}
theorem Ey:type_of% @Nat.sub_zero:=@Nat.sub_zero
abbrev HN (B:Nat->Prop) (w:Wd):Prop:=∀ c,B c->c<w.heap.size
def xL (n:Int):Prop:=-9223372036854775808<=n/\n<=9223372036854775807
theorem xO:xL (0):=⟨by decide,by decide⟩
theorem zL:xL (1):=⟨by decide,by decide⟩
theorem xPn:xL (10):=⟨by decide,by decide⟩
theorem xQj:xL (1048576):=⟨by decide,by decide⟩
theorem xYi:xL (12):=⟨by decide,by decide⟩
theorem rH:xL (2):=⟨by decide,by decide⟩
theorem lL:xL (3):=⟨by decide,by decide⟩
theorem uC:xL (4):=⟨by decide,by decide⟩
theorem oKa:xL (5):=⟨by decide,by decide⟩
theorem sS:xL (6):=⟨by decide,by decide⟩
theorem xNf:xL (7):=⟨by decide,by decide⟩
theorem bC:xL (-1):=⟨by decide,by decide⟩
theorem _root_.Go.RowKit.Below.through {w p q:Wd} (l:Below p.heap.size p q) (h:Below w.heap.size w p):Below w.heap.size w q:=h.trans (l.mono h.size)
structure B5 (bs:List Nat) (w w':Wd):Prop where
  os:w'.os=w.os
  tape:w'.tape=w.tape
  output:w'.output=w.output
  size:w.heap.size<=w'.heap.size
  block:∀ k,k<w.heap.size->k ∉ bs->w'.heap[k]?=w.heap[k]?
theorem B5.of_below {bs:List Nat} {w:Wd} (h:Below w.heap.size w w'):B5 bs w w':=⟨h.os,h.tape,h.output,h.size,λk hk _=>h.block k hk⟩
theorem B5.refl (bs:List Nat) (w:Wd):B5 bs w w:=⟨rfl,rfl,rfl,Az _,λ_ _ _=>rfl⟩
theorem B5.below {B:Nat} {bs:List Nat} {w:Wd} (h:B5 bs w w') (hB:B<=w.heap.size) (qa:∀ b∈bs,B<=b):Below B w w':= ⟨h.os,h.tape,h.output,h.size,λk hk=>h.block k (by omega) (λhm=>by have:=qa k hm;omega)⟩
theorem B5.trans {bs:List Nat} {a b c:Wd} (h:B5 bs a b) (k:B5 bs b c):B5 bs a c:= ⟨k.os.trans h.os,k.tape.trans h.tape,k.output.trans h.output,Cj h.size k.size,λi hi hn=>(k.block i (by have:=h.size;omega) hn).trans (h.block i hi hn)⟩
theorem B5.mono {bs cs:List Nat} {w:Wd} (h:B5 bs w w') (hs:∀ b∈bs,b∈cs):B5 cs w w':= ⟨h.os,h.tape,h.output,h.size,λk hk hn=>h.block k hk (λhm=>hn (hs k hm))⟩
def sM (bs:List Nat) (w w':Wd):Prop:=∀ b∈bs,w'.heap[b]?=w.heap[b]?
def zW (bs:List Nat) (w:Wd):Prop:=∀ b∈bs,b<w.heap.size
def Own (B:Nat) (bs:List Nat) (w:Wd):Prop:=bs.Nodup/\∀ b∈bs,B<=b/\∃ cur e,w.heap[b]?=some (.cells cur e (0,0))
theorem xEd {w:Wd} {b:Nat} {o:Obj} (h:w.heap[b]?=some o):b<w.heap.size:=(Dh.1 h).1
theorem Own.inMem {B:Nat} {bs:List Nat} {w:Wd} (h:Own B bs w):zW bs w:=λb hb=>let ⟨_,_,_,he⟩:=h.2 b hb;xEd he
theorem zW.nil (w:Wd):zW [] w:=λ_ h=>by cases h
theorem Own.nil (B:Nat) (w:Wd):Own B [] w:=⟨List.nodup_nil,λ_ h=>by cases h⟩
theorem Own.same {B:Nat} {bs:List Nat} {w:Wd} (h:Own B bs w) (hs:sM bs w w'):Own B bs w':=⟨h.1,λb hb=>⟨(h.2 b hb).1,by rw[hs b hb];exact(h.2 b hb).2⟩⟩
theorem Own.sameBelow {B:Nat} {bs:List Nat} {w:Wd} (h:Own B bs w) (hs:Below w.heap.size w w'):Own B bs w':=h.same λb hb=>hs.block b (h.inMem b hb)
theorem zW.same {bs:List Nat} {w:Wd} (h:zW bs w) (hs:Below w.heap.size w w'):sM bs w w':=λb hb=>hs.block b (h b hb)
theorem zW.le {bs:List Nat} {w:Wd} (h:zW bs w) (hs:w.heap.size<=w'.heap.size):zW bs w':=λb hb=>At (h b hb) hs
theorem Own.append {B:Nat} {bs cs:List Nat} {w:Wd} (h:Own B bs w) (k:Own B cs w) (hd:∀ b∈bs,b ∉ cs):Own B (bs++cs) w:= ⟨Ch.2 ⟨h.1,k.1,λa ha b hb e=>hd a ha (e ▸ hb)⟩,λb hb=>(Ar.1 hb).elim (h.2 b) (k.2 b)⟩
theorem zW.append {bs cs:List Nat} {w:Wd} (h:zW bs w) (k:zW cs w):zW (bs++cs) w:=λb hb=>(Ar.1 hb).elim (h b) (k b)
theorem xAc (w:Wd) (b o:Nat) (v:Vl) (cur:Array Vl) (e:Ty) (fr:Nat×Nat) (h:w.heap[b]?=some (.cells cur e fr)):(w.setCell ⟨b,o,none⟩ v).heap[b]?=some (.cells (cur.setIfInBounds o v) e fr):=by
 simp [World.setCell,Array.getElem?_modify,h]
def nA (w:Wd) (b:Nat) (arr:Array Vl) (T:Ty):Prop:=w.heap[b]?=some (.cells arr T (0,0))
theorem nA.cell {w:Wd} {b:Nat} (h:nA w b arr T) (j:Nat):w.cell? ⟨b,j,none⟩=arr[j]?:=by unfold nA at h;simp [World.cell?,h]
theorem nA.frozen {w:Wd} {b:Nat} (h:nA w b arr T) (j:Nat):w.frozen? ⟨b,j,none⟩=false:=by unfold nA at h;simp [World.frozen?,h]
theorem nA.lt {w:Wd} {b:Nat} (h:nA w b arr T):b<w.heap.size:=xEd h
theorem nA.new {w:Wd} {b:Nat} (h:b=w.heap.size):nA (w.alloc (.cells arr T)) b arr T:=by subst h;exact heap_alloc_new w _
theorem nA.set_at {w:Wd} {b j:Nat} {arr':Array Vl} {u:Vl} (h:nA w b arr T) (e:arr.setIfInBounds j u=arr'):nA (w.setCell ⟨b,j,none⟩ u) b arr' T:=by subst e;exact xAc w b j u arr T (0,0) h
abbrev ER (α:Type):=Wd->(Nat->Option Vl)->α->List Nat->Prop
def Fr {α:Type} (sz:Nat) (R:ER α):Prop:=∀ w w' f g x bs,R w f x bs->sM bs w w'->(∀ j,j<sz->g j=f j)->R w' g x bs
def Els {α:Type} (sz:Nat) (R:ER α) (w:Wd) (b o:Nat) (l:List α) (bss:List (List Nat)):Prop:= bss.length=l.length/\∀ i x bi,l[i]?=some x->bss[i]?=some bi->R w (λj=>w.cell? ⟨b,o+i*sz+j,none⟩) x bi
def Sl {α:Type} (sz:Nat) (R:ER α) (w:Wd) (v:Vl) (l:List α) (bs:List Nat):Prop:= ∃ a c,v= .slice a l.length c/\l.length<=c/\c<=maxLen/\(a=none->c=0)/\((l=[]/\bs=[])∨∃ b o bss,a=some ⟨b,o,none⟩/\bs=b::bss.flatten/\Els sz R w b o l bss)
theorem tL {w:Wd} {b:Nat} (h:w'.heap[b]?=w.heap[b]?) (o:Nat):w'.cell? ⟨b,o,none⟩=w.cell? ⟨b,o,none⟩:=World.cell?_of_block (w:=w) (a:=⟨b,o,none⟩) h
theorem Els.same {α:Type} {sz:Nat} {R:ER α} (hR:Fr sz R) {w:Wd} {b o:Nat} {l:List α} {bss:List (List Nat)} (h:Els sz R w b o l bss) (hb:w'.heap[b]?=w.heap[b]?) (hs:sM bss.flatten w w'):Els sz R w' b o l bss:= ⟨h.1,λi x bi hx hi=>hR w w' _ _ x bi (h.2 i x bi hx hi) (λc hc=>hs c (Bl.2 ⟨bi,Ae hi,hc⟩)) (λ_ _=>tL hb _)⟩
theorem Sl.same {α:Type} {sz:Nat} {R:ER α} (hR:Fr sz R) {w:Wd} {v:Vl} {l:List α} {bs:List Nat} (h:Sl sz R w v l bs) (hs:sM bs w w'):Sl sz R w' v l bs:=by
 obtain⟨a,c,rfl,h1,h2,h3,h4⟩:=h;refine⟨a,c,rfl,h1,h2,h3,?_⟩
 rcases h4 with h4 | ⟨b,o,bss,rfl,rfl,he⟩
 ·exact .inl h4
 ·exact .inr ⟨b,o,bss,rfl,rfl,he.same hR (hs b (by simp)) (λc hc=>hs c (by simp [hc]))⟩
theorem Sl.open {α:Type} {sz:Nat} {R:ER α} {w:Wd} {v:Vl} {l:List α} {bs:List Nat} (h:Sl sz R w v l bs) :
 ∃ a c,v= .slice a l.length c/\l.length<=c/\c<=9223372036854775807/\(a=none->c=0) ∧
  ∀ k,(hk:k<l.length)->∃ b o bss bi,a=some ⟨b,o,none⟩/\bs=b::bss.flatten/\Els sz R w b o l bss/\bss[k]?=some bi/\(∀ c∈bi,c∈bs)/\R w (λj=>w.cell? ⟨b,o+k*sz+j,none⟩) l[k] bi:=by
 obtain⟨a,c,rfl,h1,h2,h3,h4⟩:=h;refine⟨a,c,rfl,h1,by unfold maxLen at h2;omega,h3,λk hk=>?_⟩
 rcases h4 with ⟨rfl,rfl⟩ | ⟨b,o,bss,rfl,rfl,he⟩
 ·simp at hk
 ·have hl:k<bss.length:=by rw[he.1];exact hk
  exact⟨b,o,bss,bss[k],rfl,rfl,he,Aa hl,λc hc=>Aw _ (Bl.2 ⟨_,Bn hl,hc⟩),he.2 k _ _ (Aa hk) (Aa hl)⟩
def xF:ER Int:=λ_ f x bs=>f 0=some (.int .i64 x)/\xL x/\bs=[]
theorem xF.fr:Fr 1 xF:=λ_ _ _ _ _ _ h _ hg=>⟨(hg 0 (by omega)).trans h.1,h.2⟩
def kP {α:Type} (sz:Nat) (R:ER α):ER (List α):=λw f l bs=>∃ v,f 0=some v/\Sl sz R w v l bs
theorem kP.fr {α:Type} {sz:Nat} {R:ER α} (hR:Fr sz R):Fr 1 (kP sz R):=λ_ _ _ _ _ _ ⟨v,h0,h⟩ hs hg=>⟨v,(hg 0 (by omega)).trans h0,h.same hR hs⟩
abbrev wC:=kP 1 xF
theorem wC.fr:Fr 1 wC:=kP.fr xF.fr
def qS {α:Type} (sz:Nat) (R:ER α) (w:Wd) (v:Vl) (x:α) (bs:List Nat):Prop:=∃ cs:List Vl,cs.length=sz/\v= .agg cs.toArray/\R w (λj=>cs[j]?) x bs
theorem qS.same {α:Type} {sz:Nat} {R:ER α} (hR:Fr sz R) {w:Wd} {v:Vl} {x:α} {bs:List Nat} (h:qS sz R w v x bs) (hs:sM bs w w'):qS sz R w' v x bs:=
 let ⟨cs,hl,hv,hr⟩:=h;⟨cs,hl,hv,hR _ _ _ _ _ _ hr hs (λ_ _=>rfl)⟩
theorem qS.of_cells {α:Type} {sz:Nat} {R:ER α} (hR:Fr sz R) {w:Wd} {f:Nat->Option Vl} {x:α} {bs:List Nat} (h:R w f x bs) (cs:List Vl) (hl:cs.length=sz) (hc:∀ j,j<sz->cs[j]?=f j):qS sz R w (.agg cs.toArray) x bs:= ⟨cs,hl,rfl,hR _ _ _ _ _ _ h (λ_ _=>rfl) hc⟩
theorem Sl.val {α:Type} {sz:Nat} {R:ER α} {w:Wd} {v:Vl} {l:List α} {bs:List Nat} (h:Sl sz R w v l bs):∃ a c,v= .slice a l.length c:=let ⟨a,c,hv,_⟩:=h;⟨a,c,hv⟩
theorem Own.cell0 {w:Wd} {b:Nat} {cur:Array Vl} {e:Ty} (h:w.heap[b]?=some (.cells cur e (0,0))) (o:Nat):w.cell? ⟨b,o,none⟩=cur[o]?/\w.frozen? ⟨b,o,none⟩=false:=by
 simp [World.cell?,World.frozen?,h]
theorem wV (b:Nat) (e:Ty) (fr:Nat×Nat):∀ (vs:List Vl) (o:Nat) (w:Wd) (cur:Array Vl),w.heap[b]?=some (.cells cur e fr)->o+vs.length<=cur.size->
 ∃ cur':Array Vl,(w.setCells b o vs).heap[b]?=some (.cells cur' e fr)/\cur'.size=cur.size/\(∀ j,j<vs.length->cur'[o+j]?=vs[j]?)/\∀ m,(m<o∨o+vs.length<=m)->cur'[m]?=cur[m]?
 | [],o,w,cur,h,_=>⟨cur,h,rfl,λj hj=>by simp at hj,λ_ _=>rfl⟩
 | v::r,o,w,cur,h,hl=>by
  obtain⟨cur',h1,h2,h3,h4⟩:=wV b e fr r (o+1) (w.setCell ⟨b,o,none⟩ v) (cur.setIfInBounds o v) (xAc w b o v cur e fr h) (by rw[Array.size_setIfInBounds];simp only[Am] at hl;omega);refine⟨cur',h1,by simpa using h2,λj hj=>?_,λm hm=>?_⟩
  ·cases j with
   | zero=>rw[Cb,h4 o (Or.inl (by omega)),Cc,if_pos rfl,if_pos (by simp only[Am] at hl;omega)];rfl
   | succ j=>have:=h3 j (by simpa using hj);rw[show o+(j+1)=o+1+j by omega];simpa using this
  ·rw[h4 m (by simp at hm;omega),Cc];simp at hm;rw[if_neg (by omega)]
theorem sQ (b:Nat):∀ (vs:List Vl) (o:Nat) (w:Wd) (k:Nat),k≠b->(w.setCells b o vs).heap[k]?=w.heap[k]?
 | [],_,_,_,_=>rfl
 | v::r,o,w,k,h=>by rw[World.setCells,sQ b r _ _ k h,Below.heap_setCell _ _ _ _ (by exact h)]
theorem xCw (b:Nat):∀ (vs:List Vl) (o:Nat) (w:Wd),(w.setCells b o vs).heap.size=w.heap.size
 | [],_,_=>rfl
 | v::r,o,w=>by rw[World.setCells,xCw b r];simp
theorem xMh (b o:Nat) (vs:List Vl) (w:Wd):B5 [b] w (w.setCells b o vs):=by
  refine⟨?_,?_,?_,by rw[xCw];omega,λk _ hn=>sQ b vs o w k (by simpa using hn)⟩
  all_goals (induction vs generalizing o w with
    | nil=>rfl
    | cons v r ih=>rw[World.setCells,ih];rfl)
theorem oIm {P:Program} {t e:Ty} {z:Vl} {size bytes:Nat} (ht:P.underlying t=some (.slice e)) (qa:(P.info? e).map (λi=>(i.zero,i.size,i.bytes))=some (some z,size,bytes))
 (n:Nat) (hbytes:bytes*n<=281474976710656) (h63:n<=9223372036854775807) (w:Wd) :
 (Instr.makeSlice t (.int .i64 (n:Int)) (.int .i64 (n:Int))).run P w= .ok (.slice (some ⟨w.heap.size,0,none⟩) n n) (w.alloc (.cells (madeCells z.cells (n*size)) e)):=by
 obtain⟨i,hi,qc⟩:=En.1 qa;simp only[Prod.mk.injEq] at qc;obtain⟨hz,hs,hb⟩:=qc
 have qd:(i.bytes:Int)*(n:Int)<=281474976710656:=by
  have h:((i.bytes*n:Nat):Int)<=281474976710656:=by rw[hb];omega
  rwa [Int.natCast_mul] at h
 have hr:=run_make (P:=P) w t e i z ht hi hz .i64 .i64 n n (by omega) (Int.le_refl _) qd (by omega);simp only[Ad,hs] at hr;exact hr
section
variable {α:Type} {c:α->Nat} {m:α->Int->α}
theorem oEl {l:List α} {k:Nat} {x:α} (h:l[k]?=some x):l.drop k=x::l.drop (k+1):=by
 obtain⟨hk,rfl⟩:=Ac.1 h;exact Br hk
end
theorem Own.left {B:Nat} {x y:List Nat} {w:Wd} (h:Own B (x++y) w):Own B x w:=⟨(Ch.1 h.1).1,λb hb=>h.2 b (Bt _ hb)⟩
theorem Own.right {B:Nat} {x y:List Nat} {w:Wd} (h:Own B (x++y) w):Own B y w:=⟨(Ch.1 h.1).2.1,λb hb=>h.2 b (Bq _ hb)⟩
theorem Own.disj {B:Nat} {x y:List Nat} {w:Wd} (h:Own B (x++y) w):∀ a∈x,a ∉ y:=λa ha hy=>(Ch.1 h.1).2.2 a ha a hy rfl
def xTv (x:Vl) (w:Wd) (e:Ending) (w':Wd):Prop:=e= .returned x/\Below w.heap.size w w'
theorem oj {α:Type u} {a b:α} (h:some a=some b):a=b:=Option.some.inj h
theorem ojs {α:Type u} {a b:α} (h:some a=some b):b=a:=(Option.some.inj h).symm
abbrev xA (x:Int):Value:=.int .i64 x
abbrev oK (b:Nat):Value:=.pointer (some ⟨b,0,none⟩)
abbrev kW:Value:=.slice none 0 0
end
section
open Go.RowKit
section
variable {P:Program}
theorem xMg (w:Wd) (base:Nat) (t ty e:Ty) (i:TypeInfo) (z:Vl) (size bytes:Nat) (ht:P.underlying t=some (.slice e)) (hi:P.info? e=some i) (hz:i.zero=some z)
 (qe:i.size=size) (qk:i.bytes=bytes) (qm:z.cells.size=size) (qn:0<size)
 (v:Vl) (n:Nat) (xs:List Vl) (qd:w.ownsRow base e size v n xs)
 (a:Addr) (m c:Nat) (news:List Vl) (hl:news.length=m*size) (qc:∀ j u,news[j]?=some u->w.cell? (a.add j)=some u) (h1:∀ u∈news,u.oneCell'=true)
 (ql:n+m<=maxLen) (qa:(n+m)*bytes<=140737488355328) (qg:base<=w.heap.size) :
 ∃ v' w',(Builtin.append_ #[t,t] ty #[v,.slice (some a) m c]).run P w= .ok v' w'/\w'.ownsRow base e size v' (n+m) (xs++news)/\w.grownBy w' v.ownBlock ∧
  (v'.ownBlock=v.ownBlock∨v'.ownBlock=some w.heap.size):=by
 obtain⟨v',w',hr,h2,h3,h4⟩:=run_append_own (P:=P) w base t ty e i z size bytes ht hi hz qe qk qm qn v n xs qd a m c news hl qc h1 ql qa qg;refine⟨v',w',hr,h2,h3,?_⟩;subst qe;subst qk
 have hsmall:n+m<=9223372036854775807:=by simp only[maxLen] at ql;omega
 rcases qd.2 with ⟨rfl,rfl⟩ | ⟨g,cap,cur,rfl,hbg,hg,hnc,hcm,qo,htake⟩
 ·by_cases hm:m=0
  ·exact .inl (by rw[h4.2 ⟨rfl,hm⟩])
  ·have qh:=run_append_nil (P:=P) w t ty e i z ht hi hz a m c news hl qc (by omega) (by omega) (by have hb:=qa;simp only[Bj] at hb;omega)
   rw[qh] at hr
   injection hr with e1 e2
   subst e1;exact .inr (by simp [Value.ownBlock])
 ·by_cases qf:n+m<=cap
  ·have qj:n*i.size+news.length<=cur.size:=by rw[hl,qo,<- Ct];exact Bf _ qf
   have qh:=run_append_room (P:=P) w t ty e i ht hi g n cap cur hg a m c news hl qc h1 qf qj;rw[qh] at hr
   injection hr with e1 e2
   subst e1;exact .inl (by simp [Value.ownBlock])
  ·have qi:∀ j u,xs[j]?=some u->w.cell? ((⟨g,0,none⟩:Addr).add j)=some u:=qd.cells (g:=g) rfl
   have qh:=run_append_grow (P:=P) w t ty e i z ht hi hz ⟨g,0,none⟩ n cap xs qd.1 qi a m c news hl qc (by omega) (by omega) (growslice_fits (by omega) qa);rw[qh] at hr
   injection hr with e1 e2
   subst e1;exact .inr (by simp [Value.ownBlock])
end
end
section
open Go.RowKit
variable {x:Operand} {y:Operand} {j:Int} {i:Int} {z:Int} {op:Op}
def sL:List (Nat×Vl)->Nat->Option Vl | [],_=>none | (d,v)::r,t=>bif Nat.beq d t then some v else sL r t
structure Sk (a:Act) (n:Nat) (L:List (Nat×Vl)):Prop where
  d:a.defers=[]
  s:a.tmps.size=n
  g:∀ t v,sL L t=some v->a.tmps[t]?=some v
def ev (L:List (Nat×Vl)):Operand->Option Vl | .tmp t=>sL L t | .const v=>some v | .func f=>some (.func (.func f) #[] #[]) | .global g=>some (.pointer (some ⟨g,0,none⟩))
def evs (L:List (Nat×Vl)):List Operand->Option (List Vl)
 | []=>some []
 | x::r=>match ev L x,evs L r with
  | some v,some s=>some (v::s)
  | _,_=>none
theorem Sk.ev {a:Act} {n:Nat} {L:List (Nat×Vl)} (h:Sk a n L) {v:Vl} (e:ev L x=some v):a.eval x=v:=by
 cases x with
 | tmp t=>simp [Act.eval,h.g t v e]
 | const u=>exact Option.some.inj e
 | func f=>exact Option.some.inj e
 | global g=>exact Option.some.inj e
theorem Sk.evs {a:Act} {n:Nat} {L:List (Nat×Vl)} (h:Sk a n L):∀ {xs:List Operand} {vs:List Vl},evs L xs=some vs->xs.map a.eval=vs
 | [],vs,e=>by cases e;rfl
 | x::r,vs,e=>by
  unfold Go.Proofs.YtnjlbbfcngjhmaaGreat.evs at e
  cases h1:Go.Proofs.YtnjlbbfcngjhmaaGreat.ev L x with
  | none=>simp [h1] at e
  | some v=>
   cases h2:Go.Proofs.YtnjlbbfcngjhmaaGreat.evs L r with
   | none=>simp [h1,h2] at e
   | some s=>
    simp only[h1,h2,Option.some.injEq] at e;subst e;rw[Da,h.ev h1,h.evs h2]
theorem Sk.put {a:Act} {n:Nat} {L:List (Nat×Vl)} (h:Sk a n L) {d:Nat} (v:Vl) (hd:Nat.blt d n=true):Sk (a.put (some d) v) n ((d,v)::L):=by
 have qc:d<a.tmps.size:=by rw[h.s];exact Ax hd
 refine⟨h.d,by simp [Act.put,h.s],λt u e=>?_⟩
 unfold sL at e
 cases hb:Nat.beq d t with
 | true=>
  have qa:d=t:=Nat.eq_of_beq_eq_true hb;subst qa;rw[hb] at e;simp only[cond_true,Option.some.injEq] at e;subst e
  simp [Act.put,qc]
 | false=>
  have qa:d≠t:=Nat.ne_of_beq_eq_false hb;rw[hb] at e;simp only[cond_false] at e;have:=h.g t u e
  simp [Act.put,Array.getElem?_setIfInBounds_ne qa,this]
theorem Sk.nil {a:Act} {n:Nat} {L:List (Nat×Vl)} (h:Sk a n L):Sk a n []:=⟨h.d,h.s,λt v e=>nomatch e⟩
theorem Sk.add {a:Act} {n:Nat} {L M:List (Nat×Vl)} (h:Sk a n L) (k:Sk a n M) {t:Nat} {v:Vl} (e:sL L t=some v):Sk a n ((t,v)::M):=by
 refine⟨h.d,h.s,λu x hu=>?_⟩
 unfold sL at hu
 cases hb:Nat.beq t u with
 | true=>
  have qa:t=u:=Nat.eq_of_beq_eq_true hb;subst qa;rw[hb] at hu;simp only[cond_true,Option.some.injEq] at hu;subst hu;exact h.g _ _ e
 | false=>rw[hb] at hu;exact k.g _ _ hu
theorem Sk.eq {a:Act} {n:Nat} {L:List (Nat×Vl)} (h:Sk a n L) {t:Nat} {v u:Vl} (e:sL L t=some v) (hv:v=u):Sk a n ((t,u)::L):=h.add h (by rw[e,hv])
theorem Sk.eb {a:Act} {n:Nat} {L:List (Nat×Value)} (h:Sk a n L) (t:Nat) {b c:Bool} (e:sL L t=some (.bool b)) (hv:b=c):Sk a n ((t,.bool c)::L):=h.eq e (congrArg Value.bool hv)
def sub (L:List (Nat×Vl)):List (Nat×Vl)->Prop | []=>True | (t,v)::r=>sL L t=some v/\sub L r
theorem Sk.sub {a:Act} {n:Nat} {L:List (Nat×Vl)} (h:Sk a n L):∀ {M:List (Nat×Vl)},sub L M->Sk a n M | [],_=>h.nil | (_,_)::_,hs=>h.add (h.sub hs.2) hs.1
def gok (ops:Array Oper) (L:List (Nat×Vl)) (g:Option (Nat×Bool)):Bool:= match g with
 | none=>true
 | some (j,want)=>match (ops[j]?).bind (·.dst) with
  | none=>false
  | some d=>match sL L d with
   | some (.bool b)=>b==want
   | _=>false
def gno (ops:Array Oper) (L:List (Nat×Vl)) (g:Option (Nat×Bool)):Bool:= match g with
 | none=>false
 | some (j,want)=>match (ops[j]?).bind (·.dst) with
  | none=>false
  | some d=>match sL L d with
   | some (.bool b)=>b != want
   | some _=>true
   | none=>false
theorem mE {ops:Array Oper} {a:Act} {n:Nat} {L:List (Nat×Vl)} (h:Sk a n L) {o:Oper} (hg:gok ops L o.guard=true):Region.wanted o (yielded ops a.tmps)=true:=by
 unfold gok at hg
 unfold Region.wanted
 cases ho:o.guard with
 | none=>rfl
 | some p=>
  obtain⟨j,want⟩:=p;simp only[ho] at hg ⊢
  cases hd:(ops[j]?).bind (·.dst) with
  | none=>simp [hd] at hg
  | some d=>
   simp only[hd] at hg
   cases hl:sL L d with
   | none=>simp [hl] at hg
   | some v=>
    cases v<;>simp [hl] at hg
    rename_i b;subst hg
    simp [yielded,hd,h.g _ _ hl]
theorem uK {ops:Array Oper} {a:Act} {n:Nat} {L:List (Nat×Vl)} (h:Sk a n L) {o:Oper} (hg:gno ops L o.guard=true):Region.wanted o (yielded ops a.tmps)=false:=by
 unfold gno at hg
 unfold Region.wanted
 cases ho:o.guard with
 | none=>simp [ho] at hg
 | some p=>
  obtain⟨j,want⟩:=p;simp only[ho] at hg ⊢
  cases hd:(ops[j]?).bind (·.dst) with
  | none=>simp [hd] at hg
  | some d=>
   simp only[hd] at hg
   cases hl:sL L d with
   | none=>simp [hl] at hg
   | some v=>
    cases v<;>simp [hl] at hg<;>simp [yielded,hd,h.g _ _ hl,hg]
section
variable {P:Program} {Q:Exit->Act->Wd->Prop} {K:Act->Wd->Prop} {a:Act} {w:Wd} {n:Nat} {L:List (Nat×Vl)}
theorem kR {x y:Code} (h:x.wp P (Exit.then (y.wp P Q) Q) a w):(Code.seq x y).wp P Q a w:=wp_seq h
theorem bX {id:Nat} {l:List Oper} (h:wpList P l.toArray Q l a w):(Code.region id l.toArray false).wp P Q a w:=wp_region_lit h
theorem dU {ops:Array Oper} (h:Q .normal a w):wpList P ops Q [] a w:=h
theorem aQ (h:K a w):Exit.then K Q .normal a w:=h
theorem xMi {i:Nat} (h:Q (.exit i) a w):Exit.then K Q (.exit i) a w:=h
theorem uT (h:Q .ret a w):Exit.then K Q .ret a w:=h
theorem xMk {i:Nat} (h:Q .normal a w):Exit.inBlock i Q .normal a w:=h
theorem xTy {i:Nat} (h:Q .normal a w):Exit.inBlock i Q (.exit i) a w:=by show(if i=i then _ else _);rw[if_pos rfl];exact h
theorem xQh {i:Nat} (h:Q .ret a w):Exit.inBlock i Q .ret a w:=h
theorem rZ {i:Nat} {c:Code} (h:c.wp P (Exit.inBlock i Q) a w):(Code.block i c).wp P Q a w:=wp_block h
theorem iR (h:Q .normal a w):Code.skip.wp P Q a w:=wp_skip h
theorem xDl {i:Nat} (h:Q (.exit i) a w):(Code.exit i).wp P Q a w:=wp_exit h
theorem wA (h:Q .ret a w):Code.ret.wp P Q a w:=wp_ret h
theorem oBh (F:Sk a n L) {c:Operand} {x y:Code} (e:ev L c=some (.bool true)) (ht:x.wp P Q a w):(Code.cond c x y).wp P Q a w:=wp_cond_true (F.ev e) ht
theorem xZv (F:Sk a n L) {c:Operand} {x y:Code} (e:ev L c=some (.bool false)) (hf:y.wp P Q a w):(Code.cond c x y).wp P Q a w:=wp_cond_false (F.ev e) hf
theorem rX {ops:Array Oper} {Q':Exit->Act->Wd->Prop} (hq:∀ e a w,Q e a w->Q' e a w):∀ {l:List Oper} {a:Act} {w:Wd},wpList P ops Q l a w->wpList P ops Q' l a w
  | [],_,_,h=>hq _ _ _ h
  | o::r,a,w,h=>by
    unfold wpList at h ⊢
    split
    · rename_i hw
      rw[if_pos hw] at h
      rcases h with h | ⟨h1,a',w',h2⟩
      · refine .inl ?_
        have:=Oper.wp_mono (K':=wpList P ops Q' r) (λa w h=>rX hq h) h
        unfold Oper.wp at this ⊢
        generalize (execOp a.eval o).run P w=res at *
        cases res with
        | ok nx w'=>
          cases nx<;>simp only[Oper.upon] at this ⊢ <;>
            first
              | exact this
              | (refine Calls.mono this (λe w'' he=>?_)
                 cases e<;>first
                   | exact he
                   | exact hq _ _ _ he
                   | (obtain⟨a1,w1,h1⟩:=he;exact⟨a1,w1,hq _ _ _ h1⟩))
        | halt x w'=>cases x<;>simp only[Oper.upon] at this ⊢<;>first | exact this | exact hq _ _ _ this
      · exact .inr ⟨h1,a',w',hq _ _ _ h2⟩
    · rename_i hw
      rw[if_neg hw] at h;exact rX hq h
theorem xPv {c:Code} (I:Nat->Act->Wd->Prop) (g:Nat) (h₀:I g a w) (xFu:∀ g a w,I g a w->c.wp P (Exit.then (λa' w'=>∃ g',g'<g/\I g' a' w') Q) a w):(Code.loop c).wp P Q a w:=wp_loop_ghost I g h₀ xFu
end
instance (n:Int):Decidable (xL n):=inferInstanceAs (Decidable (_/\_))
def ck (x:Int):Option Int:=if -9223372036854775808<=x/\x<=9223372036854775807 then some x else none
def dv (x y:Int):Option Int:=if y=0 then none else ck (x.tdiv y)
def rm (x y:Int):Option Int:=if y=0 then none else some (x.tmod y)
theorem xEy {x y:Int} (h:ck x=some y):xL x/\x=y:=by
 unfold ck at h
 split at h
 ·exact⟨by assumption,Option.some.inj h⟩
 ·cases h
theorem oLd {x:Int} (h:xL x):ck x=some x:=if_pos h
theorem kA {x y:Int} (h:ck x=some y):xL y:=by obtain⟨h1,rfl⟩:=xEy h;exact h1
theorem xVb {x y:Int} (h:dv x y=some z):y≠0/\xL (x.tdiv y)/\x.tdiv y=z:=by
 unfold dv at h
 split at h
 ·cases h
 ·exact⟨by assumption,xEy h⟩
theorem oCb {x y:Int} (h:dv x y=some z):xL z:=by obtain⟨_,h1,rfl⟩:=xVb h;exact h1
theorem xUu {x y:Int} (h:rm x y=some z):y≠0/\x.tmod y=z:=by
 unfold rm at h
 split at h
 ·cases h
 ·exact⟨by assumption,Option.some.inj h⟩
theorem xL.tmod {x y:Int} (hx:xL x) (hy:xL y) (h:y≠0):xL (x.tmod y):=by
 have h1:=Int.natAbs_tmod x y;have h2:=Nat.mod_le x.natAbs y.natAbs;have h3:=Nat.mod_lt x.natAbs (show 0<y.natAbs by omega);have hx1:=hx.1;have hx2:=hx.2;have hy1:=hy.1;have hy2:=hy.2;exact⟨by omega,by omega⟩
theorem xGs {x y:Int} (h:rm x y=some z) (hx:xL x) (hy:xL y):xL z:=by obtain⟨h0,rfl⟩:=xUu h;exact hx.tmod hy h0
section
variable {P:Program} {ops:Array Oper} {Q:Exit->Act->Wd->Prop} {a:Act} {w:Wd} {n:Nat} {L:List (Nat×Vl)} {rest:List Oper} {d:Nat} {dd:Option Tmp} {ty:Ty} {pos:String} {af:Array Edge} {g:Option (Nat×Bool)}
def vO (ops:Array Oper) (n:Nat) (L:List (Nat×Vl)) (g:Option (Nat×Bool)) (d:Nat):Bool:=gok ops L g && Nat.blt d n
theorem zT (F:Sk a n L) (hc:vO ops n L g d=true) {v:Vl} {w':Wd} (hr:(execOp a.eval ⟨some d,op,ty,pos,af,g⟩).run P w= .ok (.value v) w') (k:∀ a',Sk a' n ((d,v)::L)->wpList P ops Q rest a' w'):wpList P ops Q (⟨some d,op,ty,pos,af,g⟩::rest) a w:=by
 unfold vO at hc
 rw[Ba] at hc
 unfold wpList
 rw[if_pos (mE F (o:=⟨some d,op,ty,pos,af,g⟩) hc.1)];refine .inl ?_
 unfold Oper.wp
 rw[hr];exact k _ (F.put v hc.2)
theorem xTp (F:Sk a n L) (hc:gok ops L g=true) {w':Wd} (hr:(execOp a.eval ⟨none,op,ty,pos,af,g⟩).run P w= .ok .skip w') (k:wpList P ops Q rest a w'):wpList P ops Q (⟨none,op,ty,pos,af,g⟩::rest) a w:=by
 unfold wpList
 rw[if_pos (mE F (o:=⟨none,op,ty,pos,af,g⟩) hc)];refine .inl ?_
 unfold Oper.wp
 rw[hr];exact k
theorem o_no (F:Sk a n L) (hc:gno ops L g=true) (hd:Nat.blt d n=true) (k:∀ a',Sk a' n ((d,undef)::L)->wpList P ops Q rest a' w):wpList P ops Q (⟨some d,op,ty,pos,af,g⟩::rest) a w:=by
 unfold wpList
 rw[if_neg (by rw[uK F (o:=⟨some d,op,ty,pos,af,g⟩) hc];exact Bool.false_ne_true)];exact k _ (F.put undef hd)
theorem oKj (F:Sk a n L) (hc:gno ops L g=true) (k:wpList P ops Q rest a w):wpList P ops Q (⟨none,op,ty,pos,af,g⟩::rest) a w:=by
 unfold wpList
 rw[if_neg (by rw[uK F (o:=⟨none,op,ty,pos,af,g⟩) hc];exact Bool.false_ne_true)];exact k
theorem yU {v:Vl} (F:Sk a n L) (e:ev L x=some v) {w':Wd}:(execOp a.eval ⟨dd,.move x,ty,pos,af,g⟩).run P w'= .ok (.value (v)) w':=by
 unfold execOp;rw[<- F.ev e];rfl
theorem pS {v:Vl} (F:Sk a n L) (hc:vO ops n L g d=true) (e:ev L x=some v) (k:∀ a',Sk a' n ((d,v)::L)->wpList P ops Q rest a' w) : wpList P ops Q (⟨some d,.move x,ty,pos,af,g⟩::rest) a w:=zT F hc (yU F e) k
theorem xEr {v:Vl} (F:Sk a n L) (e:ev L x=some v) {w':Wd}:(execOp a.eval ⟨dd,.assign x,ty,pos,af,g⟩).run P w'= .ok (.value (v)) w':=by
 unfold execOp;rw[<- F.ev e];rfl
theorem uJ {v:Vl} (F:Sk a n L) (hc:vO ops n L g d=true) (e:ev L x=some v) (k:∀ a',Sk a' n ((d,v)::L)->wpList P ops Q rest a' w) : wpList P ops Q (⟨some d,.assign x,ty,pos,af,g⟩::rest) a w:=zT F hc (xEr F e) k
theorem xUr {z:Operand} {v:Vl} (F:Sk a n L) (e:ev L x=some (.bool true)) (e':ev L y=some v) {w':Wd}:(execOp a.eval ⟨dd,.pick x y z,ty,pos,af,g⟩).run P w'= .ok (.value (v)) w':=by
 unfold execOp;simp only[F.ev e,F.ev e'];rfl
theorem xPg {z:Operand} {v:Vl} (F:Sk a n L) (e:ev L x=some (.bool false)) (e':ev L z=some v) {w':Wd}:(execOp a.eval ⟨dd,.pick x y z,ty,pos,af,g⟩).run P w'= .ok (.value (v)) w':=by
 unfold execOp;simp only[F.ev e,F.ev e'];rfl
theorem oDc {z:Operand} {v:Vl} (F:Sk a n L) (hc:vO ops n L g d=true) (e:ev L x=some (.bool false)) (e':ev L z=some v) (k:∀ a',Sk a' n ((d,v)::L)->wpList P ops Q rest a' w) : wpList P ops Q (⟨some d,.pick x y z,ty,pos,af,g⟩::rest) a w:=zT F hc (xPg F e e') k
theorem oFm {t:Ty} {b:Bool} (F:Sk a n L) (e:ev L x=some (.bool b)) {w':Wd}:(execOp a.eval ⟨dd,.unOp .not t x,ty,pos,af,g⟩).run P w'= .ok (.value (.bool (!b))) w':=by
 unfold execOp;simp only[F.ev e];rfl
theorem oJf {t t':Ty} (F:Sk a n L) (e:ev L x=some (.int .i64 i)) (e':ev L y=some (.int .i64 j)) {w':Wd}:(execOp a.eval ⟨dd,.binOp .eql t x y t',ty,pos,af,g⟩).run P w'= .ok (.value (.bool (i==j))) w':=by
 unfold execOp;simp only[F.ev e,F.ev e'];rfl
theorem oLe {t t':Ty} (F:Sk a n L) (e:ev L x=some (.int .i64 i)) (e':ev L y=some (.int .i64 j)) {w':Wd}:(execOp a.eval ⟨dd,.binOp .neq t x y t',ty,pos,af,g⟩).run P w'= .ok (.value (.bool (i != j))) w':=by
 unfold execOp;simp only[F.ev e,F.ev e'];rfl
theorem oFp {t t':Ty} (F:Sk a n L) (e:ev L x=some (.int .i64 i)) (e':ev L y=some (.int .i64 j)) {w':Wd}:(execOp a.eval ⟨dd,.binOp .lss t x y t',ty,pos,af,g⟩).run P w'= .ok (.value (.bool (decide (i<j)))) w':=by
 unfold execOp;simp only[F.ev e,F.ev e'];rfl
theorem oFt {t t':Ty} (F:Sk a n L) (hc:vO ops n L g d=true) (e:ev L x=some (.int .i64 i)) (e':ev L y=some (.int .i64 j)) (k:∀ a',Sk a' n ((d,.bool (decide (i<j)))::L)->wpList P ops Q rest a' w) : wpList P ops Q (⟨some d,.binOp .lss t x y t',ty,pos,af,g⟩::rest) a w:=zT F hc (oFp F e e') k
theorem oJa {t t':Ty} (F:Sk a n L) (e:ev L x=some (.int .i64 i)) (e':ev L y=some (.int .i64 j)) {w':Wd}:(execOp a.eval ⟨dd,.binOp .leq t x y t',ty,pos,af,g⟩).run P w'= .ok (.value (.bool (decide (i<=j)))) w':=by
 unfold execOp;simp only[F.ev e,F.ev e'];rfl
theorem oJd {t t':Ty} (F:Sk a n L) (e:ev L x=some (.int .i64 i)) (e':ev L y=some (.int .i64 j)) {w':Wd}:(execOp a.eval ⟨dd,.binOp .gtr t x y t',ty,pos,af,g⟩).run P w'= .ok (.value (.bool (decide (j<i)))) w':=by
 unfold execOp;simp only[F.ev e,F.ev e'];rfl
theorem oIx {t t':Ty} (F:Sk a n L) (e:ev L x=some (.int .i64 i)) (e':ev L y=some (.int .i64 j)) {w':Wd}:(execOp a.eval ⟨dd,.binOp .geq t x y t',ty,pos,af,g⟩).run P w'= .ok (.value (.bool (decide (j<=i)))) w':=by
 unfold execOp;simp only[F.ev e,F.ev e'];rfl
theorem wH {t t':Ty} (F:Sk a n L) (e:ev L x=some (.int .i64 i)) (e':ev L y=some (.int .i64 j)) (hz:ck (i+j)=some z) {w':Wd}:(execOp a.eval ⟨dd,.binOp .add t x y t',ty,pos,af,g⟩).run P w'= .ok (.value (.int .i64 z)) w':=by
 obtain⟨hi,rfl⟩:=xEy hz
 unfold execOp;simp only[F.ev e,F.ev e']
 show(Result.ok (Next.value (.int .i64 (IntKind.i64.wrap (i+j)))) w')=_
 rw[IntWalk.i64_in _ hi]
theorem xZy {t t':Ty} (F:Sk a n L) (hc:vO ops n L g d=true) (e:ev L x=some (.int .i64 i)) (e':ev L y=some (.int .i64 j)) (hz:ck (i+j)=some z) (k:∀ a',Sk a' n ((d,.int .i64 z)::L)->wpList P ops Q rest a' w) : wpList P ops Q (⟨some d,.binOp .add t x y t',ty,pos,af,g⟩::rest) a w:=zT F hc (wH F e e' hz) k
theorem xBb {t t':Ty} (F:Sk a n L) (e:ev L x=some (.int .i64 i)) (e':ev L y=some (.int .i64 j)) (hz:ck (i - j)=some z) {w':Wd}:(execOp a.eval ⟨dd,.binOp .sub t x y t',ty,pos,af,g⟩).run P w'= .ok (.value (.int .i64 z)) w':=by
 obtain⟨hi,rfl⟩:=xEy hz
 unfold execOp;simp only[F.ev e,F.ev e']
 show(Result.ok (Next.value (.int .i64 (IntKind.i64.wrap (i - j)))) w')=_
 rw[IntWalk.i64_in _ hi]
theorem oKe {t t':Ty} (F:Sk a n L) (hc:vO ops n L g d=true) (e:ev L x=some (.int .i64 i)) (e':ev L y=some (.int .i64 j)) (hz:ck (i - j)=some z) (k:∀ a',Sk a' n ((d,.int .i64 z)::L)->wpList P ops Q rest a' w) : wpList P ops Q (⟨some d,.binOp .sub t x y t',ty,pos,af,g⟩::rest) a w:=zT F hc (xBb F e e' hz) k
theorem yB {t t':Ty} (F:Sk a n L) (e:ev L x=some (.int .i64 i)) (e':ev L y=some (.int .i64 j)) (hz:ck (i*j)=some z) {w':Wd}:(execOp a.eval ⟨dd,.binOp .mul t x y t',ty,pos,af,g⟩).run P w'= .ok (.value (.int .i64 z)) w':=by
 obtain⟨hi,rfl⟩:=xEy hz
 unfold execOp;simp only[F.ev e,F.ev e']
 show(Result.ok (Next.value (.int .i64 (IntKind.i64.wrap (i*j)))) w')=_
 rw[IntWalk.i64_in _ hi]
theorem oJs {t t':Ty} (F:Sk a n L) (hc:vO ops n L g d=true) (e:ev L x=some (.int .i64 i)) (e':ev L y=some (.int .i64 j)) (hz:ck (i*j)=some z) (k:∀ a',Sk a' n ((d,.int .i64 z)::L)->wpList P ops Q rest a' w) : wpList P ops Q (⟨some d,.binOp .mul t x y t',ty,pos,af,g⟩::rest) a w:=zT F hc (yB F e e' hz) k
theorem oKp {t t':Ty} {k:Nat} (F:Sk a n L) (e:ev L x=some (.int .i64 (k:Int))) (e':ev L y=some (.int .i64 1)) (hi:xL ((k+1:Nat):Int)) {w':Wd}:(execOp a.eval ⟨dd,.binOp .add t x y t',ty,pos,af,g⟩).run P w'= .ok (.value (.int .i64 ((k+1:Nat):Int))) w':=by
 unfold execOp;simp only[F.ev e,F.ev e']
 show(Result.ok (Next.value (.int .i64 (IntKind.i64.wrap ((k:Int)+1)))) w')=_
 exact congrArg (λz=>Result.ok (Next.value (.int .i64 z)) w') (IntWalk.i64_in _ hi)
theorem oJi {t t':Ty} {k:Nat} (F:Sk a n L) (hc:vO ops n L g d=true) (e:ev L x=some (.int .i64 (k:Int))) (e':ev L y=some (.int .i64 1)) (hi:xL ((k+1:Nat):Int)) (k:∀ a',Sk a' n ((d,.int .i64 ((k+1:Nat):Int))::L)->wpList P ops Q rest a' w) : wpList P ops Q (⟨some d,.binOp .add t x y t',ty,pos,af,g⟩::rest) a w:=zT F hc (oKp F e e' hi) k
theorem oKk {t t':Ty} (F:Sk a n L) (e:ev L x=some (.int .i64 i)) (e':ev L y=some (.int .i64 j)) (hz:dv i j=some z) {w':Wd}:(execOp a.eval ⟨dd,.binOp .quo t x y t',ty,pos,af,g⟩).run P w'= .ok (.value (.int .i64 z)) w':=by
 obtain⟨hj,hi,rfl⟩:=xVb hz
 unfold execOp;simp only[F.ev e,F.ev e']
 have h1:∀ (P:Program) (w:Wd),(eqGuard .quo t x y (.int .i64 i) (.int .i64 j)).run P w= .ok () w:=λ_ _=>rfl;have h2:Go.binOp .quo t (.int .i64 i) (.int .i64 j)=Op.intDiv .quo .i64 i j:=rfl
 simp [h1,h2,Op.intDiv,if_neg hj,IntWalk.i64_in _ hi]
theorem oIw {t t':Ty} (F:Sk a n L) (hc:vO ops n L g d=true) (e:ev L x=some (.int .i64 i)) (e':ev L y=some (.int .i64 j)) (hz:dv i j=some z) (k:∀ a',Sk a' n ((d,.int .i64 z)::L)->wpList P ops Q rest a' w) : wpList P ops Q (⟨some d,.binOp .quo t x y t',ty,pos,af,g⟩::rest) a w:=zT F hc (oKk F e e' hz) k
theorem xEk {t t':Ty} (F:Sk a n L) (e:ev L x=some (.int .i64 i)) (e':ev L y=some (.int .i64 j)) (hz:rm i j=some z) {w':Wd}:(execOp a.eval ⟨dd,.binOp .rem t x y t',ty,pos,af,g⟩).run P w'= .ok (.value (.int .i64 z)) w':=by
 obtain⟨hj,rfl⟩:=xUu hz
 unfold execOp;simp only[F.ev e,F.ev e']
 have h1:∀ (P:Program) (w:Wd),(eqGuard .rem t x y (.int .i64 i) (.int .i64 j)).run P w= .ok () w:=λ_ _=>rfl;have h2:Go.binOp .rem t (.int .i64 i) (.int .i64 j)=Op.intDiv .rem .i64 i j:=rfl
 simp [h1,h2,Op.intDiv,if_neg hj]
theorem oLb {t t':Ty} (F:Sk a n L) (hc:vO ops n L g d=true) (e:ev L x=some (.int .i64 i)) (e':ev L y=some (.int .i64 j)) (hz:rm i j=some z) (k:∀ a',Sk a' n ((d,.int .i64 z)::L)->wpList P ops Q rest a' w) : wpList P ops Q (⟨some d,.binOp .rem t x y t',ty,pos,af,g⟩::rest) a w:=zT F hc (xEk F e e' hz) k
theorem yY {p:Addr} (F:Sk a n L) (e:ev L x=some (.pointer (some p))) {w':Wd}:(execOp a.eval ⟨dd,.nilCheck x,ty,pos,af,g⟩).run P w'= .ok (.value (.pointer (some p))) w':=by
 unfold execOp;simp only[F.ev e];rfl
theorem xNu {i:Nat} {vs:Array Vl} {v:Vl} (F:Sk a n L) (e:ev L x=some (.tuple vs)) (hv:vs[i]?=some v) {w':Wd}:(execOp a.eval ⟨dd,.extract x i,ty,pos,af,g⟩).run P w'= .ok (.value (v)) w':=by
 unfold execOp;simp [F.ev e,Instr.extract,hv]
theorem xNq {i:Nat} {vs:Array Vl} {v:Vl} (F:Sk a n L) (hc:vO ops n L g d=true) (e:ev L x=some (.tuple vs)) (hv:vs[i]?=some v) (k:∀ a',Sk a' n ((d,v)::L)->wpList P ops Q rest a' w) : wpList P ops Q (⟨some d,.extract x i,ty,pos,af,g⟩::rest) a w:=zT F hc (xNu F e hv) k
theorem oFw {f:Fn} {xs ys:List Operand} {us vs:List Vl} (F:Sk a n L) (e:evs L xs=some us) (e':evs L ys=some vs) {w':Wd}:(execOp a.eval ⟨dd,.makeFunc f xs.toArray ys.toArray,ty,pos,af,g⟩).run P w'= .ok (.value (.func f us.toArray vs.toArray)) w':=by
 simp [execOp,F.evs e,F.evs e',Instr.makeFunc]
theorem oGc {f:Fn} {xs ys:List Operand} {us vs:List Vl} (F:Sk a n L) (hc:vO ops n L g d=true) (e:evs L xs=some us) (e':evs L ys=some vs) (k:∀ a',Sk a' n ((d,.func f us.toArray vs.toArray)::L)->wpList P ops Q rest a' w) : wpList P ops Q (⟨some d,.makeFunc f xs.toArray ys.toArray,ty,pos,af,g⟩::rest) a w:=zT F hc (oFw F e e') k
theorem xZq {f:FuncId} {xs:List Operand} {at':Array Ty} {vs:List Vl} {Φ:Vl->Wd->Prop} {R:Ending->Wd->Prop} (F:Sk a n L) (hc:vO ops n L g d=true) (hf:∀ args w,(callFunc f args).run P w= .ok (.enter f args) w)
 (e:evs L xs=some vs) (C:Calls P f vs.toArray w R) (hR:∀ e w',R e w'->∃ v,e= .returned v/\Φ v w')
 (k:∀ a' v w',Φ v w'->Sk a' n ((d,v)::L)->wpList P ops Q rest a' w') :
 wpList P ops Q (⟨some d,.call ⟨.value (.func f),xs.toArray,at'⟩,ty,pos,af,g⟩::rest) a w:=by
 unfold vO at hc
 rw[Ba] at hc
 unfold wpList
 rw[if_pos (mE F (o:=⟨some d,.call ⟨.value (.func f),xs.toArray,at'⟩,ty,pos,af,g⟩) hc.1)];refine .inl ?_
 unfold Oper.wp
 have hr:(execOp a.eval ⟨some d,.call ⟨.value (.func f),xs.toArray,at'⟩,ty,pos,af,g⟩).run P w= .ok (.enter f vs.toArray) w:=by
  have h1:execOp a.eval ⟨some d,.call ⟨.value (.func f),xs.toArray,at'⟩,ty,pos,af,g⟩=callFunc f (#[]++xs.toArray.map a.eval ++ #[]):=rfl;rw[h1,Di,F.evs e,Array.append_empty,Array.empty_append];exact hf _ _
 rw[hr]
 exact C.mono λe w'' he=>by
  obtain⟨v,rfl,hv⟩:=hR e w'' he;exact k _ _ _ hv (F.put v hc.2)
end
end
section
open Go.RowKit
variable {x:Operand} {α:Type} {R:ER α}
class FrC {α:Type} (sz:Nat) (R:ER α):Prop where
  fr:Fr sz R
  tot:∀ w f x bs,R w f x bs->∀ j,j<sz->∃ v:Vl,f j=some v/\v.oneCell'=true
abbrev VR (α:Type):=Wd->Vl->α->List Nat->Prop
class VF {α:Type} (V:VR α):Prop where
  same:∀ {w w' v x bs},V w v x bs->sM bs w w'->V w' v x bs
def Pt (sz:Nat) (R:ER α):VR α:=λw v x bs=>∃ b o bi,v= .pointer (some ⟨b,o,none⟩)/\bs=b::bi/\R w (λj=>w.cell? ⟨b,o+j,none⟩) x bi
instance {α:Type} {sz:Nat} {R:ER α} [h:FrC sz R]:VF (Sl sz R):=⟨λh' hs=>h'.same h.fr hs⟩
instance {α:Type} {sz:Nat} {R:ER α} [h:FrC sz R]:VF (qS sz R):=⟨λh' hs=>h'.same h.fr hs⟩
instance {α:Type} {sz:Nat} {R:ER α} [h:FrC sz R]:VF (Pt sz R):=⟨λh' hs=>by
 obtain⟨b,o,bi,rfl,rfl,hr⟩:=h'
 exact⟨b,o,bi,rfl,rfl,h.fr _ _ _ _ _ _ hr (λc hc=>hs c (by simp [hc])) (λj _=>tL (hs b (by simp)) _)⟩⟩
theorem oKr {α:Type} {f:Nat->Option Vl} {v:Vl} (h:f 0=some v) (hv:v.oneCell'=true):∀ j,j<1->∃ v:Vl,f j=some v/\v.oneCell'=true:=λj hj=>⟨v,by rw[show j=0 by omega];exact h,hv⟩
theorem dW (b o k:Nat):(⟨b,o,none⟩:Addr).add k=⟨b,o+k,none⟩:=by unfold Addr.add;split<;>simp_all
instance:FrC 1 xF:=⟨xF.fr,λw f x bs h=>oKr (α:=Nat) h.1 rfl⟩
instance {α:Type} {sz:Nat} {R:ER α} [h:FrC sz R]:FrC 1 (kP sz R):=⟨kP.fr h.fr,λw f x bs h j hj=>by
 obtain rfl:j=0:=by omega
 obtain⟨v,h0,a,c,rfl,_⟩:=h
 exact⟨_,h0,rfl⟩⟩
def aC:ER Bool:=λ_ f x bs=>f 0=some (.bool x)/\bs=[]
instance:FrC 1 aC:=⟨λ_ _ _ _ _ _ h _ hg=>⟨(hg 0 (by omega)).trans h.1,h.2⟩,λw f x bs h=>oKr (α:=Nat) h.1 rfl⟩
structure Rd {α:Type} (V:VR α) (w:Wd) (v:Vl) (x:α) (bs:List Nat):Prop where
  r:V w v x bs
  m:zW bs w
def Dj (x y:List Nat):Prop:=∀ b∈x,b ∉ y
theorem Dj.symm {x y:List Nat} (h:Dj x y):Dj y x:=λb hb hx=>h b hx hb
theorem Dj.nil (x:List Nat):Dj x []:=λ_ _ h=>nomatch h
theorem Dj.app' {x y z:List Nat} (h:Dj x z) (k:Dj y z):Dj (x++y) z:=λb hb hm=>(Ar.1 hb).elim (λhx=>h b hx hm) (λhy=>k b hy hm)
theorem Sl.len64 {sz:Nat} {w:Wd} {v:Vl} {l:List α} {bs:List Nat} (h:Sl sz R w v l bs):xL (l.length:Int):=by
 obtain⟨a,c,rfl,h1,h2,_⟩:=h
 unfold maxLen at h2
 exact⟨by omega,by omega⟩
theorem Sl.nil (sz:Nat) (R:ER α) (w:Wd):Sl sz R w (.slice none 0 0) [] []:=⟨none,0,rfl,Az _,by unfold maxLen;omega,λ_=>rfl,.inl ⟨rfl,rfl⟩⟩
def ix (l:List α) (i:Int):Option α:=if 0<=i then l[i.toNat]? else none
theorem aE {l:List α} {i:Int} {x:α} (h:ix l i=some x):0<=i/\l[i.toNat]?=some x:=by
 unfold ix at h
 split at h
 ·exact⟨by assumption,h⟩
 ·cases h
section
variable {P:Program} {a:Act} {w:Wd} {n:Nat} {L:List (Nat×Vl)} {d:Option Tmp} {ty:Ty} {pos:String} {af:Array Edge} {g:Option (Nat×Bool)}
theorem oKy {sz:Nat} {t:Ty} {v:Vl} {l:List α} {bs:List Nat} {e:Ty} (ht:P.underlying t=some (.slice e)) (F:Sk a n L) (he:ev L x=some v) (h:Sl sz R w v l bs) (w':Wd) : (execOp a.eval ⟨d,.call ⟨.builtin .len,#[x],#[t]⟩,ty,pos,af,g⟩).run P w'= .ok (.value (.int .i64 l.length)) w':=by
 obtain⟨a',c,hv⟩:=h.val;rw[BigFrame.execOp_builtin,BigFrame.builtin_len];simp only[Di,Da,Ep,F.ev he,hv]
 simp [Builtin.len_,run_underlying ht]
 rfl
theorem xUv {sz:Nat} {iy:Operand} {t:Ty} {v:Vl} {l:List α} {bs:List Nat} {e:Ty} {i:Int} {y:α} (ht:P.underlying t=some (.slice e)) (qc:∀ w,(sizeOf e).run P w= .ok sz w)
 (F:Sk a n L) (he:ev L x=some v) (hi:ev L iy=some (.int .i64 i)) (h:Rd (Sl sz R) w v l bs) (qd:ix l i=some y) :
 ∃ p bi,(∀ w',(execOp a.eval ⟨d,.indexAddr t x iy,ty,pos,af,g⟩).run P w'= .ok (.value p) w')/\Rd (Pt sz R) w p y bi/\∀ c∈bi,c∈bs:=by
 obtain⟨h0,hy⟩:=aE qd;obtain⟨hk,rfl⟩:=Ac.1 hy;obtain⟨a',c',rfl,h1,h2,h3,h4⟩:=h.r.open;obtain⟨b,o,bss,bi,rfl,rfl,_,_,hs,hr⟩:=h4 i.toNat hk;refine⟨.pointer (some ⟨b,o+i.toNat*sz,none⟩),b::bi,λw'=>?_,⟨⟨b,_,bi,rfl,rfl,hr⟩,λc hc=>?_⟩,λc hc=>?_⟩
 ·have qa:=dW b o (i.toNat*sz)
  unfold execOp
  simp only[F.ev he,F.ev hi]
  have qe:i<(l.length:Int):=by omega
  simp [Instr.indexAt,run_underlying ht,asIntOf,h0,qe,qc,qa]
 ·rcases Av.1 hc with rfl | hc
  ·exact h.m _ (by simp)
  ·exact h.m _ (hs c hc)
 ·rcases Av.1 hc with rfl | hc
  ·simp
  ·exact hs c hc
theorem oCt {β:Type} {sz s':Nat} {R':ER β} {t:Ty} {k:Nat} {p:Vl} {y:α} {z:β} {bs:List Nat} {off:Nat} (hp:∀ (a:Addr) w,(Instr.fieldAt t (.pointer (some a)) k).run P w= .ok (.pointer (some (a.add off))) w)
 (F:Sk a n L) (he:ev L x=some p) (h:Rd (Pt sz R) w p y bs) (hf:∀ f bi,R w f y bi->∃ bj,R' w (λj=>f (off+j)) z bj/\∀ c∈bj,c∈bi) :
 ∃ p' bj,(∀ w',(execOp a.eval ⟨d,.fieldAddr t x k,ty,pos,af,g⟩).run P w'= .ok (.value p') w')/\Rd (Pt s' R') w p' z bj/\∀ c∈bj,c∈bs:=by
 obtain⟨⟨b,o,bi,rfl,rfl,hr⟩,hm⟩:=h;obtain⟨bj,hz,hs⟩:=hf _ _ hr;refine⟨.pointer (some ⟨b,o+off,none⟩),b::bj,λw'=>?_,⟨⟨b,o+off,bj,rfl,rfl,?_⟩,λc hc=>?_⟩,λc hc=>?_⟩
 ·unfold execOp
  simp only[F.ev he];have qa:=dW b o off
  simp [hp,qa]
 ·simpa [Dq] using hz
 ·rcases Av.1 hc with rfl | hc
  ·exact hm _ (by simp)
  ·exact hm _ (by simp [hs c hc])
 ·rcases Av.1 hc with rfl | hc
  ·simp
  ·simp [hs c hc]
theorem sY {t:Ty} {b o:Nat} {v:Vl} (qa:∀ w,(isAgg t).run P w= .ok false w) (F:Sk a n L) (he:ev L x=some (.pointer (some ⟨b,o,none⟩))) (hc:w.cell? ⟨b,o,none⟩=some v) : (execOp a.eval ⟨d,.load t x,ty,pos,af,g⟩).run P w= .ok (.value v) w:=by
 unfold execOp
 simp only[F.ev he]
 simp [Instr.loadAt,Instr.sureAddr,loadVar,qa,hc]
theorem oEk {t:Ty} {p:Vl} {y:Int} {bs:List Nat} (qa:∀ w,(isAgg t).run P w= .ok false w) (F:Sk a n L) (he:ev L x=some p) (h:Rd (Pt 1 xF) w p y bs) : (execOp a.eval ⟨d,.load t x,ty,pos,af,g⟩).run P w= .ok (.value (.int .i64 y)) w:=by
 obtain⟨⟨b,o,bi,rfl,rfl,hr⟩,hm⟩:=h;exact sY qa F he (by simpa using hr.1)
theorem oDo {t:Ty} {p:Vl} {y:Bool} {bs:List Nat} (qa:∀ w,(isAgg t).run P w= .ok false w) (F:Sk a n L) (he:ev L x=some p) (h:Rd (Pt 1 aC) w p y bs) : (execOp a.eval ⟨d,.load t x,ty,pos,af,g⟩).run P w= .ok (.value (.bool y)) w:=by
 obtain⟨⟨b,o,bi,rfl,rfl,hr⟩,hm⟩:=h;exact sY qa F he (by simpa using hr.1)
theorem Rd.i64 {p:Vl} {y:Int} {bs:List Nat} (h:Rd (Pt 1 xF) w p y bs):xL y:=by
 obtain⟨⟨b,o,bi,rfl,rfl,hr⟩,hm⟩:=h;exact hr.2.1
end
section
variable {P:Program} {ops:Array Oper} {Q:Exit->Act->Wd->Prop} {a:Act} {w:Wd} {n:Nat} {L:List (Nat×Vl)} {rest:List Oper} {d:Nat} {ty:Ty} {pos:String} {af:Array Edge} {g:Option (Nat×Bool)}
theorem oLa {T:Ty} {v:Vl} {arr:Array Vl} (F:Sk a n L) (hc:vO ops n L g d=true) (he:ev L x=some v) (ha:v.cells=arr) (k:∀ a' w' b,nA w' b arr T->Below w.heap.size w w'->w.heap.size<=b->Sk a' n ((d,.pointer (some ⟨b,0,none⟩))::L)->wpList P ops Q rest a' w'):wpList P ops Q (⟨some d,.box T x,ty,pos,af,g⟩::rest) a w:=by
 subst ha;refine zT (v:=.pointer (some ⟨w.heap.size,0,none⟩)) (w':=w.alloc (.cells v.cells T)) F hc ?_ (λa' F'=>k a' _ _ (nA.new rfl) ((Below.refl _ _).alloc (Az _) _) (Az _) F')
 unfold execOp
 simp only[F.ev he]
 rfl
theorem oEg {T:Ty} {z:Vl} {arr:Array Vl} (hz:∀ w,(zeroValue T).run P w= .ok z w) (F:Sk a n L) (hc:vO ops n L g d=true) (ha:z.cells=arr) (k:∀ a' w' b,nA w' b arr T->Below w.heap.size w w'->w.heap.size<=b->Sk a' n ((d,.pointer (some ⟨b,0,none⟩))::L)->wpList P ops Q rest a' w'):wpList P ops Q (⟨some d,.alloc T,ty,pos,af,g⟩::rest) a w:=by
 subst ha;refine zT (v:=.pointer (some ⟨w.heap.size,0,none⟩)) (w':=w.alloc (.cells z.cells T)) F hc ?_ (λa' F'=>k a' _ _ (nA.new rfl) ((Below.refl _ _).alloc (Az _) _) (Az _) F')
 unfold execOp
 simp [Instr.alloc,hz,newVar,newRow]
theorem xXz {t:Ty} {kk b o o' off:Nat} (hp:∀ (a:Addr) w,(Instr.fieldAt t (.pointer (some a)) kk).run P w= .ok (.pointer (some (a.add off))) w)
 (F:Sk a n L) (hc:vO ops n L g d=true) (he:ev L x=some (.pointer (some ⟨b,o,none⟩))) (ho:o+off=o')
 (k:∀ a',Sk a' n ((d,.pointer (some ⟨b,o',none⟩))::L)->wpList P ops Q rest a' w) :
 wpList P ops Q (⟨some d,.fieldAddr t x kk,ty,pos,af,g⟩::rest) a w:=by
 subst ho;refine zT F hc ?_ k
 unfold execOp
 have qa:=dW b o off
 simp [F.ev he,hp,qa]
theorem oCw {t:Ty} {b o:Nat} {v:Vl} {arr:Array Vl} {T:Ty} (qa:∀ w,(isAgg t).run P w= .ok false w) (F:Sk a n L) (hc:vO ops n L g d=true) (he:ev L x=some (.pointer (some ⟨b,o,none⟩))) (h:nA w b arr T) (hv:arr[o]?=some v) (k:∀ a',Sk a' n ((d,v)::L)->wpList P ops Q rest a' w):wpList P ops Q (⟨some d,.load t x,ty,pos,af,g⟩::rest) a w:=zT F hc (sY qa F he ((h.cell o).trans hv)) k
theorem oAa {t:Ty} {b o sz:Nat} {cs:List Vl} {arr:Array Vl} {T:Ty} (qc:∀ w,(isAgg t).run P w= .ok true w) (qd:∀ w,(sizeOf t).run P w= .ok sz w) (F:Sk a n L) (hc:vO ops n L g d=true) (he:ev L x=some (.pointer (some ⟨b,o,none⟩))) (h:nA w b arr T) (hl:cs.length=sz)
 (hv:∀ j,j<sz->arr[o+j]?=cs[j]?)
 (k:∀ a',Sk a' n ((d,.agg cs.toArray)::L)->wpList P ops Q rest a' w):wpList P ops Q (⟨some d,.load t x,ty,pos,af,g⟩::rest) a w:=by
 subst hl;refine zT F hc ?_ k
 unfold execOp
 simp only[F.ev he]
 have hl:=run_loadCells_list (P:=P) w ⟨b,o,none⟩ cs (λj v hj=>by
  have qe:j<cs.length:=(Ac.1 hj).1;have qa:=dW b o j
  rw[qa,h.cell,hv j qe,hj])
 simp [Instr.loadAt,Instr.sureAddr,loadVar,qc,qd,hl]
theorem xKq {y:Operand} {t:Ty} {b o:Nat} {v:Vl} {arr arr':Array Vl} {T:Ty} (qa:∀ w,(sizeOf t).run P w= .ok 1 w) (F:Sk a n L) (hc:gok ops L g=true) (he:ev L x=some (.pointer (some ⟨b,o,none⟩))) (qc:ev L y=some v) (h:nA w b arr T) (hv:v.oneCell'=true) (ho:o<arr.size) (ha:arr.setIfInBounds o v=arr')
 (k:∀ w',nA w' b arr' T->B5 [b] w w'->wpList P ops Q rest a w'):wpList P ops Q (⟨none,.store t x y,ty,pos,af,g⟩::rest) a w:=by
 subst ha;refine xTp (w':=w.setCell ⟨b,o,none⟩ v) F hc ?_ (k _ (h.set_at rfl) ⟨rfl,rfl,rfl,by simp,λk _ hk=>Below.heap_setCell _ _ _ _ (by simpa using hk)⟩)
 have h1:v.cells = #[v]:=by cases v<;>first | rfl | simp [Value.oneCell'] at hv
 have h2:w.cell? ⟨b,o,none⟩=some arr[o]:=by rw[h.cell,Cw ho]
 unfold execOp
 simp only[F.ev he,F.ev qc]
 simp [Instr.storeAt,Instr.sureAddr,storeVar,qa,h1,storeCells,Addr.add,run_store P w _ v _ hv,h2,h.frozen]
theorem xNm {y:Operand} {t:Ty} {b o:Nat} {vs:List Vl} {arr arr':Array Vl} {T:Ty} (qc:∀ w,(sizeOf t).run P w= .ok vs.length w) (F:Sk a n L) (hc:gok ops L g=true) (he:ev L x=some (.pointer (some ⟨b,o,none⟩))) (qd:ev L y=some (.agg vs.toArray)) (h:nA w b arr T) (hv:∀ v∈vs,v.oneCell'=true) (ho:o+vs.length<=arr.size)
 (ha:(arr.toList.take o++vs++arr.toList.drop (o+vs.length)).toArray=arr')
 (k:∀ w',nA w' b arr' T->B5 [b] w w'->wpList P ops Q rest a w'):wpList P ops Q (⟨none,.store t x y,ty,pos,af,g⟩::rest) a w:=by
 subst ha;have qa:=run_storeCells_at P b o T vs 0 arr w h (by simpa using ho) hv;simp only[Cb] at qa;refine xTp (w':=w.setRow b (arr.toList.take o++vs++arr.toList.drop (o+vs.length)).toArray) F hc ?_ (k _ (setRow_heap w b arr _ T _ h) ⟨rfl,rfl,rfl,?_,λk _ hk=>?_⟩)
 ·unfold execOp
  simp only[F.ev he,F.ev qd]
  simp [Instr.storeAt,Instr.sureAddr,storeVar,qc,Value.cells,qa]
 ·simp [World.setRow]
 ·have qe:k≠b:=by simpa using hk
  simp [World.setRow,Array.getElem?_modify,qe.symm]
end
section
variable {P:Program}
theorem xPo {f:FuncId} {fn:Func} {c:Code} {vs:List Vl} {n:Nat} {L:List (Nat×Vl)} {w:Wd} {R:Ending->Wd->Prop} (hf:P.funcs[f]?=some fn) (hb:fn.body=some c) (hn:fn.ntmps=n) (hl:Nat.ble vs.length n=true)
 (hL:sub (((List.range vs.length).zip vs)) L) (k:∀ a,Sk a n L->c.wp P (bodyPost P fn R) a w):Calls P f vs.toArray w R:=by
 refine calls_of_wp hf hb (k _ (Sk.sub (L:=(List.range vs.length).zip vs) ?_ hL));subst hn;have hl':=Ax hl;refine⟨rfl,by simp;omega,λt v e=>?_⟩
 have key:∀ (l:List Vl) (o:Nat),sL ((List.range' o l.length).zip l) t=some v->o<=t/\l[t - o]?=some v:=by
  intro l
  induction l with
  | nil=>intro o h;cases h
  | cons x r ih=>
   intro o h;simp only[Am,Ds,List.zip_cons_cons,sL] at h
   cases hb:Nat.beq o t with
   | true=>
    have qa:o=t:=Nat.eq_of_beq_eq_true hb;subst qa;rw[hb] at h;simp only[cond_true,Option.some.injEq] at h;subst h;exact⟨Az _,by simp⟩
   | false=>
    rw[hb] at h;obtain⟨h1,h2⟩:=ih (o+1) h;refine⟨by omega,?_⟩;rw[show t - o=(t - (o+1))+1 by omega,List.getElem?_cons_succ];exact h2
 rw[List.range_eq_range'] at e;obtain⟨_,h2⟩:=key vs 0 e;rw[Ey] at h2;have h3:t<vs.length:=(Ac.1 h2).1;simp only[Ew,Array.getElem?_append,h3,if_true]
 simpa using h2
theorem oGz {fn:Func} {R:Ending->Wd->Prop} {a:Act} {w:Wd} (h:bodyPost P fn R .ret a w):bodyPost P fn R .normal a w:=h
end
end
section
open Go.RowKit
variable {α:Type} {ρ:Type} {σ:Type}
inductive Ctl (σ ρ:Type) where
  | go (s:σ)
  | brk (s:σ)
  | ret (r:ρ)
inductive Out (σ ρ:Type) where
  | nx (s:σ)
  | ret (r:ρ)
def ap (l m:List α):Option (List α):=if (l.length+m.length)*1024<=140737488355328 then some (l++m) else none
def sl (l:List α) (i j:Int):Option (List α):=if 0<=i/\i<=j/\j<=l.length then some ((l.take j.toNat).drop i.toNat) else none
def oZ (o:Option (Out σ ρ)) (k:σ->Option ρ):Option ρ:= match o with
 | none=>none
 | some (.nx s)=>k s
 | some (.ret r)=>some r
def xG {β:Type} (o:Option α) (k:α->Option β):Option β:= match o with
 | none=>none
 | some x=>k x
def oM {α σ ρ:Type} (body:Nat->α->σ->Option (Ctl σ ρ)):List α->Nat->σ->Option (Out σ ρ)
 | [],_,s=>some (.nx s)
 | x::r,k,s=>match body k x s with
  | none=>none
  | some (.go s')=>oM body r (k+1) s'
  | some (.brk s')=>some (.nx s')
  | some (.ret v)=>some (.ret v)
def qM {σ ρ:Type} (body:Nat->σ->Option (Ctl σ ρ)):Nat->Nat->σ->Option (Out σ ρ)
 | 0,_,s=>some (.nx s)
 | m+1,k,s=>match body k s with
  | none=>none
  | some (.go s')=>qM body m (k+1) s'
  | some (.brk s')=>some (.nx s')
  | some (.ret v)=>some (.ret v)
def mL {σ ρ:Type} (body:σ->Option (Ctl σ ρ)):Nat->σ->Option (Out σ ρ)
 | 0,_=>none
 | m+1,s=>match body s with
  | none=>none
  | some (.go s')=>mL body m s'
  | some (.brk s')=>some (.nx s')
  | some (.ret v)=>some (.ret v)
theorem oDh {l m r:List α} (h:ap l m=some r):(l.length+m.length)*1024<=140737488355328/\l++m=r:=by
 unfold ap at h
 split at h
 ·exact⟨by assumption,Option.some.inj h⟩
 ·cases h
theorem xIz {l r:List α} {i j:Int} (h:sl l i j=some r):0<=i/\i<=j/\j<=l.length/\(l.take j.toNat).drop i.toNat=r:=by
 unfold sl at h
 split at h
 ·rename_i h1
  exact⟨h1.1,h1.2.1,h1.2.2,Option.some.inj h⟩
 ·cases h
theorem bU {β:Type} {o:Option α} {k:α->Option β} {r:β} (h:xG o k=some r):∃ x,o=some x/\k x=some r:=by
 cases o with
 | none=>cases h
 | some x=>exact⟨x,rfl,h⟩
def oGs (k:σ->Option ρ) (r:ρ):Out σ ρ->Prop | .nx s=>k s=some r | .ret v=>v=r
theorem xKz {o:Option (Out σ ρ)} {k:σ->Option ρ} {r:ρ} (h:oZ o k=some r):∃ x,o=some x/\oGs k r x:=by
 cases o with
 | none=>cases h
 | some x=>
  cases x with
  | nx s=>exact⟨_,rfl,h⟩
  | ret v=>exact⟨_,rfl,Option.some.inj h⟩
def Nxt (k:σ->Option (Out σ ρ)) (r:Out σ ρ):Ctl σ ρ->Prop | .go s=>k s=some r | .brk s=>r= .nx s | .ret v=>r= .ret v
theorem xWc {body:Nat->α->σ->Option (Ctl σ ρ)} {x:α} {l:List α} {k:Nat} {s:σ} {r:Out σ ρ} (h:oM body (x::l) k s=some r) : ∃ c,body k x s=some c/\Nxt (oM body l (k+1)) r c:=by
 unfold oM at h
 cases hb:body k x s with
 | none=>simp [hb] at h
 | some c=>
  refine⟨c,rfl,?_⟩
  cases c<;>simp only[hb] at h
  ·exact h
  ·exact(Option.some.inj h).symm
  ·exact(Option.some.inj h).symm
theorem xWs {body:Nat->σ->Option (Ctl σ ρ)} {m k:Nat} {s:σ} {r:Out σ ρ} (h:qM body (m+1) k s=some r) : ∃ c,body k s=some c/\Nxt (qM body m (k+1)) r c:=by
 unfold qM at h
 cases hb:body k s with
 | none=>simp [hb] at h
 | some c=>
  refine⟨c,rfl,?_⟩
  cases c<;>simp only[hb] at h
  ·exact h
  ·exact(Option.some.inj h).symm
  ·exact(Option.some.inj h).symm
theorem xWj {body:σ->Option (Ctl σ ρ)} {m:Nat} {s:σ} {r:Out σ ρ} (h:mL body m s=some r) : ∃ c m',m=m'+1/\body s=some c/\Nxt (mL body m') r c:=by
 cases m with
 | zero=>cases h
 | succ m'=>
  unfold mL at h
  cases hb:body s with
  | none=>simp [hb] at h
  | some c=>
   refine⟨c,m',rfl,rfl,?_⟩
   cases c<;>simp only[hb] at h
   ·exact h
   ·exact(Option.some.inj h).symm
   ·exact(Option.some.inj h).symm
theorem xCi {l:List α} {k:Nat} {x:α} {t:List α} (e:l.drop k=x::t):k<l.length/\l[k]?=some x/\l.drop (k+1)=t:=by
 have h1:k<l.length:=by
  have:=congrArg List.length e
  simp at this
  omega
 rw[Br h1] at e
 injection e with e1 e2
 exact⟨h1,by rw[Aa h1,e1],e2⟩
theorem oIk {P:Program} {Q:Exit->Act->Wd->Prop} {a:Act} {w:Wd} {c:Code} (M:Act->Wd->Prop) (h:c.wp P (Exit.then M Q) a w) (k:∀ a w,M a w->Q .normal a w):c.wp P Q a w:= Code.wp_mono (λe a w q=>by cases e<;>first | exact k _ _ q | exact q) h
section
variable {P:Program} {ops:Array Oper} {C:Wd->Prop} {K:Act->Prop} {a:Act} {w:Wd} {n:Nat} {L:List (Nat×Vl)} {rest:List Oper} {d:Nat} {ty:Ty} {pos:String} {af:Array Edge} {g:Option (Nat×Bool)}
theorem oHw {Q:Exit->Act->Wd->Prop} {id:Nat} {l:List Oper} (hm:P.follows .mixedOrders=true) (qa:Region.lexB .any l.toArray=true) (h:wpQuiet P l.toArray (λw'=>Below w.heap.size w w') (λa'=>∀ w',Below w.heap.size w w'->Q .normal a' w') l a):(Code.region id l.toArray true).wp P Q a w:= wp_region_quiet (C:=λw'=>Below w.heap.size w w') hm qa (Below.refl _ _).drew (by simpa using h)
theorem oLc (h:K a):wpQuiet P ops C K [] a:=h
theorem pH {op:Op} {v:Vl} (F:Sk a n L) (hc:vO ops n L g d=true) (hr:∀ w,C w->(execOp a.eval ⟨some d,op,ty,pos,af,g⟩).run P w= .ok (.value v) w) (k:∀ a',Sk a' n ((d,v)::L)->wpQuiet P ops C K rest a'):wpQuiet P ops C K (⟨some d,op,ty,pos,af,g⟩::rest) a:=by
 unfold vO at hc
 rw[Ba] at hc
 unfold wpQuiet
 rw[if_pos (mE F (o:=⟨some d,op,ty,pos,af,g⟩) hc.1)];exact⟨v,λw hw=>by unfold Oper.quietAt;rw[hr w hw];exact⟨rfl,rfl⟩,k _ (F.put v hc.2)⟩
theorem oLj {x:Operand} {v:Value} (F:Sk a n L) (hc:vO ops n L g d=true) (e:ev L x=some v) (k:∀ a',Sk a' n ((d,v)::L)->wpQuiet P ops C K rest a'):wpQuiet P ops C K (⟨some d,.move x,ty,pos,af,g⟩::rest) a:=pH F hc (λw l=>yU F e) k
theorem oKg {x:Operand} {v:Value} (F:Sk a n L) (hc:vO ops n L g d=true) (e:ev L x=some v) (k:∀ a',Sk a' n ((d,v)::L)->wpQuiet P ops C K rest a'):wpQuiet P ops C K (⟨some d,.assign x,ty,pos,af,g⟩::rest) a:=pH F hc (λw l=>xEr F e) k
theorem oGn {x:Operand} {p:Addr} (F:Sk a n L) (hc:vO ops n L g d=true) (e:ev L x=some (.pointer (some p))) (k:∀ a',Sk a' n ((d,(.pointer (some p)))::L)->wpQuiet P ops C K rest a'):wpQuiet P ops C K (⟨some d,.nilCheck x,ty,pos,af,g⟩::rest) a:=pH F hc (λw l=>yY F e) k
theorem q_not {x:Operand} {t:TypeId} {b:Bool} (F:Sk a n L) (hc:vO ops n L g d=true) (e:ev L x=some (.bool b)) (k:∀ a',Sk a' n ((d,(.bool (!b)))::L)->wpQuiet P ops C K rest a'):wpQuiet P ops C K (⟨some d,.unOp .not t x,ty,pos,af,g⟩::rest) a:=pH F hc (λw l=>oFm F e) k
theorem oLh {x y z:Operand} {v:Value} (F:Sk a n L) (hc:vO ops n L g d=true) (e:ev L x=some (.bool true)) (e':ev L y=some v) (k:∀ a',Sk a' n ((d,v)::L)->wpQuiet P ops C K rest a'):wpQuiet P ops C K (⟨some d,.pick x y z,ty,pos,af,g⟩::rest) a:=pH F hc (λw l=>xUr F e e') k
theorem oLi {x y z:Operand} {v:Value} (F:Sk a n L) (hc:vO ops n L g d=true) (e:ev L x=some (.bool false)) (e':ev L z=some v) (k:∀ a',Sk a' n ((d,v)::L)->wpQuiet P ops C K rest a'):wpQuiet P ops C K (⟨some d,.pick x y z,ty,pos,af,g⟩::rest) a:=pH F hc (λw l=>xPg F e e') k
theorem q_no {op:Op} (F:Sk a n L) (hc:gno ops L g=true) (hd:Nat.blt d n=true) (k:∀ a',Sk a' n ((d,undef)::L)->wpQuiet P ops C K rest a'):wpQuiet P ops C K (⟨some d,op,ty,pos,af,g⟩::rest) a:=by
 unfold wpQuiet
 rw[if_neg (by rw[uK F (o:=⟨some d,op,ty,pos,af,g⟩) hc];exact Bool.false_ne_true)];exact k _ (F.put undef hd)
theorem oBd {f:FuncId} {xs:List Operand} {at':Array Ty} {vs:List Vl} {v:Vl} (F:Sk a n L) (hc:vO ops n L g d=true) (hf:∀ args w,(callFunc f args).run P w= .ok (.enter f args) w)
 (e:evs L xs=some vs) (hC:∀ w w',C w->Below w.heap.size w w'->C w') (cl:∀ w,C w->Calls P f vs.toArray w (xTv v w))
 (k:∀ a',Sk a' n ((d,v)::L)->wpQuiet P ops C K rest a') :
 wpQuiet P ops C K (⟨some d,.call ⟨.value (.func f),xs.toArray,at'⟩,ty,pos,af,g⟩::rest) a:=by
 unfold vO at hc
 rw[Ba] at hc
 unfold wpQuiet
 rw[if_pos (mE F (o:=⟨some d,.call ⟨.value (.func f),xs.toArray,at'⟩,ty,pos,af,g⟩) hc.1)];refine⟨v,λw hw=>?_,k _ (F.put v hc.2)⟩
 have hr:(execOp a.eval ⟨some d,.call ⟨.value (.func f),xs.toArray,at'⟩,ty,pos,af,g⟩).run P w= .ok (.enter f vs.toArray) w:=by
  have h1:execOp a.eval ⟨some d,.call ⟨.value (.func f),xs.toArray,at'⟩,ty,pos,af,g⟩=callFunc f (#[]++xs.toArray.map a.eval ++ #[]):=rfl;rw[h1,Di,F.evs e,Array.append_empty,Array.empty_append];exact hf _ _
 unfold Oper.quietAt
 rw[hr];exact⟨rfl,(cl w hw).mono λe w'' h=>⟨h.1,hC _ _ hw h.2⟩⟩
end
end
section
open Go.RowKit
variable {bs:List Nat} {v1:Vl} {b1:List Nat}
structure Rel where
  arity:Int
  tuples:List (List Int)
instance:Inhabited Rel:=⟨⟨0,[]⟩⟩
def oQ:ER Rel:=λw f x bs=>∃ v1:Vl,∃ b1:List Nat,f 0=some (.int .i64 x.arity)/\xL x.arity/\f 1=some v1/\Sl 1 wC w v1 x.tuples b1/\bs=b1
theorem oQ.fr:Fr 2 oQ:=by
 intro w w' f g x bs h hs hg;obtain⟨v1,b1,h0,k0,h1,k1,rfl⟩:=h;exact⟨v1,_,(hg 0 (by omega)).trans h0,k0,(hg 1 (by omega)).trans h1,k1.same wC.fr (λc hc=>hs c (by simp [hc])),rfl⟩
theorem oQ.open {w:Wd} {v:Vl} {x:Rel} (h:qS 2 oQ w v x bs):∃ v1:Vl,∃ b1:List Nat,v= .agg #[.int .i64 x.arity,v1]/\xL x.arity/\Sl 1 wC w v1 x.tuples b1/\bs=b1:=by
 obtain⟨cs,hl,rfl,v1,b1,h0,k0,h1,k1,rfl⟩:=h
 match cs,hl with
 | [c0,c1],_=>
  obtain rfl:=Option.some.inj h0;obtain rfl:=Option.some.inj h1;exact⟨_,_,rfl,k0,k1,rfl⟩
theorem oQ.mk' {w:Wd} {x:Rel} (h0:xL x.arity) (h1:Sl 1 wC w v1 x.tuples b1):qS 2 oQ w (.agg #[.int .i64 x.arity,v1]) x (b1):= ⟨[.int .i64 x.arity,v1],rfl,rfl,_,_,rfl,h0,rfl,h1,rfl⟩
structure A6 where
  size:Int
  rels:List Rel
instance:Inhabited A6:=⟨⟨0,[]⟩⟩
def xB:ER A6:=λw f x bs=>∃ v1:Vl,∃ b1:List Nat,f 0=some (.int .i64 x.size)/\xL x.size/\f 1=some v1/\Sl 2 oQ w v1 x.rels b1/\bs=b1
theorem xB.fr:Fr 2 xB:=by
 intro w w' f g x bs h hs hg;obtain⟨v1,b1,h0,k0,h1,k1,rfl⟩:=h;exact⟨v1,_,(hg 0 (by omega)).trans h0,k0,(hg 1 (by omega)).trans h1,k1.same oQ.fr (λc hc=>hs c (by simp [hc])),rfl⟩
theorem xB.open {w:Wd} {v:Vl} {x:A6} (h:qS 2 xB w v x bs):∃ v1:Vl,∃ b1:List Nat,v= .agg #[.int .i64 x.size,v1]/\xL x.size/\Sl 2 oQ w v1 x.rels b1/\bs=b1:=by
 obtain⟨cs,hl,rfl,v1,b1,h0,k0,h1,k1,rfl⟩:=h
 match cs,hl with
 | [c0,c1],_=>
  obtain rfl:=Option.some.inj h0;obtain rfl:=Option.some.inj h1;exact⟨_,_,rfl,k0,k1,rfl⟩
theorem xB.mk' {w:Wd} {x:A6} (h0:xL x.size) (h1:Sl 2 oQ w v1 x.rels b1):qS 2 xB w (.agg #[.int .i64 x.size,v1]) x (b1):= ⟨[.int .i64 x.size,v1],rfl,rfl,_,_,rfl,h0,rfl,h1,rfl⟩
structure Op where
  arity:Int
  table:List Int
def vU:ER Op:=λw f x bs=>∃ v1:Vl,∃ b1:List Nat,f 0=some (.int .i64 x.arity)/\xL x.arity/\f 1=some v1/\Sl 1 xF w v1 x.table b1/\bs=b1
theorem vU.fr:Fr 2 vU:=by
 intro w w' f g x bs h hs hg;obtain⟨v1,b1,h0,k0,h1,k1,rfl⟩:=h;exact⟨v1,_,(hg 0 (by omega)).trans h0,k0,(hg 1 (by omega)).trans h1,k1.same xF.fr (λc hc=>hs c (by simp [hc])),rfl⟩
theorem vU.open {w:Wd} {v:Vl} {x:Op} (h:qS 2 vU w v x bs):∃ v1:Vl,∃ b1:List Nat,v= .agg #[.int .i64 x.arity,v1]/\xL x.arity/\Sl 1 xF w v1 x.table b1/\bs=b1:=by
 obtain⟨cs,hl,rfl,v1,b1,h0,k0,h1,k1,rfl⟩:=h
 match cs,hl with
 | [c0,c1],_=>
  obtain rfl:=Option.some.inj h0;obtain rfl:=Option.some.inj h1;exact⟨_,_,rfl,k0,k1,rfl⟩
theorem vU.mk' {w:Wd} {x:Op} (h0:xL x.arity) (h1:Sl 1 xF w v1 x.table b1):qS 2 vU w (.agg #[.int .i64 x.arity,v1]) x (b1):= ⟨[.int .i64 x.arity,v1],rfl,rfl,_,_,rfl,h0,rfl,h1,rfl⟩
structure Con where
  rel:Int
  scope:List Int
instance:Inhabited Con:=⟨⟨0,[]⟩⟩
def vS:ER Con:=λw f x bs=>∃ v1:Vl,∃ b1:List Nat,f 0=some (.int .i64 x.rel)/\xL x.rel/\f 1=some v1/\Sl 1 xF w v1 x.scope b1/\bs=b1
theorem vS.fr:Fr 2 vS:=by
 intro w w' f g x bs h hs hg;obtain⟨v1,b1,h0,k0,h1,k1,rfl⟩:=h;exact⟨v1,_,(hg 0 (by omega)).trans h0,k0,(hg 1 (by omega)).trans h1,k1.same xF.fr (λc hc=>hs c (by simp [hc])),rfl⟩
theorem vS.open {w:Wd} {v:Vl} {x:Con} (h:qS 2 vS w v x bs):∃ v1:Vl,∃ b1:List Nat,v= .agg #[.int .i64 x.rel,v1]/\xL x.rel/\Sl 1 xF w v1 x.scope b1/\bs=b1:=by
 obtain⟨cs,hl,rfl,v1,b1,h0,k0,h1,k1,rfl⟩:=h
 match cs,hl with
 | [c0,c1],_=>
  obtain rfl:=Option.some.inj h0;obtain rfl:=Option.some.inj h1;exact⟨_,_,rfl,k0,k1,rfl⟩
theorem vS.mk' {w:Wd} {x:Con} (h0:xL x.rel) (h1:Sl 1 xF w v1 x.scope b1):qS 2 vS w (.agg #[.int .i64 x.rel,v1]) x (b1):= ⟨[.int .i64 x.rel,v1],rfl,rfl,_,_,rfl,h0,rfl,h1,rfl⟩
structure A7 where
  vars:Int
  cons:List Con
instance:Inhabited A7:=⟨⟨0,[]⟩⟩
def xH:ER A7:=λw f x bs=>∃ v1:Vl,∃ b1:List Nat,f 0=some (.int .i64 x.vars)/\xL x.vars/\f 1=some v1/\Sl 2 vS w v1 x.cons b1/\bs=b1
theorem xH.fr:Fr 2 xH:=by
 intro w w' f g x bs h hs hg;obtain⟨v1,b1,h0,k0,h1,k1,rfl⟩:=h;exact⟨v1,_,(hg 0 (by omega)).trans h0,k0,(hg 1 (by omega)).trans h1,k1.same vS.fr (λc hc=>hs c (by simp [hc])),rfl⟩
theorem xH.open {w:Wd} {v:Vl} {x:A7} (h:qS 2 xH w v x bs):∃ v1:Vl,∃ b1:List Nat,v= .agg #[.int .i64 x.vars,v1]/\xL x.vars/\Sl 2 vS w v1 x.cons b1/\bs=b1:=by
 obtain⟨cs,hl,rfl,v1,b1,h0,k0,h1,k1,rfl⟩:=h
 match cs,hl with
 | [c0,c1],_=>
  obtain rfl:=Option.some.inj h0;obtain rfl:=Option.some.inj h1;exact⟨_,_,rfl,k0,k1,rfl⟩
theorem xH.mk' {w:Wd} {x:A7} (h0:xL x.vars) (h1:Sl 2 vS w v1 x.cons b1):qS 2 xH w (.agg #[.int .i64 x.vars,v1]) x (b1):= ⟨[.int .i64 x.vars,v1],rfl,rfl,_,_,rfl,h0,rfl,h1,rfl⟩
structure B3 where
  var:Int
  value:Int
  con:Int
def oD:ER B3:=λw f x bs=>f 0=some (.int .i64 x.var)/\xL x.var/\f 1=some (.int .i64 x.value)/\xL x.value/\f 2=some (.int .i64 x.con)/\xL x.con/\bs=[]
theorem oD.fr:Fr 3 oD:=by
 intro w w' f g x bs h _ hg;obtain⟨h0,k0,h1,k1,h2,k2,rfl⟩:=h;exact⟨(hg 0 (by omega)).trans h0,k0,(hg 1 (by omega)).trans h1,k1,(hg 2 (by omega)).trans h2,k2,rfl⟩
theorem oD.mk' {w:Wd} {x:B3}  (h0:xL x.var) (h1:xL x.value) (h2:xL x.con):qS 3 oD w (.agg #[.int .i64 x.var,.int .i64 x.value,.int .i64 x.con]) x ([]):= ⟨[.int .i64 x.var,.int .i64 x.value,.int .i64 x.con],rfl,rfl,rfl,h0,rfl,h1,rfl,h2,rfl⟩
structure B2 where
  i:Int
  j:Int
  through:Int
def xP:ER B2:=λw f x bs=>f 0=some (.int .i64 x.i)/\xL x.i/\f 1=some (.int .i64 x.j)/\xL x.j/\f 2=some (.int .i64 x.through)/\xL x.through/\bs=[]
theorem xP.fr:Fr 3 xP:=by
 intro w w' f g x bs h _ hg;obtain⟨h0,k0,h1,k1,h2,k2,rfl⟩:=h;exact⟨(hg 0 (by omega)).trans h0,k0,(hg 1 (by omega)).trans h1,k1,(hg 2 (by omega)).trans h2,k2,rfl⟩
theorem xP.open {w:Wd} {v:Vl} {x:B2} (h:qS 3 xP w v x bs):v= .agg #[.int .i64 x.i,.int .i64 x.j,.int .i64 x.through]/\xL x.i/\xL x.j/\xL x.through/\bs=[]:=by
 obtain⟨cs,hl,rfl,h0,k0,h1,k1,h2,k2,rfl⟩:=h
 match cs,hl with
 | [c0,c1,c2],_=>
  obtain rfl:=Option.some.inj h0;obtain rfl:=Option.some.inj h1;obtain rfl:=Option.some.inj h2;exact⟨rfl,k0,k1,k2,rfl⟩
theorem xP.mk' {w:Wd} {x:B2}  (h0:xL x.i) (h1:xL x.j) (h2:xL x.through):qS 3 xP w (.agg #[.int .i64 x.i,.int .i64 x.j,.int .i64 x.through]) x ([]):= ⟨[.int .i64 x.i,.int .i64 x.j,.int .i64 x.through],rfl,rfl,rfl,h0,rfl,h1,rfl,h2,rfl⟩
structure B0 where
  kind:Int
  values:List Int
  arcs:List B3
  pairs:List B2
  numbers:List Int
def kM:ER B0:=λw f x bs=>∃ v1 v2 v3 v4:Vl,∃ b1 b2 b3 b4:List Nat,f 0=some (.int .i64 x.kind)/\xL x.kind/\f 1=some v1/\Sl 1 xF w v1 x.values b1/\f 2=some v2/\Sl 3 oD w v2 x.arcs b2/\f 3=some v3/\Sl 3 xP w v3 x.pairs b3/\f 4=some v4/\Sl 1 xF w v4 x.numbers b4/\bs=b1++b2++b3++b4
theorem kM.fr:Fr 5 kM:=by
 intro w w' f g x bs h hs hg;obtain⟨v1,v2,v3,v4,b1,b2,b3,b4,h0,k0,h1,k1,h2,k2,h3,k3,h4,k4,rfl⟩:=h;exact⟨v1,v2,v3,v4,_,_,_,_,(hg 0 (by omega)).trans h0,k0,(hg 1 (by omega)).trans h1,k1.same xF.fr (λc hc=>hs c (by simp [hc])),(hg 2 (by omega)).trans h2,k2.same oD.fr (λc hc=>hs c (by simp [hc])),(hg 3 (by omega)).trans h3,k3.same xP.fr (λc hc=>hs c (by simp [hc])),(hg 4 (by omega)).trans h4,k4.same xF.fr (λc hc=>hs c (by simp [hc])),rfl⟩
theorem kM.mk' {w:Wd} {x:B0} {v2:Vl} {b2:List Nat} {v3:Vl} {b3:List Nat} {v4:Vl} {b4:List Nat} (h0:xL x.kind) (h1:Sl 1 xF w v1 x.values b1) (h2:Sl 3 oD w v2 x.arcs b2) (h3:Sl 3 xP w v3 x.pairs b3) (h4:Sl 1 xF w v4 x.numbers b4):qS 5 kM w (.agg #[.int .i64 x.kind,v1,v2,v3,v4]) x (b1++b2++b3++b4):= ⟨[.int .i64 x.kind,v1,v2,v3,v4],rfl,rfl,_,_,_,_,_,_,_,_,rfl,h0,rfl,h1,rfl,h2,rfl,h3,rfl,h4,rfl⟩
structure A8 where
  left:List Int
  right:Int
def xJ:ER A8:=λw f x bs=>∃ v0:Vl,∃ b0:List Nat,f 0=some v0/\Sl 1 xF w v0 x.left b0/\f 1=some (.int .i64 x.right)/\xL x.right/\bs=b0
theorem xJ.fr:Fr 2 xJ:=by
 intro w w' f g x bs h hs hg;obtain⟨v0,b0,h0,k0,h1,k1,rfl⟩:=h;exact⟨v0,_,(hg 0 (by omega)).trans h0,k0.same xF.fr (λc hc=>hs c (by simp [hc])),(hg 1 (by omega)).trans h1,k1,rfl⟩
theorem xJ.open {w:Wd} {v:Vl} {x:A8} (h:qS 2 xJ w v x bs):∃ v0:Vl,∃ b0:List Nat,v= .agg #[v0,.int .i64 x.right]/\Sl 1 xF w v0 x.left b0/\xL x.right/\bs=b0:=by
 obtain⟨cs,hl,rfl,v0,b0,h0,k0,h1,k1,rfl⟩:=h
 match cs,hl with
 | [c0,c1],_=>
  obtain rfl:=Option.some.inj h0;obtain rfl:=Option.some.inj h1;exact⟨_,_,rfl,k0,k1,rfl⟩
theorem xJ.mk' {w:Wd} {x:A8} {v0:Vl} {b0:List Nat} (h0:Sl 1 xF w v0 x.left b0) (h1:xL x.right):qS 2 xJ w (.agg #[v0,.int .i64 x.right]) x (b0):= ⟨[v0,.int .i64 x.right],rfl,rfl,_,_,rfl,h0,rfl,h1,rfl⟩
end
section
open Go.RowKit
variable {v1:Vl} {b1:List Nat} {bs:List Nat} {T:Ty} {y:B2} {f:Nat->Option Vl}
theorem jO {n:Nat} (h:∀ j,j<n->∃ v:Vl,f j=some v/\v.oneCell'=true) {u:Vl} (e:f n=some u) (hu:u.oneCell'=true):∀ j,j<n+1->∃ v:Vl,f j=some v/\v.oneCell'=true:=λj hj=>by
 by_cases qa:j=n
 ·subst qa;exact⟨u,e,hu⟩
 ·exact h j (by omega)
theorem xEb:∀ j,j<0->∃ v:Vl,f j=some v/\v.oneCell'=true:=λj hj=>by omega
theorem Sl.one {α:Type} {sz:Nat} {R:ER α} {w:Wd} {v:Vl} {l:List α} (h:Sl sz R w v l bs):v.oneCell'=true:=by obtain⟨a,c,rfl⟩:=h.val;rfl
instance:FrC 2 oQ:=⟨oQ.fr,λw f x bs h=>by
 obtain⟨v1,b1,h0,k0,h1,k1,hbs⟩:=h
 exact(jO (jO xEb h0 rfl) h1 k1.one)⟩
theorem oQ.f0 {w:Wd} {y:Rel}:∀ f bi,oQ w f y bi->∃ bj,xF w (λj=>f (0+j)) y.arity bj/\∀ c∈bj,c∈bi:=λf bi h=>by
 obtain⟨v1,b1,h0,k0,h1,k1,hbs⟩:=h;exact⟨[],⟨by simpa using h0,k0,rfl⟩,λc hc=>nomatch hc⟩
theorem oQ.f1 {w:Wd} {y:Rel}:∀ f bi,oQ w f y bi->∃ bj,(kP 1 wC) w (λj=>f (1+j)) y.tuples bj/\∀ c∈bj,c∈bi:=λf bi h=>by
 obtain⟨v1,b1,h0,k0,h1,k1,qa⟩:=h;exact⟨b1,⟨v1,by simpa using h1,k1⟩,λc hc=>by rw[qa];simp [hc]⟩
theorem oQ.rd {w:Wd} {v:Vl} {x:Rel} (h:Rd (qS 2 oQ) w v x bs):∃ v1:Vl,∃ b1:List Nat,v= .agg #[.int .i64 x.arity,v1]/\xL x.arity/\Rd (Sl 1 wC) w v1 x.tuples b1/\bs=b1:=by
 obtain⟨v1,b1,e,k0,k1,qa⟩:=oQ.open h.r;exact⟨v1,b1,e,k0,⟨k1,λc hc=>h.m c (by rw[qa];simp [hc])⟩,qa⟩
theorem oQ.mk2 {w:Wd} {f0:Int} {f1:List (List Int)} (h0:xL f0) (h1:Rd (Sl 1 wC) w v1 f1 b1):Rd (qS 2 oQ) w (.agg #[.int .i64 f0,v1]) (Rel.mk f0 f1) (b1):= ⟨oQ.mk' (x:=⟨f0,f1⟩) h0 h1.r,h1.m⟩
instance:FrC 2 xB:=⟨xB.fr,λw f x bs h=>by
 obtain⟨v1,b1,h0,k0,h1,k1,hbs⟩:=h
 exact(jO (jO xEb h0 rfl) h1 k1.one)⟩
theorem xB.f0 {w:Wd} {y:A6}:∀ f bi,xB w f y bi->∃ bj,xF w (λj=>f (0+j)) y.size bj/\∀ c∈bj,c∈bi:=λf bi h=>by
 obtain⟨v1,b1,h0,k0,h1,k1,hbs⟩:=h;exact⟨[],⟨by simpa using h0,k0,rfl⟩,λc hc=>nomatch hc⟩
theorem xB.f1 {w:Wd} {y:A6}:∀ f bi,xB w f y bi->∃ bj,(kP 2 oQ) w (λj=>f (1+j)) y.rels bj/\∀ c∈bj,c∈bi:=λf bi h=>by
 obtain⟨v1,b1,h0,k0,h1,k1,qa⟩:=h;exact⟨b1,⟨v1,by simpa using h1,k1⟩,λc hc=>by rw[qa];simp [hc]⟩
theorem xB.rd {w:Wd} {v:Vl} {x:A6} (h:Rd (qS 2 xB) w v x bs):∃ v1:Vl,∃ b1:List Nat,v= .agg #[.int .i64 x.size,v1]/\xL x.size/\Rd (Sl 2 oQ) w v1 x.rels b1/\bs=b1:=by
 obtain⟨v1,b1,e,k0,k1,qa⟩:=xB.open h.r;exact⟨v1,b1,e,k0,⟨k1,λc hc=>h.m c (by rw[qa];simp [hc])⟩,qa⟩
theorem xB.mk2 {w:Wd} {f0:Int} {f1:List Rel} (h0:xL f0) (h1:Rd (Sl 2 oQ) w v1 f1 b1):Rd (qS 2 xB) w (.agg #[.int .i64 f0,v1]) (A6.mk f0 f1) (b1):= ⟨xB.mk' (x:=⟨f0,f1⟩) h0 h1.r,h1.m⟩
theorem xB.blk {w:Wd} {b:Nat} {f0:Int} {f1:List Rel} (K:nA w b #[.int .i64 f0,v1] T) (h0:xL f0) (h1:Rd (Sl 2 oQ) w v1 f1 b1):Rd (Pt 2 xB) w (.pointer (some ⟨b,0,none⟩)) (A6.mk f0 f1) (b::(b1)):=by
 have hm:zW (b1) w:=h1.m;refine⟨⟨b,0,_,rfl,rfl,_,_,(K.cell (0+0)).trans rfl,h0,(K.cell (0+1)).trans rfl,h1.r,rfl⟩,λc hc=>?_⟩
 rcases Av.1 hc with rfl | hc
 ·exact K.lt
 ·exact hm c hc
instance:FrC 2 vU:=⟨vU.fr,λw f x bs h=>by
 obtain⟨v1,b1,h0,k0,h1,k1,hbs⟩:=h
 exact(jO (jO xEb h0 rfl) h1 k1.one)⟩
theorem vU.f0 {w:Wd} {y:Op}:∀ f bi,vU w f y bi->∃ bj,xF w (λj=>f (0+j)) y.arity bj/\∀ c∈bj,c∈bi:=λf bi h=>by
 obtain⟨v1,b1,h0,k0,h1,k1,hbs⟩:=h;exact⟨[],⟨by simpa using h0,k0,rfl⟩,λc hc=>nomatch hc⟩
theorem vU.f1 {w:Wd} {y:Op}:∀ f bi,vU w f y bi->∃ bj,(kP 1 xF) w (λj=>f (1+j)) y.table bj/\∀ c∈bj,c∈bi:=λf bi h=>by
 obtain⟨v1,b1,h0,k0,h1,k1,qa⟩:=h;exact⟨b1,⟨v1,by simpa using h1,k1⟩,λc hc=>by rw[qa];simp [hc]⟩
theorem vU.rd {w:Wd} {v:Vl} {x:Op} (h:Rd (qS 2 vU) w v x bs):∃ v1:Vl,∃ b1:List Nat,v= .agg #[.int .i64 x.arity,v1]/\xL x.arity/\Rd (Sl 1 xF) w v1 x.table b1/\bs=b1:=by
 obtain⟨v1,b1,e,k0,k1,qa⟩:=vU.open h.r;exact⟨v1,b1,e,k0,⟨k1,λc hc=>h.m c (by rw[qa];simp [hc])⟩,qa⟩
theorem vU.mk2 {w:Wd} {f0:Int} {f1:List Int} (h0:xL f0) (h1:Rd (Sl 1 xF) w v1 f1 b1):Rd (qS 2 vU) w (.agg #[.int .i64 f0,v1]) (Op.mk f0 f1) (b1):= ⟨vU.mk' (x:=⟨f0,f1⟩) h0 h1.r,h1.m⟩
theorem vU.blk {w:Wd} {b:Nat} {f0:Int} {f1:List Int} (K:nA w b #[.int .i64 f0,v1] T) (h0:xL f0) (h1:Rd (Sl 1 xF) w v1 f1 b1):Rd (Pt 2 vU) w (.pointer (some ⟨b,0,none⟩)) (Op.mk f0 f1) (b::(b1)):=by
 have hm:zW (b1) w:=h1.m;refine⟨⟨b,0,_,rfl,rfl,_,_,(K.cell (0+0)).trans rfl,h0,(K.cell (0+1)).trans rfl,h1.r,rfl⟩,λc hc=>?_⟩
 rcases Av.1 hc with rfl | hc
 ·exact K.lt
 ·exact hm c hc
instance:FrC 2 vS:=⟨vS.fr,λw f x bs h=>by
 obtain⟨v1,b1,h0,k0,h1,k1,hbs⟩:=h
 exact(jO (jO xEb h0 rfl) h1 k1.one)⟩
theorem vS.f0 {w:Wd} {y:Con}:∀ f bi,vS w f y bi->∃ bj,xF w (λj=>f (0+j)) y.rel bj/\∀ c∈bj,c∈bi:=λf bi h=>by
 obtain⟨v1,b1,h0,k0,h1,k1,hbs⟩:=h;exact⟨[],⟨by simpa using h0,k0,rfl⟩,λc hc=>nomatch hc⟩
theorem vS.f1 {w:Wd} {y:Con}:∀ f bi,vS w f y bi->∃ bj,(kP 1 xF) w (λj=>f (1+j)) y.scope bj/\∀ c∈bj,c∈bi:=λf bi h=>by
 obtain⟨v1,b1,h0,k0,h1,k1,qa⟩:=h;exact⟨b1,⟨v1,by simpa using h1,k1⟩,λc hc=>by rw[qa];simp [hc]⟩
theorem vS.rd {w:Wd} {v:Vl} {x:Con} (h:Rd (qS 2 vS) w v x bs):∃ v1:Vl,∃ b1:List Nat,v= .agg #[.int .i64 x.rel,v1]/\xL x.rel/\Rd (Sl 1 xF) w v1 x.scope b1/\bs=b1:=by
 obtain⟨v1,b1,e,k0,k1,qa⟩:=vS.open h.r;exact⟨v1,b1,e,k0,⟨k1,λc hc=>h.m c (by rw[qa];simp [hc])⟩,qa⟩
theorem vS.mk2 {w:Wd} {f0:Int} {f1:List Int} (h0:xL f0) (h1:Rd (Sl 1 xF) w v1 f1 b1):Rd (qS 2 vS) w (.agg #[.int .i64 f0,v1]) (Con.mk f0 f1) (b1):= ⟨vS.mk' (x:=⟨f0,f1⟩) h0 h1.r,h1.m⟩
theorem vS.blk {w:Wd} {b:Nat} {f0:Int} {f1:List Int} (K:nA w b #[.int .i64 f0,v1] T) (h0:xL f0) (h1:Rd (Sl 1 xF) w v1 f1 b1):Rd (Pt 2 vS) w (.pointer (some ⟨b,0,none⟩)) (Con.mk f0 f1) (b::(b1)):=by
 have hm:zW (b1) w:=h1.m;refine⟨⟨b,0,_,rfl,rfl,_,_,(K.cell (0+0)).trans rfl,h0,(K.cell (0+1)).trans rfl,h1.r,rfl⟩,λc hc=>?_⟩
 rcases Av.1 hc with rfl | hc
 ·exact K.lt
 ·exact hm c hc
instance:FrC 2 xH:=⟨xH.fr,λw f x bs h=>by
 obtain⟨v1,b1,h0,k0,h1,k1,hbs⟩:=h
 exact(jO (jO xEb h0 rfl) h1 k1.one)⟩
theorem xH.f0 {w:Wd} {y:A7}:∀ f bi,xH w f y bi->∃ bj,xF w (λj=>f (0+j)) y.vars bj/\∀ c∈bj,c∈bi:=λf bi h=>by
 obtain⟨v1,b1,h0,k0,h1,k1,hbs⟩:=h;exact⟨[],⟨by simpa using h0,k0,rfl⟩,λc hc=>nomatch hc⟩
theorem xH.f1 {w:Wd} {y:A7}:∀ f bi,xH w f y bi->∃ bj,(kP 2 vS) w (λj=>f (1+j)) y.cons bj/\∀ c∈bj,c∈bi:=λf bi h=>by
 obtain⟨v1,b1,h0,k0,h1,k1,qa⟩:=h;exact⟨b1,⟨v1,by simpa using h1,k1⟩,λc hc=>by rw[qa];simp [hc]⟩
theorem xH.rd {w:Wd} {v:Vl} {x:A7} (h:Rd (qS 2 xH) w v x bs):∃ v1:Vl,∃ b1:List Nat,v= .agg #[.int .i64 x.vars,v1]/\xL x.vars/\Rd (Sl 2 vS) w v1 x.cons b1/\bs=b1:=by
 obtain⟨v1,b1,e,k0,k1,qa⟩:=xH.open h.r;exact⟨v1,b1,e,k0,⟨k1,λc hc=>h.m c (by rw[qa];simp [hc])⟩,qa⟩
theorem xH.mk2 {w:Wd} {f0:Int} {f1:List Con} (h0:xL f0) (h1:Rd (Sl 2 vS) w v1 f1 b1):Rd (qS 2 xH) w (.agg #[.int .i64 f0,v1]) (A7.mk f0 f1) (b1):= ⟨xH.mk' (x:=⟨f0,f1⟩) h0 h1.r,h1.m⟩
theorem xH.blk {w:Wd} {b:Nat} {f0:Int} {f1:List Con} (K:nA w b #[.int .i64 f0,v1] T) (h0:xL f0) (h1:Rd (Sl 2 vS) w v1 f1 b1):Rd (Pt 2 xH) w (.pointer (some ⟨b,0,none⟩)) (A7.mk f0 f1) (b::(b1)):=by
 have hm:zW (b1) w:=h1.m;refine⟨⟨b,0,_,rfl,rfl,_,_,(K.cell (0+0)).trans rfl,h0,(K.cell (0+1)).trans rfl,h1.r,rfl⟩,λc hc=>?_⟩
 rcases Av.1 hc with rfl | hc
 ·exact K.lt
 ·exact hm c hc
instance:FrC 3 oD:=⟨oD.fr,λw f x bs h=>by
 obtain⟨h0,k0,h1,k1,h2,k2,hbs⟩:=h
 exact(jO (jO (jO xEb h0 rfl) h1 rfl) h2 rfl)⟩
theorem oD.mk2 {w:Wd} {f0:Int} {f1:Int} {f2:Int}  (h0:xL f0) (h1:xL f1) (h2:xL f2):Rd (qS 3 oD) w (.agg #[.int .i64 f0,.int .i64 f1,.int .i64 f2]) (B3.mk f0 f1 f2) ([]):= ⟨oD.mk' (x:=⟨f0,f1,f2⟩) h0 h1 h2,zW.nil w⟩
instance:FrC 3 xP:=⟨xP.fr,λw f x bs h=>by
 obtain⟨h0,k0,h1,k1,h2,k2,hbs⟩:=h
 exact(jO (jO (jO xEb h0 rfl) h1 rfl) h2 rfl)⟩
theorem xP.f0 {w:Wd}:∀ f bi,xP w f y bi->∃ bj,xF w (λj=>f (0+j)) y.i bj/\∀ c∈bj,c∈bi:=λf bi h=>by
 obtain⟨h0,k0,h1,k1,h2,k2,hbs⟩:=h;exact⟨[],⟨by simpa using h0,k0,rfl⟩,λc hc=>nomatch hc⟩
theorem xP.f1 {w:Wd}:∀ f bi,xP w f y bi->∃ bj,xF w (λj=>f (1+j)) y.j bj/\∀ c∈bj,c∈bi:=λf bi h=>by
 obtain⟨h0,k0,h1,k1,h2,k2,hbs⟩:=h;exact⟨[],⟨by simpa using h1,k1,rfl⟩,λc hc=>nomatch hc⟩
theorem xP.f2 {w:Wd}:∀ f bi,xP w f y bi->∃ bj,xF w (λj=>f (2+j)) y.through bj/\∀ c∈bj,c∈bi:=λf bi h=>by
 obtain⟨h0,k0,h1,k1,h2,k2,hbs⟩:=h;exact⟨[],⟨by simpa using h2,k2,rfl⟩,λc hc=>nomatch hc⟩
theorem xP.rd {w:Wd} {v:Vl} {x:B2} (h:Rd (qS 3 xP) w v x bs):v= .agg #[.int .i64 x.i,.int .i64 x.j,.int .i64 x.through]/\xL x.i/\xL x.j/\xL x.through/\bs=[]:=by
 obtain⟨e,k0,k1,k2,qa⟩:=xP.open h.r;exact⟨e,k0,k1,k2,qa⟩
theorem xP.mk2 {w:Wd} {f0:Int} {f1:Int} {f2:Int}  (h0:xL f0) (h1:xL f1) (h2:xL f2):Rd (qS 3 xP) w (.agg #[.int .i64 f0,.int .i64 f1,.int .i64 f2]) (B2.mk f0 f1 f2) ([]):= ⟨xP.mk' (x:=⟨f0,f1,f2⟩) h0 h1 h2,zW.nil w⟩
theorem xP.blk {w:Wd} {b:Nat} {f0:Int} {f1:Int} {f2:Int}  (K:nA w b #[.int .i64 f0,.int .i64 f1,.int .i64 f2] T) (h0:xL f0) (h1:xL f1) (h2:xL f2):Rd (Pt 3 xP) w (.pointer (some ⟨b,0,none⟩)) (B2.mk f0 f1 f2) (b::([])):=by
 have hm:zW ([]) w:=zW.nil w;refine⟨⟨b,0,_,rfl,rfl,(K.cell (0+0)).trans rfl,h0,(K.cell (0+1)).trans rfl,h1,(K.cell (0+2)).trans rfl,h2,rfl⟩,λc hc=>?_⟩
 rcases Av.1 hc with rfl | hc
 ·exact K.lt
 ·exact hm c hc
instance:FrC 5 kM:=⟨kM.fr,λw f x bs h=>by
 obtain⟨v1,v2,v3,v4,b1,b2,b3,b4,h0,k0,h1,k1,h2,k2,h3,k3,h4,k4,hbs⟩:=h
 exact(jO (jO (jO (jO (jO xEb h0 rfl) h1 k1.one) h2 k2.one) h3 k3.one) h4 k4.one)⟩
theorem kM.mk2 {w:Wd} {f0:Int} {f1:List Int} {f2:List B3} {f3:List B2} {f4:List Int} {v2:Vl} {b2:List Nat} {v3:Vl} {b3:List Nat} {v4:Vl} {b4:List Nat} (h0:xL f0) (h1:Rd (Sl 1 xF) w v1 f1 b1) (h2:Rd (Sl 3 oD) w v2 f2 b2) (h3:Rd (Sl 3 xP) w v3 f3 b3) (h4:Rd (Sl 1 xF) w v4 f4 b4):Rd (qS 5 kM) w (.agg #[.int .i64 f0,v1,v2,v3,v4]) (B0.mk f0 f1 f2 f3 f4) (b1++b2++b3++b4):= ⟨kM.mk' (x:=⟨f0,f1,f2,f3,f4⟩) h0 h1.r h2.r h3.r h4.r,(((h1.m).append h2.m).append h3.m).append h4.m⟩
instance:FrC 2 xJ:=⟨xJ.fr,λw f x bs h=>by
 obtain⟨v0,b0,h0,k0,h1,k1,hbs⟩:=h
 exact(jO (jO xEb h0 k0.one) h1 rfl)⟩
theorem xJ.f0 {w:Wd} {y:A8}:∀ f bi,xJ w f y bi->∃ bj,(kP 1 xF) w (λj=>f (0+j)) y.left bj/\∀ c∈bj,c∈bi:=λf bi h=>by
 obtain⟨v0,b0,h0,k0,h1,k1,qa⟩:=h;exact⟨b0,⟨v0,by simpa using h0,k0⟩,λc hc=>by rw[qa];simp [hc]⟩
theorem xJ.f1 {w:Wd} {y:A8}:∀ f bi,xJ w f y bi->∃ bj,xF w (λj=>f (1+j)) y.right bj/\∀ c∈bj,c∈bi:=λf bi h=>by
 obtain⟨v0,b0,h0,k0,h1,k1,hbs⟩:=h;exact⟨[],⟨by simpa using h1,k1,rfl⟩,λc hc=>nomatch hc⟩
theorem xJ.rd {w:Wd} {v:Vl} {x:A8} (h:Rd (qS 2 xJ) w v x bs):∃ v0:Vl,∃ b0:List Nat,v= .agg #[v0,.int .i64 x.right]/\Rd (Sl 1 xF) w v0 x.left b0/\xL x.right/\bs=b0:=by
 obtain⟨v0,b0,e,k0,k1,qa⟩:=xJ.open h.r;exact⟨v0,b0,e,⟨k0,λc hc=>h.m c (by rw[qa];simp [hc])⟩,k1,qa⟩
theorem xJ.mk2 {w:Wd} {f0:List Int} {f1:Int} {v0:Vl} {b0:List Nat} (h0:Rd (Sl 1 xF) w v0 f0 b0) (h1:xL f1):Rd (qS 2 xJ) w (.agg #[v0,.int .i64 f1]) (A8.mk f0 f1) (b0):= ⟨xJ.mk' (x:=⟨f0,f1⟩) h0.r h1,h0.m⟩
theorem xJ.blk {w:Wd} {b:Nat} {f0:List Int} {f1:Int} {v0:Vl} {b0:List Nat} (K:nA w b #[v0,.int .i64 f1] T) (h0:Rd (Sl 1 xF) w v0 f0 b0) (h1:xL f1):Rd (Pt 2 xJ) w (.pointer (some ⟨b,0,none⟩)) (A8.mk f0 f1) (b::(b0)):=by
 have hm:zW (b0) w:=h0.m;refine⟨⟨b,0,_,rfl,rfl,_,_,(K.cell (0+0)).trans rfl,h0.r,(K.cell (0+1)).trans rfl,h1,rfl⟩,λc hc=>?_⟩
 rcases Av.1 hc with rfl | hc
 ·exact K.lt
 ·exact hm c hc
theorem oGg {w:Wd} {b:Nat} {x:Int} (K:nA w b #[.int .i64 x] T) (h:xL x):Rd (Pt 1 xF) w (.pointer (some ⟨b,0,none⟩)) x [b]:= ⟨⟨b,0,[],rfl,rfl,(K.cell (0+0)).trans rfl,h,rfl⟩,λc hc=>by rw[Bd] at hc;subst hc;exact K.lt⟩
theorem oHb {α:Type} {sz:Nat} {R:ER α} {w:Wd} {b:Nat} {v:Vl} {x:List α} (K:nA w b #[v] T) (h:Rd (Sl sz R) w v x bs):Rd (Pt 1 (kP sz R)) w (.pointer (some ⟨b,0,none⟩)) x (b::bs):= ⟨⟨b,0,_,rfl,rfl,v,(K.cell (0+0)).trans rfl,h.r⟩,λc hc=>by
 rcases Av.1 hc with rfl | hc
 ·exact K.lt
 ·exact h.m c hc⟩
end
section
open Go.RowKit
theorem sn {L:List (Nat×Vl)}:sub L []:=trivial
theorem sc {L M:List (Nat×Vl)} {t:Nat} {v:Vl} (h:sL L t=some v) (k:sub L M):sub L ((t,v)::M):=⟨h,k⟩
theorem oHm {α:Type} {l:List α} {k:Nat} {x:α} (h:l[k]?=some x):ix l (k:Int)=some x:=by
 unfold ix;rw[if_pos (by omega)];simpa using h
theorem xX {k n:Nat} (h:k<n):decide ((k:Int)<(n:Int))=true:=by simp;omega
theorem oU {k n:Nat} (h:(k:Int)=(n:Int)):decide ((k:Int)<(n:Int))=false:=by simp;omega
theorem dS {k n:Nat} (h:k<=n) (hn:xL (n:Int)):xL (k:Int):=⟨by omega,by have:=hn.2;omega⟩
theorem qG {k n:Nat} (h:k<n) (hn:xL (n:Int)):xL ((k+1:Nat):Int):=⟨by omega,by have:=hn.2;omega⟩
theorem Rd.nil {α:Type} (sz:Nat) (R:ER α) (w:Wd):Rd (Sl sz R) w (.slice none 0 0) [] []:=⟨Sl.nil sz R w,zW.nil w⟩
theorem Calls.some {P:Program} {f:FuncId} {args:Array Vl} {w:Wd} {R:Ending->Wd->Prop} (h:Calls P f args w R):∃ e w',R e w':=let ⟨e,w',_,h1,_⟩:=h [];⟨e,w',h1⟩
section
variable {P:Program} {ops:Array Oper} {Q:Exit->Act->Wd->Prop} {C:Wd->Prop} {K:Act->Prop} {a:Act} {w:Wd} {n:Nat} {L:List (Nat×Vl)} {rest:List Oper} {d:Nat} {dd:Option Tmp} {ty:Ty} {pos:String} {af:Array Edge} {g:Option (Nat×Bool)}
theorem oFk (F:Sk a n L) {c:Operand} {b:Bool} {x y:Code} (e:ev L c=some (.bool b)) (hb:b=true) (h:x.wp P Q a w):(Code.cond c x y).wp P Q a w:=by subst hb;exact oBh F e h
theorem xUb (F:Sk a n L) {c:Operand} {b:Bool} {x y:Code} (e:ev L c=some (.bool b)) (hb:b=false) (h:y.wp P Q a w):(Code.cond c x y).wp P Q a w:=by subst hb;exact xZv F e h
end
section
variable {P:Program} {ops:Array Oper} {C:Wd->Prop} {K:Act->Prop} {a:Act} {w:Wd} {n:Nat} {L:List (Nat×Vl)} {rest:List Oper} {d:Nat} {ty:Ty} {pos:String} {af:Array Edge} {g:Option (Nat×Bool)}
theorem xRh {dd:Option Tmp} {x:Operand} {t:Ty} {kk b o o' off:Nat} (hp:∀ (a:Addr) w,(Instr.fieldAt t (.pointer (some a)) kk).run P w= .ok (.pointer (some (a.add off))) w) (F:Sk a n L) (he:ev L x=some (.pointer (some ⟨b,o,none⟩))) (ho:o+off=o') {w':Wd}:(execOp a.eval ⟨dd,.fieldAddr t x kk,ty,pos,af,g⟩).run P w'= .ok (.value (.pointer (some ⟨b,o',none⟩))) w':=by
 subst ho
 unfold execOp
 simp [F.ev he,hp,dW]
end
theorem xV {P:Program} {t:Ty} {fs:Array Field} {f:Field} {k s off:Nat} (ht:P.underlying t=some (.struct fs)) (hk:fs[k]?=some f) (hs:∀ w,(sizeOf f.type).run P w= .ok s w) (h0:s≠0) (ho:f.offset=off) (a:Addr) (w:Wd) : (Instr.fieldAt t (.pointer (some a)) k).run P w= .ok (.pointer (some (a.add off))) w:=by
 subst ho
 simp [Instr.fieldAt,run_underlying ht,hk,Instr.sureAddr,fieldPlace,hs,h0]
end
section
open Go.RowKit
variable {x:Operand} {y:Operand}
def uE (v:Vl):List Nat:=match v.ownBlock with | some b=>[b] | none=>[]
structure Row {α:Type} (sz:Nat) (R:ER α) (E:Ty) (B:Nat) (w:Wd) (v:Vl) (l:List α) (rb ib:List Nat):Prop where
  row:∃ (xs:List Vl) (bss:List (List Nat)),w.ownsRow B E sz v l.length xs/\bss.length=l.length/\bss.flatten=ib/\∀ i x bi,l[i]?=some x->bss[i]?=some bi->R w (λj=>xs[i*sz+j]?) x bi
  hrb:rb=uE v
  mem:zW ib w
  dj:Dj rb ib
section
variable {α:Type} {sz:Nat} {R:ER α} {E:Ty} {B:Nat} {w:Wd} {v:Vl} {l:List α} {rb ib:List Nat}
theorem Row.blk (h:Row sz R E B w v l rb ib):∀ b∈rb,B<=b/\∃ cur,w.heap[b]?=some (.cells cur E (0,0)):=by
 obtain⟨xs,bss,ho,_⟩:=h.row;intro b hb;rw[h.hrb] at hb
 rcases ho.2 with ⟨rfl,_⟩ | ⟨g,cap,cur,rfl,qa,hg,_⟩
 ·simp [uE,Value.ownBlock] at hb
 ·simp [uE,Value.ownBlock] at hb
  subst hb;exact⟨qa,cur,hg⟩
theorem Row.ownR (h:Row sz R E B w v l rb ib):Own B rb w:=by
 refine⟨?_,λb hb=>let ⟨h1,cur,h2⟩:=h.blk b hb;⟨h1,cur,E,h2⟩⟩;rw[h.hrb]
 unfold uE
 cases v.ownBlock<;>simp
theorem Row.memR (h:Row sz R E B w v l rb ib):zW rb w:=h.ownR.inMem
theorem Row.rd [hR:FrC sz R] (h:Row sz R E B w v l rb ib):Rd (Sl sz R) w v l (rb++ib):=by
 obtain⟨xs,bss,ho,hl,rfl,he⟩:=h.row;have hrb:=h.hrb
 rcases ho.2 with ⟨rfl,hn⟩ | ⟨g,cap,cur,rfl,h2,h3,h4,h5,h6,h7⟩
 ·obtain rfl:=Bw.1 hn
  obtain rfl:=Bw.1 hl
  simp [uE,Value.ownBlock] at hrb
  subst hrb;exact Rd.nil sz R w
 ·simp [uE,Value.ownBlock] at hrb
  subst hrb;refine⟨⟨_,cap,rfl,h4,h5,(λh=>nomatch h),.inr ⟨g,0,bss,rfl,rfl,hl,λi x bi hx hi=>?_⟩⟩,(zW.append h.memR h.mem)⟩;refine hR.fr _ _ _ _ x bi (he i x bi hx hi) (λ_ _=>rfl) (λj hj=>?_);have qa:i<l.length:=(Ac.1 hx).1;have hm:(i+1)*sz<=l.length*sz:=Bf _ qa;rw[Ct] at hm;rw[Bj,(Own.cell0 h3 _).1,<- h7,Be,if_pos (by omega)]
  simp
theorem Row.keep [hR:FrC sz R] {w':Wd} (h:Row sz R E B w v l rb ib) (h1:sM rb w w') (h2:sM ib w w') (hs:w.heap.size<=w'.heap.size):Row sz R E B w' v l rb ib:=by
 obtain⟨xs,bss,ho,hl,rfl,he⟩:=h.row;have hrb:=h.hrb;refine⟨⟨xs,bss,⟨ho.1,?_⟩,hl,rfl,λi x bi hx hi=>hR.fr _ _ _ _ x bi (he i x bi hx hi) (λc hc=>h2 c (Bl.2 ⟨bi,Ae hi,hc⟩)) (λ_ _=>rfl)⟩,hrb,h.mem.le hs,h.dj⟩
 rcases ho.2 with h3 | ⟨g,cap,cur,rfl,h3,h4,h5⟩
 ·exact .inl h3
 ·exact .inr ⟨g,cap,cur,rfl,h3,by rw[h1 g (by rw[hrb];simp [uE,Value.ownBlock])];exact h4,h5⟩
theorem Row.nil (sz:Nat) (R:ER α) (E:Ty) (B:Nat) (w:Wd):Row sz R E B w (.slice none 0 0) [] [] []:= ⟨⟨[],[],World.ownsRow_nil _ _ _ _,rfl,rfl,λi x bi hx=>nomatch hx⟩,rfl,zW.nil w,Dj.nil _⟩
theorem Row.own (h:Row sz R E B w v l rb ib) (o:Own B ib w):Own B (rb++ib) w:=h.ownR.append o h.dj
theorem Row.base {B':Nat} (h:Row sz R E B w v l rb ib) (hB:B'<=B):Row sz R E B' w v l rb ib:=by
 obtain⟨xs,bss,ho,r⟩:=h.row;refine⟨⟨xs,bss,⟨ho.1,?_⟩,r⟩,h.hrb,h.mem,h.dj⟩
 rcases ho.2 with h1 | ⟨g,cap,cur,h1,h2,h3⟩
 ·exact .inl h1
 ·exact .inr ⟨g,cap,cur,h1,Cj hB h2,h3⟩
end
theorem Own.go {B:Nat} {bs:List Nat} {w w':Wd} (h:Own B bs w) (l:Below w.heap.size w w'):Own B bs w':=h.sameBelow l
theorem Own.goO {B:Nat} {bs cs:List Nat} {w w':Wd} (h:Own B bs w) (l:B5 cs w w') (hd:Dj bs cs):Own B bs w':=h.same λb hb=>l.block b (h.inMem b hb) (hd b hb)
structure El {α:Type} (sz:Nat) (R:ER α) (w:Wd) (v:Vl) (x:α) (bs:List Nat):Prop where
  n:v.cells.size=sz
  r:R w (λj=>v.cells[j]?) x bs
  o:∀ u∈v.cells.toList,u.oneCell'=true
  m:zW bs w
theorem El.int {w:Wd} {x:Int} (h:xL x):El 1 xF w (.int .i64 x) x []:=⟨rfl,⟨rfl,h,rfl⟩,by simp [Value.cells,Value.oneCell'],zW.nil w⟩
theorem El.bool {w:Wd} {x:Bool}:El 1 aC w (.bool x) x []:=⟨rfl,⟨rfl,rfl⟩,by simp [Value.cells,Value.oneCell'],zW.nil w⟩
theorem El.sl {α:Type} {sz:Nat} {R:ER α} {w:Wd} {v:Vl} {l:List α} {bs:List Nat} (h:Rd (Sl sz R) w v l bs):El 1 (kP sz R) w v l bs:=by
 obtain⟨a,c,rfl⟩:=h.r.val;exact⟨rfl,⟨_,rfl,h.r⟩,by simp [Value.cells,Value.oneCell'],h.m⟩
theorem El.agg {α:Type} {sz:Nat} {R:ER α} [hR:FrC sz R] {w:Wd} {v:Vl} {x:α} {bs:List Nat} (h:Rd (qS sz R) w v x bs):El sz R w v x bs:=by
 obtain⟨⟨cs,hl,rfl,hr⟩,hm⟩:=h;refine⟨by simpa [Value.cells] using hl,by simpa [Value.cells] using hr,λu hu=>?_,hm⟩;simp only[Value.cells,List.toArray] at hu;obtain⟨j,hj,rfl⟩:=Bx hu;obtain⟨u,h1,h2⟩:=hR.tot _ _ _ _ hr j (by rw[<- hl];exact hj);rw[Aa hj] at h1
 cases h1
 exact h2
theorem xNs:∀ (l:List Vl) (o:Nat) (cs:Array Vl),o+l.length<=cs.size->∀ i,((l.zipIdx o).foldl (λcs x=>cs.setIfInBounds x.2 x.1) cs)[i]?=if o<=i/\i<o+l.length then l[i - o]? else cs[i]?
 | [],o,cs,_,i=>by
  rw[if_neg (by simp only[Bi];omega)]
  rfl
 | x::r,o,cs,ho,i=>by
  rw[List.zipIdx_cons,List.foldl_cons,xNs r (o+1) _ (by simp at ho ⊢;omega) i];simp only[Am] at ho ⊢
  by_cases h1:o+1<=i/\i<o+1+r.length
  ·rw[if_pos h1,if_pos (by omega),show i - o=(i - (o+1))+1 by omega,List.getElem?_cons_succ]
  ·rw[if_neg h1]
   by_cases h2:i=o
   ·subst h2
    rw[if_pos (by omega),Ed,List.getElem?_cons_zero,Cc,if_pos rfl,if_pos (by omega)]
   ·rw[if_neg (by omega),Cc,if_neg (by omega)]
theorem xZb {sz:Nat} (cs:Array Vl) (v:Vl) (hv:v.cells.size=sz) (hc:cs.size=1*sz):Instr.fill (λi=>some (i*sz,sz)) cs [(0,v)]=some v.cells:=by
 have e:v.cells.zipIdx.foldl (λcs (x:Vl×Nat)=>cs.setIfInBounds (0*sz+x.2) x.1) cs=v.cells:=by
  apply Array.ext_getElem?
  intro i;rw[<- Array.foldl_toList,Array.toList_zipIdx];simp only[Nat.zero_mul,Bj];rw[xNs _ 0 cs (by simp;omega) i]
  by_cases h:i<v.cells.size
  ·rw[if_pos (by simp;exact h),Ey,Dp]
  ·rw[if_neg (by simp;omega),Co (by omega),Co (by omega)]
 unfold Instr.fill
 simp only
 have h1:((v.cells.size≠sz) || 0*sz+v.cells.size > cs.size:Bool)=false:=by simp [hv,hc]
 rw[if_neg (by simpa using h1)]
 unfold Instr.fill
 exact congrArg some e
section
variable {α:Type} {sz:Nat} {R:ER α} {P:Program} {ops:Array Oper} {Q:Exit->Act->Wd->Prop} {a:Act} {w:Wd} {n:Nat} {L:List (Nat×Vl)} {rest:List Oper} {d:Nat} {ty:Ty} {pos:String} {af:Array Edge} {g:Option (Nat×Bool)}
theorem oFy {t e:Ty} (ht:P.underlying t=some (.slice e)) (qa:∀ w,(sizeOf e).run P w= .ok sz w) (F:Sk a n L) (hc:vO ops n L g d=true)
 (k:∀ a' w' v rb,Row sz R e w.heap.size w' v [] rb []->Below w.heap.size w w'->Sk a' n ((d,v)::L)->wpList P ops Q rest a' w') :
 wpList P ops Q (⟨some d,.buildSlice t 0 #[],ty,pos,af,g⟩::rest) a w:=by
 refine zT (v:=.slice (some ⟨w.heap.size,0,none⟩) 0 0) (w':=w.alloc (.cells #[] e)) F hc ?_ (λa' F'=>k a' _ _ [w.heap.size] ⟨⟨[],[],⟨by simp,.inr ⟨w.heap.size,0,#[],rfl,Az _,heap_alloc_new w _,Az _,by unfold maxLen;omega,by simp,by simp⟩⟩,rfl,rfl,λi x bi hx=>nomatch hx⟩,rfl,zW.nil _,Dj.nil _⟩ ((Below.refl _ _).alloc (Az _) _) F')
 unfold execOp
 have h0:(Array.range 0).map (λ_:Nat=>(default:Vl)) = #[]:=by apply Array.ext<;>simp
 simp [Instr.buildSlice,run_underlying ht,qa,Instr.fill,newRow,h0]
theorem xOo [hR:FrC sz R] {t e:Ty} {z:Vl} {v:Vl} {y:α} {bs:List Nat} (ht:P.underlying t=some (.slice e)) (qe:∀ w,(sizeOf e).run P w= .ok sz w) (hz:∀ w,(zeroValue e).run P w= .ok z w) (hzs:z.cells.size=sz) (hsz0:0<sz) (hsz1:sz<=1000) (F:Sk a n L) (hc:vO ops n L g d=true)
 (hx:ev L x=some v) (h:El sz R w v y bs)
 (k:∀ a' w' v' rb,Row sz R e w.heap.size w' v' [y] rb bs->Below w.heap.size w w'->Sk a' n ((d,v')::L)->wpList P ops Q rest a' w') :
 wpList P ops Q (⟨some d,.buildSlice t 1 #[(0,x)],ty,pos,af,g⟩::rest) a w:=by
 have qc:Below w.heap.size w (w.alloc (.cells v.cells e)):=(Below.refl _ _).alloc (Az _) _;refine zT (v:=.slice (some ⟨w.heap.size,0,none⟩) 1 1) (w':=w.alloc (.cells v.cells e)) F hc ?_ (λa' F'=>k a' _ _ [w.heap.size] ⟨⟨v.cells.toList,[bs],⟨by simp [h.n],.inr ⟨w.heap.size,1,v.cells,rfl,Az _,heap_alloc_new w _,Az _,by unfold maxLen;omega,by simp [h.n],by rw[Ck (by simp [h.n])]⟩⟩,rfl,by simp,λi x' bi qd qf=>?_⟩,rfl,h.m.le qc.size,λb hb hm=>?_⟩ qc F')
 ·unfold execOp
  have qa:=xZb (sz:=sz) ((Array.range (1*sz)).map (z.cells[· % z.cells.size]!)) v h.n (by simp);simp only[Di,Da,Ep,F.ev hx];simp only[Nat.one_mul] at qa
  have qg:sz≠0:=by omega
  have qh:¬ (16777216<sz):=by omega
  simp [Instr.buildSlice,run_underlying ht,qe,hz,qg,qh,qa,newRow]
 ·have qi:i=0:=by
   have:=(Ac.1 qd).1
   simp at this
   exact this
  subst qi
  cases qd
  cases qf
  refine hR.fr _ _ _ _ _ _ h.r (h.m.same qc) (λj _=>?_)
  simp
 ·rw[Bd] at hb
  subst hb;exact absurd (h.m _ hm) (Nat.lt_irrefl _)
theorem Row.ones [hR:FrC sz R] {E:Ty} {B:Nat} {w:Wd} {v:Vl} {l:List α} {xs:List Vl} {bss:List (List Nat)} (qa:0<sz) (hx:xs.length=l.length*sz) (hl:bss.length=l.length) (he:∀ i x bi,l[i]?=some x->bss[i]?=some bi->R w (λj=>xs[i*sz+j]?) x bi):∀ u∈xs,u.oneCell'=true:=by
 intro u hu;obtain⟨t,ht,rfl⟩:=Bx hu
 have hi:t / sz<l.length:=by rw[Nat.div_lt_iff_lt_mul qa];omega
 have hj:t % sz<sz:=Nat.mod_lt _ qa;obtain⟨u,h1,h2⟩:=hR.tot _ _ _ _ (he (t / sz) _ _ (Aa hi) (Aa (by rw[hl];exact hi))) (t % sz) hj;rw[show t / sz*sz+t % sz=t by rw[Nat.mul_comm];exact Nat.div_add_mod t sz,Aa ht] at h1
 cases h1
 exact h2
def Src {α:Type} (sz:Nat) (R:ER α) (w:Wd) (u:Vl) (m:List α) (ib:List Nat):Prop:= zW ib w/\((u= .slice none 0 0/\m=[]/\ib=[])∨∃ (ad:Addr) (c:Nat) (ys:List Vl) (css:List (List Nat)),u= .slice (some ad) m.length c/\ys.length=m.length*sz/\(∀ j q,ys[j]?=some q->w.cell? (ad.add j)=some q)/\css.length=m.length/\css.flatten=ib/\∀ i x bi,m[i]?=some x->css[i]?=some bi->R w (λj=>ys[i*sz+j]?) x bi)
theorem Row.src {E B:Nat} {w:Wd} {v:Vl} {l:List α} {rb ib:List Nat} (h:Row sz R E B w v l rb ib):Src sz R w v l ib:=by
 obtain⟨ys,css,ho,hl,qa,he⟩:=h.row;refine⟨h.mem,?_⟩
 rcases ho.2 with ⟨hu,hn⟩ | ⟨g2,cap2,cur2,hu,hrest⟩
 ·refine .inl ⟨hu,Bw.1 hn,?_⟩
  rw[<- qa,Bw.1 (hl.trans hn)]
  rfl
 ·exact .inr ⟨⟨g2,0,none⟩,cap2,ys,css,hu,ho.1,λj q hq=>ho.cells (g:=g2) (by rw[hu];rfl) j q hq,hl,qa,he⟩
theorem Rd.src [hR:FrC sz R] (qa:0<sz) {w:Wd} {v:Vl} {l:List α} {bs:List Nat} (h:Rd (Sl sz R) w v l bs):∃ ib,Src sz R w v l ib/\∀ c∈ib,c∈bs:=by
 obtain⟨⟨a,c,rfl,h1,h2,h3,h4⟩,hm⟩:=h
 rcases h4 with ⟨rfl,rfl⟩ | ⟨b,o,bss,rfl,rfl,he⟩
 ·refine⟨[],⟨zW.nil w,?_⟩,λc hc=>nomatch hc⟩
  cases a with
  | none=>exact .inl ⟨by rw[h3 rfl];rfl,rfl,rfl⟩
  | some ad=>exact .inr ⟨ad,c,[],[],rfl,by simp,by simp,rfl,rfl,by simp⟩
 ·refine⟨bss.flatten,⟨λc hc=>hm c (by simp [hc]),.inr ⟨⟨b,o,none⟩,c,(List.range (l.length*sz)).map (λt=>(w.cell? ⟨b,o+t,none⟩).getD undef),bss,rfl,by simp,λj q hq=>?_,he.1,rfl,λi x bi hx qc=>?_⟩⟩,λc hc=>by simp [hc]⟩
  ·rw[dW]
   have hj:j<l.length*sz:=by have:=(Ac.1 hq).1;simpa using this
   rw[Ay,Dz hj,Cr] at hq
   have hi:j / sz<l.length:=by rw[Nat.div_lt_iff_lt_mul qa];omega
   obtain⟨u,hu,_⟩:=hR.tot _ _ _ _ (he.2 (j / sz) _ _ (Aa hi) (Aa (by rw[he.1];exact hi))) (j % sz) (Nat.mod_lt _ qa)
   have e:o+j / sz*sz+j % sz=o+j:=by have:=Nat.div_add_mod j sz;rw[Nat.mul_comm] at this;omega
   rw[e] at hu;rw[hu] at hq ⊢;exact hq
  ·refine hR.fr _ _ _ _ _ _ (he.2 i x bi hx qc) (λ_ _=>rfl) (λj hj=>?_)
   have hi:i<l.length:=(Ac.1 hx).1
   have qd:i*sz+j<l.length*sz:=by have:=Bf sz (show i+1<=l.length from hi);rw[Ct] at this;omega
   rw[Ay,Dz qd,Cr];obtain⟨u,hu,_⟩:=hR.tot _ _ _ _ (he.2 i x bi hx qc) j hj;rw[show o+(i*sz+j)=o+i*sz+j by omega,hu]
   rfl
theorem xKj [hR:FrC sz R] {t E:Ty} {z:Vl} {bytes B:Nat} {v u:Vl} {l m r:List α} {rb ib ib2:List Nat} (ht:P.underlying t=some (.slice E)) (qd:(P.info? E).map (λi=>(i.zero,i.size,i.bytes))=some (some z,sz,bytes)) (qq:z.cells.size=sz) (qm:0<sz) (qr:bytes<=1024) (hby0:0<bytes)
    (F:Sk a n L) (hc:vO ops n L g d=true) (hx:ev L x=some v) (hy:ev L y=some u) (A:Row sz R E B w v l rb ib) (S:Src sz R w u m ib2) (hB:B<=w.heap.size) (d1:Dj rb ib2) (qs:ap l m=some r)
    (k:∀ a' w' v' rb',Row sz R E B w' v' r rb' (ib++ib2)->B5 rb w w'->(∀ X,zW X w->Dj X rb->Dj X rb')->Sk a' n ((d,v')::L)->wpList P ops Q rest a' w') :
    wpList P ops Q (⟨some d,.call ⟨.builtin .append,#[x,y],#[t,t]⟩,ty,pos,af,g⟩::rest) a w:=by
  obtain⟨hlen,rfl⟩:=oDh qs;obtain⟨i,hi,qn⟩:=En.1 qd;simp only[Prod.mk.injEq] at qn;obtain⟨hz,qe,qj⟩:=qn;obtain⟨xs,bss,ho,hl,qo,he⟩:=A.row;obtain⟨Sm,hS⟩:=S;have hrb:=A.hrb
  have fin:∀ {ys:List Vl} {css:List (List Nat)},css.length=m.length->css.flatten=ib2->(∀ i x bi,m[i]?=some x->css[i]?=some bi->R w (λj=>ys[i*sz+j]?) x bi)->∀ {v':Vl} {w':Wd},(Builtin.append_ #[t,t] ty #[v,u]).run P w= .ok v' w'->w'.ownsRow B E sz v' (l.length+m.length) (xs++ys)->w.grownBy w' v.ownBlock->(v'.ownBlock=v.ownBlock∨v'.ownBlock=some w.heap.size)->wpList P ops Q (⟨some d,.call ⟨.builtin .append,#[x,y],#[t,t]⟩,ty,pos,af,g⟩::rest) a w:=by
    intro ys css qg qa qh v' w' hr h2 h3 h4
    have hO:B5 rb w w':=by
      refine⟨h3.os,h3.tape,h3.output,h3.size,λk hk hn=>h3.block k hk (λe=>hn ?_)⟩;rw[hrb]
      unfold uE
      rw[<- e]
      simp
    have qf:∀ X,zW X w->Dj X rb->Dj X (uE v'):=by
      intro X hX hd b hb hm
      rcases h4 with h4 | h4
      · exact hd b hb (by rw[hrb];unfold uE at hm ⊢;rw[h4] at hm;exact hm)
      · unfold uE at hm
        rw[h4] at hm;rw[Bd] at hm;subst hm;exact absurd (hX _ hb) (Nat.lt_irrefl _)
    have qt:sM ib w w':=λb hb=>hO.block b (A.mem b hb) (λhm=>A.dj b hm hb);have qu:sM ib2 w w':=λb hb=>hO.block b (Sm b hb) (λhm=>d1 b hm hb);refine zT (v:=v') (w':=w') F hc ?_ (λa' F'=>k a' w' v' (uE v') ⟨⟨xs++ys,bss++css,by rw[Aq];exact h2,by rw[Aq,Aq,hl,qg],by rw[Em,qo,qa],λj y' bj qi qc=>?_⟩,rfl,(A.mem.le hO.size).append (Sm.le hO.size),?_⟩ hO qf F')
    · rw[BigFrame.execOp_builtin,BigFrame.builtin_append]
      simp only[Di,Da,Ep,F.ev hx,F.ev hy]
      simp [hr]
    · by_cases hk:j<l.length
      · rw[Bs hk] at qi
        rw[Bs (by rw[hl];exact hk)] at qc;have qk:(j+1)*sz<=l.length*sz:=Bf _ hk;rw[Ct] at qk;refine hR.fr _ _ _ _ y' bj (he j y' bj qi qc) (λc hc=>qt c (by rw[<- qo];exact Bl.2 ⟨bj,Ae qc,hc⟩)) (λq hq=>?_);exact Bs (by rw[ho.1];omega)
      · rw[Bb (by omega)] at qi
        rw[Bb (by rw[hl];omega),hl] at qc;refine hR.fr _ _ _ _ y' bj (qh _ y' bj qi qc) (λc hc=>qu c (by rw[<- qa];exact Bl.2 ⟨bj,Ae qc,hc⟩)) (λq hq=>?_);have hge:l.length*sz<=j*sz:=Bf _ (by omega);rw[Bb (by rw[ho.1];omega),ho.1,Nat.sub_mul]
        congr 1
        omega
    · exact Dj.symm (qf (ib++ib2) (A.mem.append Sm) (Dj.app' A.dj.symm d1.symm))
  rcases hS with ⟨hu,qv,ql⟩ | ⟨ad,cap2,ys,css,hu,qp,qw,qg,qa,qh⟩
  · subst qv
    refine fin (ys:=[]) (css:=[]) rfl (by rw[ql];rfl) (λi x bi hx=>nomatch hx) (v':=v) (w':=w) ?_ (by rw[Cd];exact ho) ⟨rfl,rfl,rfl,Az _,λ_ _ _=>rfl⟩ (.inl rfl);rw[hu];exact run_append_owned_none (P:=P) w B t ty E i sz ht hi v l.length xs ho
  · obtain ⟨v', w', hr, h2, h3, h4⟩ := xMg (P := P) w B t ty E i z sz bytes ht hi hz qe qj qq qm v l.length xs ho ad m.length cap2 ys qp qw (Row.ones (E := E) (B := B) (v := v) qm qp qg qh) (by unfold maxLen; omega) (by
        have:=Nat.mul_le_mul_left (l.length+m.length) qr
        omega) hB
    exact fin qg qa qh (by rw[hu];exact hr) h2 h3 h4
def pN {β:Type} (z:β) (n:Int):Option (List β):=if 0<=n/\n*1024<=140737488355328 then some (List.replicate n.toNat z) else none
theorem xYz {β:Type} {z:β} {n:Int} {l:List β} (h:pN z n=some l):0<=n/\n*1024<=140737488355328/\l=List.replicate n.toNat z:=by
 unfold pN at h
 split at h
 ·rename_i h1;exact⟨h1.1,h1.2,(Option.some.inj h).symm⟩
 ·cases h
theorem oAc (zs:Array Vl) (m i:Nat) (hi:i<m) (hz:0<zs.size):(madeCells zs m)[i]?=zs[i % zs.size]?:=by
 have h:=Nat.mod_lt i hz
 simp [madeCells,hi,h]
theorem oIc [hR:FrC sz R] {t E:Ty} {z:Vl} {bytes:Nat} {i:Int} {zero:α} {l:List α} (ht:P.underlying t=some (.slice E)) (qa:(P.info? E).map (λi=>(i.zero,i.size,i.bytes))=some (some z,sz,bytes)) (qd:z.cells.size=sz) (hsz:0<sz) (qe:bytes<=1024) (qf:∀ w,R w (λj=>z.cells[j]?) zero [])
 (F:Sk a n L) (hc:vO ops n L g d=true) (hx:ev L x=some (.int .i64 i)) (hy:ev L y=some (.int .i64 i)) (hl:pN zero i=some l)
 (k:∀ a' w' v' rb,Row sz R E w.heap.size w' v' l rb []->Below w.heap.size w w'->Sk a' n ((d,v')::L)->wpList P ops Q rest a' w') :
 wpList P ops Q (⟨some d,.makeSlice t x y,ty,pos,af,g⟩::rest) a w:=by
 obtain⟨h0,h1,rfl⟩:=xYz hl;obtain⟨m,rfl⟩:∃ m:Nat,i=m:=⟨i.toNat,by omega⟩;rw[Ad] at k;have qg:Below w.heap.size w (w.alloc (.cells (madeCells z.cells (m*sz)) E)):=(Below.refl _ _).alloc (Az _) _;have hr:=oIm (P:=P) ht qa m (by have:=Bf m qe;omega) (by omega) w;refine zT (v:=.slice (some ⟨w.heap.size,0,none⟩) m m) (w':=w.alloc (.cells (madeCells z.cells (m*sz)) E)) F hc ?_ (λa' F'=>k a' _ _ [w.heap.size] ⟨⟨(madeCells z.cells (m*sz)).toList,List.replicate m [],⟨by simp [size_madeCells],.inr ⟨w.heap.size,m,madeCells z.cells (m*sz),by simp,Az _,heap_alloc_new w _,by simp,by unfold maxLen;omega,by simp [size_madeCells],by rw[Ck (by simp [size_madeCells])]⟩⟩,by simp,by simp,λj y' bj qc qh=>?_⟩,rfl,zW.nil _,Dj.nil _⟩ qg F')
 ·unfold execOp
  simp only[F.ev hx,F.ev hy]
  simp [hr]
 ·have hj:j<m:=by have:=(Ac.1 qc).1;simpa using this
  have e1:y'=zero:=by rw[List.getElem?_replicate_of_lt hj] at qc;exact(Option.some.inj qc).symm
  have e2:bj=[]:=Ca (Ae qh);subst e1 e2;refine hR.fr _ _ _ _ _ _ (qf w) (λc hc=>nomatch hc) (λq hq=>?_)
  have qi:j*sz+q<m*sz:=by have:=Bf sz (show j+1<=m from hj);rw[Ct] at this;omega
  rw[Dp,oAc _ _ _ qi (by omega),qd,Nat.mul_comm,Nat.mul_add_mod,Nat.mod_eq_of_lt hq]
def RPt (v:Vl) (sz i:Nat) (p:Vl):Prop:=∃ g m c,v= .slice (some ⟨g,0,none⟩) m c/\p= .pointer (some ⟨g,i*sz,none⟩)
theorem xRv [hR:FrC sz R] {iy:Operand} {t E:Ty} {B:Nat} {v:Vl} {l:List α} {rb ib:List Nat} {i:Int} {y:α} (ht:P.underlying t=some (.slice E)) (qa:∀ w,(sizeOf E).run P w= .ok sz w)
 (F:Sk a n L) (hc:vO ops n L g d=true) (he:ev L x=some v) (hi:ev L iy=some (.int .i64 i)) (A:Row sz R E B w v l rb ib) (qc:ix l i=some y)
 (k:∀ a' p bi,Rd (Pt sz R) w p y bi->(∀ c∈bi,c∈rb++ib)->RPt v sz i.toNat p->Sk a' n ((d,p)::L)->wpList P ops Q rest a' w) :
 wpList P ops Q (⟨some d,.indexAddr t x iy,ty,pos,af,g⟩::rest) a w:=by
 obtain⟨p,bi,hr,h1,h2⟩:=xUv (d:=some d) (ty:=ty) (pos:=pos) (af:=af) (g:=g) ht qa F he hi A.rd qc;refine zT F hc (hr w) (λa' F'=>k a' p bi h1 h2 ?_ F');obtain⟨h0,hy⟩:=aE qc;obtain⟨hk,_⟩:=Ac.1 hy;obtain⟨xs,bss,ho,_⟩:=A.row
 rcases ho.2 with ⟨rfl,hn⟩ | ⟨g2,cap,cur,rfl,_⟩
 ·omega
 ·refine⟨g2,_,cap,rfl,?_⟩
  have h3:=hr w
  unfold execOp at h3
  simp only[F.ev he,F.ev hi] at h3
  have qd:i<(l.length:Int):=by omega
  simp [Instr.indexAt,run_underlying ht,asIntOf,h0,qd,qa,dW] at h3
  exact h3.symm
theorem dR {bss:List (List Nat)} {i:Nat} {bs:List Nat} {c:Nat} (h:c∈(bss.set i bs).flatten):c∈bss.flatten∨c∈bs:=by
 obtain⟨bj,h1,h2⟩:=Bl.1 h
 rcases Cx h1 with h3 | rfl
 ·exact .inl (Bl.2 ⟨bj,h3,h2⟩)
 ·exact .inr h2
theorem xRe {bss:List (List Nat)} {i:Nat} {bs:List Nat} (hn:bss.flatten.Nodup) (hb:bs.Nodup) (hd:Dj bss.flatten bs):(bss.set i bs).flatten.Nodup:=by
 by_cases hi:i<bss.length
 ·have e:bss=bss.take i++bss[i]::bss.drop (i+1):=by rw[<- Br hi,Es]
  have hm:∀ c,c∈(bss.take i).flatten∨c∈(bss.drop (i+1)).flatten->c∈bss.flatten:=λc hc=>by
   rcases hc with h | h
   ·obtain⟨y,h1,h2⟩:=Bl.1 h;exact Bl.2 ⟨y,Dt h1,h2⟩
   ·obtain⟨y,h1,h2⟩:=Bl.1 h;exact Bl.2 ⟨y,List.mem_of_mem_drop h1,h2⟩
  rw[e] at hn;rw[List.set_eq_take_append_cons_drop,if_pos hi];simp only[Em,List.flatten_cons] at hn ⊢;rw[Ch] at hn;obtain⟨n1,n2,n3⟩:=hn;rw[Ch] at n2;obtain⟨_,n4,_⟩:=n2;refine Ch.2 ⟨n1,Ch.2 ⟨hb,n4,λa ha b qa e=>?_⟩,λa ha b qa e=>?_⟩
  ·subst e;exact hd a (hm a (.inr qa)) ha
  ·subst e
   rcases Ar.1 qa with h | h
   ·exact hd a (hm a (.inl ha)) h
   ·exact n3 a ha a (Bq _ h) rfl
 ·rw[List.set_eq_of_length_le (by omega)];exact hn
theorem xJy {R:ER α} [hR:FrC 1 R] {t E:Ty} {B:Nat} {v p u:Vl} {l:List α} {rb ib bs:List Nat} {i:Nat} {z:α} (ql:∀ w,(sizeOf t).run P w= .ok 1 w)
 (F:Sk a n L) (hc:gok ops L g=true) (hx:ev L x=some p) (hy:ev L y=some u) (A:Row 1 R E B w v l rb ib) (hp:RPt v 1 i p) (hi:i<l.length) (hz:El 1 R w u z bs) (hone:u.oneCell'=true) (hd:Dj rb bs)
 (k:∀ w' ib',Row 1 R E B w' v (l.set i z) rb ib'->B5 rb w w'->(∀ c∈ib',c∈ib∨c∈bs)->(ib.Nodup->bs.Nodup->Dj ib bs->ib'.Nodup)->wpList P ops Q rest a w') :
 wpList P ops Q (⟨none,.store t x y,ty,pos,af,g⟩::rest) a w:=by
 obtain⟨g2,m,c,rfl,rfl⟩:=hp;obtain⟨xs,bss,ho,hl,qc,he⟩:=A.row;have hrb:=A.hrb
 simp [uE,Value.ownBlock] at hrb
 subst hrb
 rcases ho.2 with ⟨h,_⟩ | ⟨g3,cap,cur,h,h2,h3,h4,h5,h6,h7⟩
 ·cases h
 simp only[Value.slice.injEq,Option.some.injEq,Addr.mk.injEq,and_true] at h;obtain⟨rfl,rfl,rfl⟩:=h;rw[Ce] at hx
 have qa:u.cells = #[u]:=by cases u<;>first | rfl | simp [Value.oneCell'] at hone
 have qd:=ho.1;rw[Ce] at qd h6 h7
 have qh:i<cur.size:=by omega
 have hK:nA w g2 cur E:=h3;have hO:B5 [g2] w (w.setCell ⟨g2,i,none⟩ u):=⟨rfl,rfl,rfl,by simp,λk _ hk=>Below.heap_setCell _ _ _ _ (by simpa using hk)⟩;have qj:∀ c,c∈ib->c≠g2:=λc hc e=>A.dj g2 (by simp) (e ▸ hc);have qk:∀ c,c∈bs->c≠g2:=λc hc e=>hd g2 (by simp) (e ▸ hc);refine xTp (w':=w.setCell ⟨g2,i,none⟩ u) F hc ?_ (k _ (bss.set i bs).flatten ⟨⟨xs.set i u,bss.set i bs,⟨by simp [qd],.inr ⟨g2,c,cur.setIfInBounds i u,by simp,h2,hK.set_at rfl,by simpa using h4,h5,by simpa using h6,?_⟩⟩,by simp [hl],rfl,λj y' bj qg qe=>?_⟩,rfl,λc hc=>?_,λb hb hm=>?_⟩ hO ?_ (λn1 n2 n3=>xRe (by rw[qc];exact n1) n2 (by rw[qc];exact n3)))
 ·unfold execOp
  simp only[F.ev hx,F.ev hy]
  have h8:w.cell? ⟨g2,i,none⟩=some cur[i]:=by rw[hK.cell,Cw qh]
  simp [Instr.storeAt,Instr.sureAddr,storeVar,ql,qa,storeCells,Addr.add,run_store P w _ u _ hone,h8,hK.frozen]
 ·simp only[Cn,Ce,Array.toList_setIfInBounds]
  rw[List.take_set,h7]
 ·rw[Ce]
  by_cases qi:j=i
  ·subst qi
   rw[Al hi] at qg;rw[Al (by rw[hl];exact hi)] at qe
   cases qg
   cases qe
   refine hR.fr _ _ _ _ _ _ hz.r (λc hc=>hO.block c (hz.m c hc) (by simpa using qk c hc)) (λq hq=>?_)
   obtain rfl:q=0:=by omega
   rw[qa,Cb,Al (by omega)]
   rfl
  ·rw[Aj (λe=>qi e.symm)] at qg qe
   have hm:=he j y' bj qg qe;rw[Ce] at hm;refine hR.fr _ _ _ _ _ _ hm (λc hc=>?_) (λq hq=>?_)
   ·have qf:c∈ib:=by rw[<- qc];exact Bl.2 ⟨bj,Ae qe,hc⟩
    exact hO.block c (A.mem c qf) (by simpa using qj c qf)
   ·obtain rfl:q=0:=by omega
    rw[Cb,Aj (λe=>qi e.symm)]
 ·rcases dR hc with h | h
  ·rw[qc] at h;exact At (A.mem c h) hO.size
  ·exact At (hz.m c h) hO.size
 ·rw[Bd] at hb
  subst hb
  rcases dR hm with h | h
  ·rw[qc] at h;exact qj _ h rfl
  ·exact qk _ h rfl
 ·intro c hc
  rcases dR hc with h | h
  ·rw[qc] at h;exact .inl h
  ·exact .inr h
theorem xOh:∀ (vs:List Vl) (o:Nat) (cs:Array Vl),(∀ v∈vs,v.oneCell'=true)->o+vs.length<=cs.size->∃ cs',Instr.fill (λi=>some (i*1,1)) cs ((List.range' o vs.length).zip vs)=some cs'/\cs'.size=cs.size/\∀ i,cs'[i]?=if o<=i/\i<o+vs.length then vs[i - o]? else cs[i]?
 | [],o,cs,_,_=>⟨cs,rfl,rfl,λi=>by rw[if_neg (by simp only[Bi];omega)]⟩
 | v::r,o,cs,h1,hs=>by
  have hv:=h1 v (by simp)
  have hc:v.cells = #[v]:=by cases v<;>first | rfl | simp [Value.oneCell'] at hv
  simp only[Am] at hs;obtain⟨cs',e1,e2,e3⟩:=xOh r (o+1) (cs.setIfInBounds o v) (λu hu=>h1 u (by simp [hu])) (by simp;omega);refine⟨cs',?_,by simpa using e2,λi=>?_⟩
  ·simp only[Am,Ds,List.zip_cons_cons]
   unfold Instr.fill
   simp only[hc]
   have h2:¬ (o*1+1 > cs.size):=by omega
   simp [h2,Ce] at e1 ⊢
   exact⟨by omega,e1⟩
  ·rw[e3 i]
   simp only[Am]
   by_cases h2:o+1<=i/\i<o+1+r.length
   ·rw[if_pos h2,if_pos (by omega),show i - o=(i - (o+1))+1 by omega,List.getElem?_cons_succ]
   ·rw[if_neg h2]
    by_cases h3:i=o
    ·subst h3
     rw[if_pos (by omega),Ed,List.getElem?_cons_zero,Cc,if_pos rfl,if_pos (by omega)]
    ·rw[if_neg (by omega),Cc,if_neg (by omega)]
theorem oIh {t e:Ty} {z:Vl} {parts:Array (Nat×Operand)} {m:Nat} {xs:List Operand} {l:List Int} (ht:P.underlying t=some (.slice e)) (qg:∀ w,(sizeOf e).run P w= .ok 1 w) (hz:∀ w,(zeroValue e).run P w= .ok z w) (hzs:z.cells.size=1)
 (F:Sk a n L) (hc:vO ops n L g d=true) (hp:parts.toList=(List.range' 0 xs.length).zip xs) (hm:m=l.length) (hm1:l.length<=1000) (hm0:0<l.length)
 (hx:evs L xs=some (l.map (Value.int .i64))) (hI:∀ y∈l,xL y)
 (k:∀ a' w' v' rb,Row 1 xF e w.heap.size w' v' l rb []->Below w.heap.size w w'->Sk a' n ((d,v')::L)->wpList P ops Q rest a' w') :
 wpList P ops Q (⟨some d,.buildSlice t m parts,ty,pos,af,g⟩::rest) a w:=by
 subst hm;have qf:=F.evs hx
 have qd:xs.length=l.length:=by have:=congrArg List.length qf;simpa using this
 obtain⟨cs',e1,e2,e3⟩:=xOh (l.map (Value.int .i64)) 0 ((Array.range l.length).map (z.cells[· % z.cells.size]!)) (λv hv=>by obtain⟨x,_,rfl⟩:=Cv.1 hv;rfl) (by simp)
 have ecs:cs'=(l.map (Value.int .i64)).toArray:=by
  apply Array.ext_getElem?
  intro i;rw[e3 i]
  by_cases h:i<l.length
  ·rw[if_pos (by simp;exact h)];simp
  ·rw[if_neg (by simp;omega),Co (by simp;omega),Co (by simp;omega)]
 have qh:Below w.heap.size w (w.alloc (.cells cs' e)):=(Below.refl _ _).alloc (Az _) _;refine zT (v:=.slice (some ⟨w.heap.size,0,none⟩) l.length l.length) (w':=w.alloc (.cells cs' e)) F hc ?_ (λa' F'=>k a' _ _ [w.heap.size] ⟨⟨l.map (Value.int .i64),List.replicate l.length [],⟨by simp,.inr ⟨w.heap.size,l.length,cs',rfl,Az _,heap_alloc_new w _,Az _,by unfold maxLen;omega,by rw[ecs];simp,by rw[ecs,Ck (by simp)]⟩⟩,by simp,by simp,λi y' bj qe qi=>?_⟩,rfl,zW.nil _,Dj.nil _⟩ qh F')
 ·unfold execOp
  have qc:(parts.map λ(i,x)=>(i,a.eval x)).toList=(List.range' 0 l.length).zip (l.map (Value.int .i64)):=by
   rw[Array.toList_map,hp,<- qf,qd];rw[List.zip_map_right]
   rfl
  have h0:l.length≠0:=by omega
  have h1:¬ (16777216<l.length):=by omega
  rw[Bu] at e1
  simp [Instr.buildSlice,run_underlying ht,qg,hz,h0,h1,newRow]
  have qa:List.map (λx:Nat×Operand=>(x.1,a.eval x.2)) parts.toList=(List.range' 0 l.length).zip (l.map (Value.int .i64)):=by rw[<- qc,Array.toList_map]
  rw[qa];simp only[Ce] at e1;rw[e1]
  rfl
 ·have hi:i<l.length:=(Ac.1 qe).1
  have e5:bj=[]:=Ca (Ae qi);subst e5;exact⟨by simp [qe],hI y' (Ae qe),rfl⟩
end
end
section
open Go.RowKit
variable {r1:ResultVar}
section
variable {P:Program} {ops:Array Oper} {Q:Exit->Act->Wd->Prop} {a:Act} {w:Wd} {n:Nat} {L:List (Nat×Vl)} {rest:List Oper} {d:Nat} {ty:Ty} {pos:String} {af:Array Edge} {g:Option (Nat×Bool)}
end
theorem _root_.Go.RowKit.Below.o {B:Nat} {rb:List Nat} {w0 w w':Wd} (h:Below B w0 w) (l:B5 rb w w') (hr:∀ b∈rb,B<=b) (hs:B<=w.heap.size):Below B w0 w':=h.trans (l.below hs hr)
def xAj (tmps:Array Vl):ResultVar->Sem Vl | .tmp t=>pure (tmps.getD t undef) | .cell a t=>do loadVar t (<- asAddr (tmps.getD a undef))
section
variable {P:Program} {w:Wd} {L:List (Nat×Vl)} {a:Act} {n:Nat} {fn:Func} {R:Ending->Wd->Prop}
theorem oKt (F:Sk a n L) {t:Nat} {v:Vl} (h:sL L t=some v):(xAj a.tmps (.tmp t)).run P w= .ok v w:=by
 simp [xAj,Array.getD_eq_getD_getElem?,F.g _ _ h]
theorem oFs (F:Sk a n L) {t b:Nat} {T T':Ty} {arr:Array Vl} (qa:∀ w,(isAgg T).run P w= .ok true w) (qc:∀ w,(sizeOf T).run P w= .ok arr.size w) (h:sL L t=some (.pointer (some ⟨b,0,none⟩))) (K:nA w b arr T'):(xAj a.tmps (.cell t T)).run P w= .ok (.agg arr) w:=by
 have hl:=run_loadCells_list (P:=P) w ⟨b,0,none⟩ arr.toList (λj v hj=>by rw[dW,Bj,K.cell];simpa using hj);rw[Array.length_toList] at hl
 simp [xAj,Array.getD_eq_getD_getElem?,F.g _ _ h,asAddr,loadVar,qa,qc,hl]
theorem xDo:results fn a.tmps=(do let vs <- fn.results.mapM (xAj a.tmps);pure (if h:vs.size=1 then vs[0] else .tuple vs)):=rfl
theorem xPd (F:Sk a n L) {v1:Vl} (hr:fn.results = #[r1]) (h1:(xAj a.tmps r1).run P w= .ok v1 w) (h:R (.returned v1) w):bodyPost P fn R .ret a w:= bodyPost_ret (v:=v1) (by rw[xDo,hr];simp [h1]) F.d h
theorem xXy (F:Sk a n L) {r2:ResultVar} {v1 v2:Vl} (hr:fn.results = #[r1,r2]) (h1:(xAj a.tmps r1).run P w= .ok v1 w) (h2:(xAj a.tmps r2).run P w= .ok v2 w) (h:R (.returned (.tuple #[v1,v2])) w):bodyPost P fn R .ret a w:= bodyPost_ret (v:=.tuple #[v1,v2]) (by rw[xDo,hr];simp [h1,h2]) F.d h
theorem xYe (F:Sk a n L) {r2 r3:ResultVar} {v1 v2 v3:Vl} (hr:fn.results = #[r1,r2,r3]) (h1:(xAj a.tmps r1).run P w= .ok v1 w) (h2:(xAj a.tmps r2).run P w= .ok v2 w) (h3:(xAj a.tmps r3).run P w= .ok v3 w) (h:R (.returned (.tuple #[v1,v2,v3])) w):bodyPost P fn R .ret a w:= bodyPost_ret (v:=.tuple #[v1,v2,v3]) (by rw[xDo,hr];simp [h1,h2,h3]) F.d h
end
theorem qP {k g:Nat} {b:Int} (h:k+(g+1)=b.toNat):decide ((k:Int)<b)=true:=by simp;omega
theorem vD {k:Nat} {b:Int} (h:k+0=b.toNat):decide ((k:Int)<b)=false:=by simp;omega
theorem tN {k g:Nat} {b lo:Int} (h:k+(g+1)=(b - lo).toNat):decide (lo+(k:Int)<b)=true:=by simp;omega
theorem yG {k:Nat} {b lo:Int} (h:k+0=(b - lo).toNat):decide (lo+(k:Int)<b)=false:=by simp;omega
theorem dT {k g:Nat} {b:Int} (h:k+(g+1)=b.toNat) (hb:xL b):xL (k:Int):=⟨by omega,by have:=hb.2;omega⟩
theorem vY {k g:Nat} {b:Int} (h:k+(g+1)=b.toNat) (hb:xL b):xL ((k+1:Nat):Int):=⟨by omega,by have:=hb.2;omega⟩
theorem xVp {k g:Nat} {b lo:Int} (h:k+(g+1)=(b - lo).toNat) (hl:xL lo) (hb:xL b):xL (lo+(k:Int)):=⟨by have:=hl.1;omega,by have:=hb.2;omega⟩
theorem xHc {k g:Nat} {b lo:Int} (h:k+(g+1)=(b - lo).toNat) (hl:xL lo) (hb:xL b):xL (lo+((k+1:Nat):Int)):=⟨by have:=hl.1;omega,by have:=hb.2;omega⟩
theorem dL {α:Type} {l:List α} {i:Int} {x:α} (h:ix l i=some x):i.toNat<l.length:=(Ac.1 (aE h).2).1
theorem xXc {α:Type} {sz:Nat} {R:ER α} {w:Wd} {v:Vl} {l:List α} {ib:List Nat} (h:Src sz R w v l ib) (hR:∀ w f x bs,R w f x bs->bs=[]):ib=[]:=by
 obtain⟨_,h⟩:=h
 rcases h with ⟨_,_,h⟩ | ⟨_,_,_,css,_,_,_,hl,hf,he⟩
 ·exact h
 ·have:∀ bi∈css,bi=[]:=λbi hb=>by
   obtain⟨i,hi,rfl⟩:=Bx hb;exact hR _ _ _ _ (he i _ _ (Aa (by rw[<- hl];exact hi)) (Aa hi))
  rw[<- hf,Du];exact this
section
variable {P:Program} {ops:Array Oper} {Q:Exit->Act->Wd->Prop} {C:Wd->Prop} {K:Act->Prop} {a:Act} {w:Wd} {n:Nat} {L:List (Nat×Vl)} {rest:List Oper} {d:Nat} {dd:Option Tmp} {ty:Ty} {pos:String} {af:Array Edge} {g:Option (Nat×Bool)}
theorem oHq {x y:Operand} {t t':Ty} {k:Nat} {lo:Int} (F:Sk a n L) (hc:vO ops n L g d=true) (e:ev L x=some (.int .i64 (lo+(k:Int)))) (e':ev L y=some (.int .i64 1)) (hi:xL (lo+((k+1:Nat):Int))) (kk:∀ a',Sk a' n ((d,.int .i64 (lo+((k+1:Nat):Int)))::L)->wpList P ops Q rest a' w) :
 wpList P ops Q (⟨some d,.binOp .add t x y t',ty,pos,af,g⟩::rest) a w:=by
 have h:lo+((k+1:Nat):Int)=lo+(k:Int)+1:=by omega
 rw[h] at hi kk;exact xZy F hc e e' (oLd hi) kk
theorem xIv {t:Ty} {e sz:Nat} {ad:Option Addr} {len cap i j:Nat} (ht:P.underlying t=some (.slice e)) (qa:∀ w,(sizeOf e).run P w= .ok sz w) (qc:i<=j) (hj:j<=cap) (lo hi:Option Vl) (qd:lo=some (.int .i64 i)∨lo=none/\i=0) (qe:hi=some (.int .i64 j)∨hi=none/\j=len) (w:Wd) :
 (Instr.sliceAt t (.slice ad len cap) lo hi none).run P w= .ok (.slice (if cap=i then ad else ad.map (·.add (i*sz))) (j - i) (cap - i)) w:=by
 have h1:(i:Int)<=j:=by omega
 have h2:(j:Int)<=cap:=by omega
 rcases qd with rfl | ⟨rfl,rfl⟩<;>rcases qe with rfl | ⟨rfl,rfl⟩ <;>
  simp [Instr.sliceAt,Instr.slice,run_underlying ht,Instr.sliceBounds,Instr.sliceBound,asIntOf,qa,h1,h2,qc,hj]
theorem oJp {α:Type} {sz:Nat} {R:ER α} [hR:FrC sz R] {t e:Ty} {v:Vl} {l r:List α} {bs:List Nat} {i j:Int} (ht:P.underlying t=some (.slice e)) (qg:∀ w,(sizeOf e).run P w= .ok sz w) (h:Rd (Sl sz R) w v l bs) (hs:sl l i j=some r) :
 ∃ v' bi,Rd (Sl sz R) w v' r bi/\(∀ c∈bi,c∈bs)/\∀ (lo hi:Option Vl),(lo=some (.int .i64 i)∨lo=none/\i=0)->(hi=some (.int .i64 j)∨hi=none/\j=l.length)->∀ w',(Instr.sliceAt t v lo hi none).run P w'= .ok v' w':=by
 obtain⟨h0,hij,qh,rfl⟩:=xIz hs;obtain⟨i,rfl⟩:∃ m:Nat,i=m:=⟨i.toNat,by omega⟩;obtain⟨j,rfl⟩:∃ m:Nat,j=m:=⟨j.toNat,by omega⟩;obtain⟨⟨ad,c,rfl,h1,h2,h3,h4⟩,hm⟩:=h;simp only[Ad]
 have qa:((l.take j).drop i).length=j - i:=by simp;omega
 have qc:∀ (lo hi:Option Vl),(lo=some (.int .i64 (i:Int))∨lo=none/\(i:Int)=0)->(hi=some (.int .i64 (j:Int))∨hi=none/\(j:Int)=l.length)->∀ w',(Instr.sliceAt t (.slice ad l.length c) lo hi none).run P w'= .ok (.slice (if c=i then ad else ad.map (·.add (i*sz))) (j - i) (c - i)) w':=λlo hi qi qj w'=>
  xIv ht qg (by omega) (by omega) lo hi (by rcases qi with h | h;exact .inl h;exact .inr ⟨h.1,by omega⟩) (by rcases qj with h | h;exact .inl h;exact .inr ⟨h.1,by omega⟩) w'
 by_cases qk:j=i
 ·subst qk
  have qe:(l.take j).drop j=[]:=Bw.1 (by rw[qa];omega);refine⟨_,[],?_,(λc hc=>nomatch hc),qc⟩;rw[qe];refine⟨⟨_,c - j,by rw[Ed];rfl,by simp,by omega,?_,.inl ⟨rfl,rfl⟩⟩,zW.nil w⟩;intro hn
  split at hn
  ·omega
  ·cases ad with
   | none=>have:=h3 rfl;omega
   | some x=>cases hn
 ·rcases h4 with ⟨rfl,_⟩ | ⟨b,o,bss,rfl,rfl,he⟩
  ·simp at qh;omega
  ·have qd:∀ x∈((bss.take j).drop i).flatten,x∈bss.flatten:=λx hx=>by
    obtain⟨y,hy,ql⟩:=Bl.1 hx;exact Bl.2 ⟨y,Dt (List.mem_of_mem_drop hy),ql⟩
   refine⟨_,b::((bss.take j).drop i).flatten,⟨⟨_,c - i,rfl,by rw[qa];omega,by omega,?_,.inr ⟨b,o+i*sz,(bss.take j).drop i,?_,rfl,?_,λq x bi hx qf=>?_⟩⟩,λx hx=>?_⟩,λx hx=>?_,by rw[qa];exact qc⟩
   ·intro hn;split at hn<;>cases hn
   ·split
    ·rename_i hci
     omega
    ·simp [dW]
   ·simp [he.1]
   ·rw[Dr,Be] at hx qf
    split at hx
    ·rename_i hq
     rw[if_pos hq] at qf;refine hR.fr _ _ _ _ _ _ (he.2 _ _ _ hx qf) (λ_ _=>rfl) (λp hp=>?_);rw[Ct]
     congr 2
     omega
    ·cases hx
   ·rcases Av.1 hx with rfl | hx
    ·exact hm _ (by simp)
    ·exact hm _ (by simp [qd x hx])
   ·rcases Av.1 hx with rfl | hx
    ·simp
    ·simp [qd x hx]
section
variable {α:Type} {sz:Nat} {R:ER α} [hR:FrC sz R] {t e:Ty} {x lo hi:Operand} {v:Vl} {l r:List α} {bs:List Nat} {i j:Int}
end
end
theorem on:∀ v∈([]:List Vl),v.oneCell'=true:=λv h=>nomatch h
theorem oc {v:Vl} {r:List Vl} (h:v.oneCell'=true) (k:∀ u∈r,u.oneCell'=true):∀ u∈v::r,u.oneCell'=true:=λu hu=>by
 rcases Av.1 hu with rfl | hu
 ·exact h
 ·exact k u hu
theorem _root_.Go.RowKit.Below.through' {w p q:Wd} (h:Below w.heap.size w p) (l:Below p.heap.size p q):Below w.heap.size w q:=h.trans (l.mono h.size)
section
variable {P:Program} {ops:Array Oper} {Q:Exit->Act->Wd->Prop} {a:Act} {w:Wd} {n:Nat} {L:List (Nat×Vl)} {rest:List Oper} {d:Nat} {ty:Ty} {pos:String} {af:Array Edge} {g:Option (Nat×Bool)}
theorem oEw {c:Operand} {f:FuncId} {lb:List Vl} {xs:List Operand} {at':Array Ty} {vs:List Vl} {Φ:Vl->Wd->Prop} {R:Ending->Wd->Prop} (F:Sk a n L) (hc:vO ops n L g d=true) (qa:ev L c=some (.func (.func f) #[] lb.toArray)) (hf:∀ args w,(callFunc f args).run P w= .ok (.enter f args) w)
 (e:evs L xs=some vs) (C:Calls P f (vs++lb).toArray w R) (hR:∀ e w',R e w'->∃ v,e= .returned v/\Φ v w')
 (k:∀ a' v w',Φ v w'->Sk a' n ((d,v)::L)->wpList P ops Q rest a' w') :
 wpList P ops Q (⟨some d,.call ⟨.value c,xs.toArray,at'⟩,ty,pos,af,g⟩::rest) a w:=by
 unfold vO at hc
 rw[Ba] at hc
 unfold wpList
 rw[if_pos (mE F (o:=⟨some d,.call ⟨.value c,xs.toArray,at'⟩,ty,pos,af,g⟩) hc.1)];refine .inl ?_
 unfold Oper.wp
 have hr:(execOp a.eval ⟨some d,.call ⟨.value c,xs.toArray,at'⟩,ty,pos,af,g⟩).run P w= .ok (.enter f (vs++lb).toArray) w:=by
  have h2:(xs.toArray.map a.eval)=vs.toArray:=by rw[Di,F.evs e]
  unfold execOp
  simp only[resolve,h2,F.ev qa,Deferred.ofValue,invoke,Sem.run_bind,Sem.run_pure,Result.andThen_ok,Array.empty_append,List.append_toArray,Bp,hf]
 rw[hr]
 exact C.mono λe w'' he=>by
  obtain⟨v,rfl,hv⟩:=hR e w'' he;exact k _ _ _ hv (F.put v hc.2)
end
end
end Go.Proofs.YtnjlbbfcngjhmaaGreat
