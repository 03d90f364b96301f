import Derived.WalkKit
import Derived.WalkSpells
import Derived.WalkLawsBesides
import Derived.BigQuiet
import Derived.Deep.LoopGhost
import Derived.StillTail
import Derived.Lib.SliceRun
import Derived.Laws.BytesString
import Derived.Lib.ConvBytes
import Derived.Laws.AppendOwn
import Derived.ArgAppend
namespace Go.Proofs.YtomlfdagbmgmgaaGreat
set_option linter.unusedVariables false
set_option linter.unusedSimpArgs false
section
universe u
open Go.RowKit
theorem xG {p:Prop} (h:p:=by omega):p:=h
theorem vK {p:Prop} (h:p:=by simp):p:=h
theorem kS {p:Prop} (h:p:=by decide):p:=h
theorem vV {p q:Prop} (h:p) (g:p->q:=by intro h;simpa using h):q:=g h
abbrev Wd:=World
abbrev Vl:=Value
abbrev Ty:=TypeId
variable {w':Wd} {T:Ty} {arr:Array Vl}
theorem Aa:type_of% @List.getElem?_eq_getElem.{0}:=@List.getElem?_eq_getElem.{0}
theorem Ac:type_of% @List.getElem?_eq_some_iff.{0}:=@List.getElem?_eq_some_iff.{0}
theorem Ad:type_of% @Int.toNat_natCast:=@Int.toNat_natCast
theorem Ae:type_of% @Nat.le_of_lt:=@Nat.le_of_lt
theorem Af:type_of% @List.mem_of_getElem?.{0}:=@List.mem_of_getElem?.{0}
theorem Ah:type_of% @Bool.false_eq_true:=@Bool.false_eq_true
theorem Ai:type_of% @List.getElem?_set_self.{0}:=@List.getElem?_set_self.{0}
theorem Aj:type_of% @List.mem_append.{0}:=@List.mem_append.{0}
theorem Ak:type_of% @List.getElem?_set_ne.{0}:=@List.getElem?_set_ne.{0}
theorem Al:type_of% @List.forall_mem_cons.{0}:=@List.forall_mem_cons.{0}
theorem Am:type_of% @List.length_singleton.{0}:=@List.length_singleton.{0}
theorem Ao:type_of% @List.length_cons.{0}:=@List.length_cons.{0}
theorem Ap:type_of% @List.getD_eq_getElem?_getD.{0}:=@List.getD_eq_getElem?_getD.{0}
theorem Aq:type_of% @List.not_mem_nil.{0}:=@List.not_mem_nil.{0}
theorem Ar:type_of% @List.length_append.{0}:=@List.length_append.{0}
theorem At:type_of% @List.mem_cons_of_mem.{0}:=@List.mem_cons_of_mem.{0}
theorem Au:type_of% @Nat.lt_of_lt_of_le:=@Nat.lt_of_lt_of_le
theorem Av:type_of% @List.mem_cons.{0}:=@List.mem_cons.{0}
theorem Aw:type_of% @false_implies:=@false_implies
theorem Ax:type_of% @Nat.mul_le_mul_right:=@Nat.mul_le_mul_right
theorem Ay:type_of% @List.mem_singleton.{0}:=@List.mem_singleton.{0}
theorem Az:type_of% @Nat.le_refl:=@Nat.le_refl
theorem Ba:type_of% @Nat.le_of_ble_eq_true:=@Nat.le_of_ble_eq_true
theorem Bb:type_of% @List.getElem?_append_right.{0}:=@List.getElem?_append_right.{0}
theorem Bc:type_of% @List.getElem?_map.{0,0}:=@List.getElem?_map.{0,0}
theorem Bd:type_of% @List.length_take.{0}:=@List.length_take.{0}
theorem Be:type_of% @Bool.and_eq_true:=@Bool.and_eq_true
theorem Bf:type_of% @List.getElem?_take.{0}:=@List.getElem?_take.{0}
theorem Bg:type_of% @List.mem_cons_self.{0}:=@List.mem_cons_self.{0}
theorem Bh:type_of% @List.length_nil.{0}:=@List.length_nil.{0}
theorem Bi:type_of% @Nat.zero_le:=@Nat.zero_le
theorem Bj:type_of% @decide_eq_true_eq:=@decide_eq_true_eq
theorem Bl:type_of% @List.mem_flatten.{0}:=@List.mem_flatten.{0}
theorem Bm:type_of% @List.mem_append_right.{0}:=@List.mem_append_right.{0}
theorem Bn:type_of% @Nat.zero_add:=@Nat.zero_add
theorem Bp:type_of% @List.nil_append.{0}:=@List.nil_append.{0}
theorem Bq:type_of% @List.mem_append_left.{0}:=@List.mem_append_left.{0}
theorem Br:type_of% @Bool.not_true:=@Bool.not_true
theorem Bs:type_of% @List.getElem_mem.{0}:=@List.getElem_mem.{0}
theorem Bt:type_of% @List.drop_eq_getElem_cons.{0}:=@List.drop_eq_getElem_cons.{0}
theorem Bu:type_of% @List.getElem?_append_left.{0}:=@List.getElem?_append_left.{0}
theorem Bv:type_of% @List.length_replicate.{0}:=@List.length_replicate.{0}
theorem Bw:type_of% @List.length_map.{0,0}:=@List.length_map.{0,0}
theorem Bx:type_of% @List.getElem_of_mem.{0}:=@List.getElem_of_mem.{0}
theorem Ca:type_of% @Array.getElem?_setIfInBounds.{0}:=@Array.getElem?_setIfInBounds.{0}
theorem Cb:type_of% @Nat.le_trans:=@Nat.le_trans
theorem Cc:type_of% @List.length_eq_zero_iff.{0}:=@List.length_eq_zero_iff.{0}
theorem Cd:type_of% @Nat.add_zero:=@Nat.add_zero
theorem Ce:type_of% @List.getElem?_eq_none.{0}:=@List.getElem?_eq_none.{0}
theorem Cg:type_of% @List.eq_of_mem_replicate.{0}:=@List.eq_of_mem_replicate.{0}
theorem Ch:type_of% @List.append_nil.{0}:=@List.append_nil.{0}
theorem Ci:type_of% @List.nodup_append.{0}:=@List.nodup_append.{0}
theorem Cj:type_of% @Nat.mul_one:=@Nat.mul_one
theorem Ck:type_of% @List.perm_iff_count.{0}:=@List.perm_iff_count.{0}
theorem Cl:type_of% @List.length_set.{0}:=@List.length_set.{0}
theorem Cm:type_of% @List.all_eq_true.{0}:=@List.all_eq_true.{0}
theorem Cn:type_of% @List.take_of_length_le.{0}:=@List.take_of_length_le.{0}
theorem Co:type_of% @Bool.not_false:=@Bool.not_false
theorem Cp:type_of% @Int.tmod_eq_emod_of_nonneg:=@Int.tmod_eq_emod_of_nonneg
theorem Cr:type_of% @List.ext_getElem?.{0}:=@List.ext_getElem?.{0}
theorem Cs:type_of% @List.count_append.{0}:=@List.count_append.{0}
theorem Ct:type_of% @Nat.add_mul:=@Nat.add_mul
theorem Cu:type_of% @Array.getElem?_eq_none.{0}:=@Array.getElem?_eq_none.{0}
theorem Cv:type_of% @List.drop_eq_nil_of_le.{0}:=@List.drop_eq_nil_of_le.{0}
theorem Cw:type_of% @Option.map_some.{0,0}:=@Option.map_some.{0,0}
theorem Cx:type_of% @List.take_append_of_le_length.{0}:=@List.take_append_of_le_length.{0}
theorem Cy:type_of% @List.mem_map.{0,0}:=@List.mem_map.{0,0}
theorem Cz:type_of% @Array.getElem?_eq_some_iff.{0}:=@Array.getElem?_eq_some_iff.{0}
theorem Da:type_of% @List.count_nil.{0}:=@List.count_nil.{0}
theorem Db:type_of% @decide_eq_false_iff_not:=@decide_eq_false_iff_not
theorem Dc:type_of% @Array.getElem?_eq_getElem.{0}:=@Array.getElem?_eq_getElem.{0}
theorem Dd:type_of% @List.mem_or_eq_of_mem_set.{0}:=@List.mem_or_eq_of_mem_set.{0}
theorem De:type_of% @beq_iff_eq.{0}:=@beq_iff_eq.{0}
theorem Df:type_of% @List.mem_filter.{0}:=@List.mem_filter.{0}
theorem Dg:type_of% @List.map_cons.{0,0}:=@List.map_cons.{0,0}
theorem Dh:type_of% @Bool.true_and:=@Bool.true_and
theorem Di:type_of% @List.getD_cons_zero.{0}:=@List.getD_cons_zero.{0}
theorem Dk:type_of% @List.replicate_succ.{0}:=@List.replicate_succ.{0}
theorem Dl:type_of% @List.append_assoc.{0}:=@List.append_assoc.{0}
theorem Dm:type_of% @List.getElem?_replicate.{0}:=@List.getElem?_replicate.{0}
theorem Dn:type_of% @Nat.add_assoc:=@Nat.add_assoc
theorem Dp:type_of% @List.map_toArray.{0,0}:=@List.map_toArray.{0,0}
theorem Dq:type_of% @List.length_drop.{0}:=@List.length_drop.{0}
theorem Dr:type_of% @List.getD_cons_succ.{0}:=@List.getD_cons_succ.{0}
theorem Ds:type_of% @beq_eq_false_iff_ne.{0}:=@beq_eq_false_iff_ne.{0}
theorem Dt:type_of% @Int.mul_le_mul_of_nonneg_left:=@Int.mul_le_mul_of_nonneg_left
theorem Du:type_of% @Array.getElem?_toList.{0}:=@Array.getElem?_toList.{0}
theorem Dv:type_of% @List.getElem?_drop.{0}:=@List.getElem?_drop.{0}
theorem Dw:type_of% @List.range'_succ:=@List.range'_succ
theorem Dx:type_of% @List.flatten_eq_nil_iff.{0}:=@List.flatten_eq_nil_iff.{0}
theorem Dy:type_of% @Nat.add_sub_cancel_left:=@Nat.add_sub_cancel_left
theorem Dz:type_of% @List.filter_cons.{0}:=@List.filter_cons.{0}
theorem Ea:type_of% @List.any_cons.{0}:=@List.any_cons.{0}
theorem Eb:type_of% @Option.map_eq_some_iff.{0,0}:=@Option.map_eq_some_iff.{0,0}
theorem Ec:type_of% @Nat.lt_or_ge:=@Nat.lt_or_ge
theorem Ed:type_of% @List.set_set.{0}:=@List.set_set.{0}
theorem Ee:type_of% @bne_self_eq_false.{0}:=@bne_self_eq_false.{0}
theorem Ef:type_of% @List.getElem?_range:=@List.getElem?_range
theorem Eg:type_of% @List.flatten_append.{0}:=@List.flatten_append.{0}
theorem Eh:type_of% @List.rel_of_pairwise_cons.{0}:=@List.rel_of_pairwise_cons.{0}
theorem Ei:type_of% @List.take_append_drop.{0}:=@List.take_append_drop.{0}
theorem Ej:type_of% @Option.getD_some.{0}:=@Option.getD_some.{0}
theorem Ek:type_of% @Int.emod_lt_of_pos:=@Int.emod_lt_of_pos
theorem Em:type_of% @Nat.sub_self:=@Nat.sub_self
theorem En:type_of% @Bool.false_or:=@Bool.false_or
theorem Ep:type_of% @Nat.add_comm:=@Nat.add_comm
theorem Er:type_of% @List.mem_of_mem_take.{0}:=@List.mem_of_mem_take.{0}
theorem Es:type_of% @List.drop_drop.{0}:=@List.drop_drop.{0}
theorem Et:type_of% @Int.mul_nonneg:=@Int.mul_nonneg
theorem Eu:type_of% @List.not_all_eq_any_not.{0}:=@List.not_all_eq_any_not.{0}
theorem Ev:type_of% @List.head?_drop.{0}:=@List.head?_drop.{0}
theorem Ew:type_of% @List.map_nil.{0,0}:=@List.map_nil.{0,0}
theorem Ex:type_of% @List.drop_zero.{0}:=@List.drop_zero.{0}
theorem Ey:type_of% @List.set_append_right.{0}:=@List.set_append_right.{0}
theorem Ez:type_of% @List.length_filter_le.{0}:=@List.length_filter_le.{0}
theorem Fa:type_of% @Nat.min_eq_left:=@Nat.min_eq_left
theorem Fb:type_of% @Int.emod_nonneg:=@Int.emod_nonneg
theorem Fc:type_of% @List.size_toArray.{0}:=@List.size_toArray.{0}
theorem Fe:type_of% @List.getElem?_set.{0}:=@List.getElem?_set.{0}
theorem Ff:type_of% @List.reverse_cons.{0}:=@List.reverse_cons.{0}
theorem Fg:type_of% @Nat.sub_zero:=@Nat.sub_zero
abbrev HN (B:Nat->Prop) (w:Wd):Prop:=∀ c,B c->c<w.heap.size
def xM (n:Int):Prop:=-9223372036854775808<=n/\n<=9223372036854775807
theorem xU:xM (0):=⟨kS,kS⟩
theorem zD:xM (1):=⟨kS,kS⟩
theorem xQg:xM (10):=⟨kS,kS⟩
theorem xRd:xM (1048576):=⟨kS,kS⟩
theorem xZf:xM (12):=⟨kS,kS⟩
theorem pV:xM (2):=⟨kS,kS⟩
theorem iV:xM (3):=⟨kS,kS⟩
theorem tY:xM (4):=⟨kS,kS⟩
theorem oLf:xM (5):=⟨kS,kS⟩
theorem sM:xM (6):=⟨kS,kS⟩
theorem xNy:xM (7):=⟨kS,kS⟩
theorem kV:xM (-1):=⟨kS,kS⟩
theorem _root_.Go.RowKit.Below.through {w p q} (l:Below p.heap.size p q) (h:Below w.heap.size w p):Below w.heap.size w q:=h.trans (l.mono h.size)
structure B5 (bs:List Nat) (w w':Wd):Prop where
  os:w'.os=w.os
  tape:w'.tape=w.tape
  output:w'.output=w.output
  size:w.heap.size<=w'.heap.size
  block:∀ k,k<w.heap.size->k ∉ bs->w'.heap[k]?=w.heap[k]?
theorem B5.of_below {bs w} (h:Below w.heap.size w w'):B5 bs w w':=⟨h.os,h.tape,h.output,h.size,λk hk _=>h.block k hk⟩
theorem B5.refl (bs:List Nat) (w:Wd):B5 bs w w:=⟨rfl,rfl,rfl,Az _,λ_ _ _=>rfl⟩
theorem B5.below {B bs w} (h:B5 bs w w') (hB:B<=w.heap.size) (qa:∀ b∈bs,B<=b):Below B w w':= ⟨h.os,h.tape,h.output,h.size,λk hk=>h.block k xG (λhm=>by have:=qa k hm;omega)⟩
theorem B5.trans {bs a b c} (h:B5 bs a b) (k:B5 bs b c):B5 bs a c:= ⟨k.os.trans h.os,k.tape.trans h.tape,k.output.trans h.output,Cb h.size k.size,λi hi hn=>(k.block i (by have:=h.size;omega) hn).trans (h.block i hi hn)⟩
theorem B5.mono {bs cs w} (h:B5 bs w w') (hs:∀ b∈bs,b∈cs):B5 cs w w':= ⟨h.os,h.tape,h.output,h.size,λk hk hn=>h.block k hk (λhm=>hn (hs k hm))⟩
def pJ (bs:List Nat) (w w':Wd):Prop:=∀ b∈bs,w'.heap[b]?=w.heap[b]?
def kH (bs:List Nat) (w:Wd):Prop:=∀ b∈bs,b<w.heap.size
def Own (B:Nat) (bs:List Nat) (w:Wd):Prop:=bs.Nodup/\∀ b∈bs,B<=b/\∃ cur e,w.heap[b]?=some (.cells cur e (0,0))
theorem xEo {w:Wd} {b:Nat} {o:Obj} (h:w.heap[b]?=some o):b<w.heap.size:=(Cz.1 h).1
theorem Own.inMem {B:Nat} {bs:List Nat} {w:Wd} (h:Own B bs w):kH bs w:=λb hb=>let ⟨_,_,_,he⟩:=h.2 b hb;xEo he
theorem kH.nil (w:Wd):kH [] w:=λ_ h=>by cases h
theorem Own.nil (B:Nat) (w:Wd):Own B [] w:=⟨List.nodup_nil,λ_ h=>by cases h⟩
theorem Own.same {B bs w} (h:Own B bs w) (hs:pJ bs w w'):Own B bs w':=⟨h.1,λb hb=>⟨(h.2 b hb).1,by rw[hs b hb];exact(h.2 b hb).2⟩⟩
theorem Own.sameBelow {B bs w} (h:Own B bs w) (hs:Below w.heap.size w w'):Own B bs w':=h.same λb hb=>hs.block b (h.inMem b hb)
theorem kH.same {bs w} (h:kH bs w) (hs:Below w.heap.size w w'):pJ bs w w':=λb hb=>hs.block b (h b hb)
theorem kH.le {bs w} (h:kH bs w) (hs:w.heap.size<=w'.heap.size):kH bs w':=λb hb=>Au (h b hb) hs
theorem Own.append {B bs cs w} (h:Own B bs w) (k:Own B cs w) (hd:∀ b∈bs,b ∉ cs):Own B (bs++cs) w:= ⟨Ci.2 ⟨h.1,k.1,λa ha b hb e=>hd a ha (e ▸ hb)⟩,λb hb=>(Aj.1 hb).elim (h.2 b) (k.2 b)⟩
theorem kH.append {bs cs w} (h:kH bs w) (k:kH cs w):kH (bs++cs) w:=λb hb=>(Aj.1 hb).elim (h b) (k b)
theorem xAi (w:Wd) (b o:Nat) (v:Vl) (cur:Array Vl) (e:Ty) (fr:Nat×Nat) (h:w.heap[b]?=some (.cells cur e fr)):(w.setCell ⟨b,o,none⟩ v).heap[b]?=some (.cells (cur.setIfInBounds o v) e fr):=by
 simp [World.setCell,Array.getElem?_modify,h]
def lG (w:Wd) (b:Nat) (arr:Array Vl) (T:Ty):Prop:=w.heap[b]?=some (.cells arr T (0,0))
theorem lG.cell {w b} (h:lG w b arr T) (j:Nat):w.cell? ⟨b,j,none⟩=arr[j]?:=by unfold lG at h;simp [World.cell?,h]
theorem lG.frozen {w b} (h:lG w b arr T) (j:Nat):w.frozen? ⟨b,j,none⟩=false:=by unfold lG at h;simp [World.frozen?,h]
theorem lG.lt {w:Wd} {b:Nat} (h:lG w b arr T):b<w.heap.size:=xEo h
theorem lG.new {w:Wd} {b:Nat} (h:b=w.heap.size):lG (w.alloc (.cells arr T)) b arr T:=by subst h;exact heap_alloc_new w _
theorem lG.set_at {w b j arr' u} (h:lG w b arr T) (e:arr.setIfInBounds j u=arr'):lG (w.setCell ⟨b,j,none⟩ u) b arr' T:=by subst e;exact xAi w b j u arr T (0,0) h
abbrev ER (α:Type):=Wd->(Nat->Option Vl)->α->List Nat->Prop
def Fr {α:Type} (sz:Nat) (R:ER α):Prop:=∀ w w' f g x bs,R w f x bs->pJ bs w w'->(∀ j,j<sz->g j=f j)->R w' g x bs
def Els {α:Type} (sz:Nat) (R:ER α) (w:Wd) (b o:Nat) (l:List α) (bss:List (List Nat)):Prop:= bss.length=l.length/\∀ i x bi,l[i]?=some x->bss[i]?=some bi->R w (λj=>w.cell? ⟨b,o+i*sz+j,none⟩) x bi
def Sl {α:Type} (sz:Nat) (R:ER α) (w:Wd) (v:Vl) (l:List α) (bs:List Nat):Prop:= ∃ a c,v= .slice a l.length c/\l.length<=c/\c<=maxLen/\(a=none->c=0)/\((l=[]/\bs=[])∨∃ b o bss,a=some ⟨b,o,none⟩/\bs=b::bss.flatten/\Els sz R w b o l bss)
theorem pZ {w:Wd} {b:Nat} (h:w'.heap[b]?=w.heap[b]?) (o:Nat):w'.cell? ⟨b,o,none⟩=w.cell? ⟨b,o,none⟩:=World.cell?_of_block (w:=w) (a:=⟨b,o,none⟩) h
theorem Els.same {α:Type} {sz:Nat} {R:ER α} (hR:Fr sz R) {w:Wd} {b o:Nat} {l:List α} {bss:List (List Nat)} (h:Els sz R w b o l bss) (hb:w'.heap[b]?=w.heap[b]?) (hs:pJ bss.flatten w w'):Els sz R w' b o l bss:= ⟨h.1,λi x bi hx hi=>hR w w' _ _ x bi (h.2 i x bi hx hi) (λc hc=>hs c (Bl.2 ⟨bi,Af hi,hc⟩)) (λ_ _=>pZ hb _)⟩
theorem Sl.same {α:Type} {sz:Nat} {R:ER α} (hR:Fr sz R) {w:Wd} {v:Vl} {l:List α} {bs:List Nat} (h:Sl sz R w v l bs) (hs:pJ bs w w'):Sl sz R w' v l bs:=by
 obtain⟨a,c,rfl,h1,h2,h3,h4⟩:=h;refine⟨a,c,rfl,h1,h2,h3,?_⟩
 rcases h4 with h4 | ⟨b,o,bss,rfl,rfl,he⟩
 ·exact .inl h4
 ·exact .inr ⟨b,o,bss,rfl,rfl,he.same hR (hs b vK) (λc hc=>hs c (by simp [hc]))⟩
theorem Sl.open {α:Type} {sz:Nat} {R:ER α} {w:Wd} {v:Vl} {l:List α} {bs:List Nat} (h:Sl sz R w v l bs) :
 ∃ a c,v= .slice a l.length c/\l.length<=c/\c<=9223372036854775807/\(a=none->c=0) ∧
  ∀ k,(hk:k<l.length)->∃ b o bss bi,a=some ⟨b,o,none⟩/\bs=b::bss.flatten/\Els sz R w b o l bss/\bss[k]?=some bi/\(∀ c∈bi,c∈bs)/\R w (λj=>w.cell? ⟨b,o+k*sz+j,none⟩) l[k] bi:=by
 obtain⟨a,c,rfl,h1,h2,h3,h4⟩:=h;refine⟨a,c,rfl,h1,by unfold maxLen at h2;omega,h3,λk hk=>?_⟩
 rcases h4 with ⟨rfl,rfl⟩ | ⟨b,o,bss,rfl,rfl,he⟩
 ·simp at hk
 ·have hl:k<bss.length:=by rw[he.1];exact hk
  exact⟨b,o,bss,bss[k],rfl,rfl,he,Aa hl,λc hc=>At _ (Bl.2 ⟨_,Bs hl,hc⟩),he.2 k _ _ (Aa hk) (Aa hl)⟩
def xF:ER Int:=λ_ f x bs=>f 0=some (.int .i64 x)/\xM x/\bs=[]
theorem xF.fr:Fr 1 xF:=λ_ _ _ _ _ _ h _ hg=>⟨(hg 0 xG).trans h.1,h.2⟩
def zV {α:Type} (sz:Nat) (R:ER α):ER (List α):=λw f l bs=>∃ v,f 0=some v/\Sl sz R w v l bs
theorem zV.fr {α:Type} {sz:Nat} {R:ER α} (hR:Fr sz R):Fr 1 (zV sz R):=λ_ _ _ _ _ _ ⟨v,h0,h⟩ hs hg=>⟨v,(hg 0 xG).trans h0,h.same hR hs⟩
abbrev tX:=zV 1 xF
theorem tX.fr:Fr 1 tX:=zV.fr xF.fr
def qR {α:Type} (sz:Nat) (R:ER α) (w:Wd) (v:Vl) (x:α) (bs:List Nat):Prop:=∃ cs:List Vl,cs.length=sz/\v= .agg cs.toArray/\R w (λj=>cs[j]?) x bs
theorem qR.same {α:Type} {sz:Nat} {R:ER α} (hR:Fr sz R) {w:Wd} {v:Vl} {x:α} {bs:List Nat} (h:qR sz R w v x bs) (hs:pJ bs w w'):qR sz R w' v x bs:=
 let ⟨cs,hl,hv,hr⟩:=h;⟨cs,hl,hv,hR _ _ _ _ _ _ hr hs (λ_ _=>rfl)⟩
theorem qR.of_cells {α:Type} {sz:Nat} {R:ER α} (hR:Fr sz R) {w:Wd} {f:Nat->Option Vl} {x:α} {bs:List Nat} (h:R w f x bs) (cs:List Vl) (hl:cs.length=sz) (hc:∀ j,j<sz->cs[j]?=f j):qR sz R w (.agg cs.toArray) x bs:= ⟨cs,hl,rfl,hR _ _ _ _ _ _ h (λ_ _=>rfl) hc⟩
theorem Sl.val {α:Type} {sz:Nat} {R:ER α} {w:Wd} {v:Vl} {l:List α} {bs:List Nat} (h:Sl sz R w v l bs):∃ a c,v= .slice a l.length c:=let ⟨a,c,hv,_⟩:=h;⟨a,c,hv⟩
theorem Own.cell0 {w:Wd} {b:Nat} {cur:Array Vl} {e:Ty} (h:w.heap[b]?=some (.cells cur e (0,0))) (o:Nat):w.cell? ⟨b,o,none⟩=cur[o]?/\w.frozen? ⟨b,o,none⟩=false:=by
 simp [World.cell?,World.frozen?,h]
theorem wV (b:Nat) (e:Ty) (fr:Nat×Nat):∀ (vs:List Vl) (o:Nat) (w:Wd) (cur:Array Vl),w.heap[b]?=some (.cells cur e fr)->o+vs.length<=cur.size->
 ∃ cur':Array Vl,(w.setCells b o vs).heap[b]?=some (.cells cur' e fr)/\cur'.size=cur.size/\(∀ j,j<vs.length->cur'[o+j]?=vs[j]?)/\∀ m,(m<o∨o+vs.length<=m)->cur'[m]?=cur[m]?
 | [],o,w,cur,h,_=>⟨cur,h,rfl,λj hj=>by simp at hj,λ_ _=>rfl⟩
 | v::r,o,w,cur,h,hl=>by
  obtain⟨cur',h1,h2,h3,h4⟩:=wV b e fr r (o+1) (w.setCell ⟨b,o,none⟩ v) (cur.setIfInBounds o v) (xAi w b o v cur e fr h) (by rw[Array.size_setIfInBounds];simp only[Ao] at hl;omega);refine⟨cur',h1,vV h2,λj hj=>?_,λm hm=>?_⟩
  ·cases j with
   | zero=>rw[Cd,h4 o (Or.inl xG),Ca,if_pos rfl,if_pos (by simp only[Ao] at hl;omega)];rfl
   | succ j=>have:=h3 j (vV hj);rw[show o+(j+1)=o+1+j by omega];simpa using this
  ·rw[h4 m (by simp at hm;omega),Ca];simp at hm;rw[if_neg xG]
theorem sK (b:Nat):∀ (vs:List Vl) (o:Nat) (w:Wd) (k:Nat),k≠b->(w.setCells b o vs).heap[k]?=w.heap[k]?
 | [],_,_,_,_=>rfl
 | v::r,o,w,k,h=>by rw[World.setCells,sK b r _ _ k h,Below.heap_setCell _ _ _ _ (by exact h)]
theorem xDh (b:Nat):∀ (vs:List Vl) (o:Nat) (w:Wd),(w.setCells b o vs).heap.size=w.heap.size
 | [],_,_=>rfl
 | v::r,o,w=>by rw[World.setCells,xDh b r];simp
theorem xMz (b o:Nat) (vs:List Vl) (w:Wd):B5 [b] w (w.setCells b o vs):=by
  refine⟨?_,?_,?_,by rw[xDh];omega,λk _ hn=>sK b vs o w k (vV hn)⟩
  all_goals (induction vs generalizing o w with
    | nil=>rfl
    | cons v r ih=>rw[World.setCells,ih];rfl)
theorem oJr {P t e z size bytes} (ht:P.underlying t=some (.slice e)) (qa:(P.info? e).map (λi=>(i.zero,i.size,i.bytes))=some (some z,size,bytes))
 (n:Nat) (hbytes:bytes*n<=281474976710656) (h63:n<=9223372036854775807) (w:Wd) :
 (Instr.makeSlice t (.int .i64 (n:Int)) (.int .i64 (n:Int))).run P w= .ok (.slice (some ⟨w.heap.size,0,none⟩) n n) (w.alloc (.cells (madeCells z.cells (n*size)) e)):=by
 obtain⟨i,hi,qc⟩:=Eb.1 qa;simp only[Prod.mk.injEq] at qc;obtain⟨hz,hs,hb⟩:=qc
 have qd:(i.bytes:Int)*(n:Int)<=281474976710656:=by
  have h:((i.bytes*n:Nat):Int)<=281474976710656:=by rw[hb];omega
  rwa [Int.natCast_mul] at h
 have hr:=run_make (P:=P) w t e i z ht hi hz .i64 .i64 n n xG (Int.le_refl _) qd xG;simp only[Ad,hs] at hr;exact hr
section
variable {α:Type} {c:α->Nat} {m:α->Int->α}
theorem oFo {l:List α} {k:Nat} {x:α} (h:l[k]?=some x):l.drop k=x::l.drop (k+1):=by
 obtain⟨hk,rfl⟩:=Ac.1 h;exact Bt hk
end
theorem Own.left {B x y w} (h:Own B (x++y) w):Own B x w:=⟨(Ci.1 h.1).1,λb hb=>h.2 b (Bq _ hb)⟩
theorem Own.right {B x y w} (h:Own B (x++y) w):Own B y w:=⟨(Ci.1 h.1).2.1,λb hb=>h.2 b (Bm _ hb)⟩
theorem Own.disj {B x y w} (h:Own B (x++y) w):∀ a∈x,a ∉ y:=λa ha hy=>(Ci.1 h.1).2.2 a ha a hy rfl
def xUt (x:Vl) (w:Wd) (e:Ending) (w':Wd):Prop:=e= .returned x/\Below w.heap.size w w'
theorem oj {α:Type u} {a b:α} (h:some a=some b):a=b:=Option.some.inj h
theorem ojs {α:Type u} {a b:α} (h:some a=some b):b=a:=(Option.some.inj h).symm
abbrev xB (x:Int):Value:=.int .i64 x
abbrev oU (b:Nat):Value:=.pointer (some ⟨b,0,none⟩)
abbrev aB:Value:=.slice none 0 0
end
section
open Go.RowKit
section
variable {P:Program}
theorem xMy (w:Wd) (base:Nat) (t ty e:Ty) (i:TypeInfo) (z:Vl) (size bytes:Nat) (ht:P.underlying t=some (.slice e)) (hi:P.info? e=some i) (hz:i.zero=some z)
 (qe:i.size=size) (qk:i.bytes=bytes) (qm:z.cells.size=size) (qn:0<size)
 (v:Vl) (n:Nat) (xs:List Vl) (qd:w.ownsRow base e size v n xs)
 (a:Addr) (m c:Nat) (news:List Vl) (hl:news.length=m*size) (qc:∀ j u,news[j]?=some u->w.cell? (a.add j)=some u) (h1:∀ u∈news,u.oneCell'=true)
 (ql:n+m<=maxLen) (qa:(n+m)*bytes<=140737488355328) (qg:base<=w.heap.size) :
 ∃ v' w',(Builtin.append_ #[t,t] ty #[v,.slice (some a) m c]).run P w= .ok v' w'/\w'.ownsRow base e size v' (n+m) (xs++news)/\w.grownBy w' v.ownBlock ∧
  (v'.ownBlock=v.ownBlock∨v'.ownBlock=some w.heap.size):=by
 obtain⟨v',w',hr,h2,h3,h4⟩:=run_append_own (P:=P) w base t ty e i z size bytes ht hi hz qe qk qm qn v n xs qd a m c news hl qc h1 ql qa qg;refine⟨v',w',hr,h2,h3,?_⟩;subst qe;subst qk
 have hsmall:n+m<=9223372036854775807:=by simp only[maxLen] at ql;omega
 rcases qd.2 with ⟨rfl,rfl⟩ | ⟨g,cap,cur,rfl,hbg,hg,hnc,hcm,qo,htake⟩
 ·by_cases hm:m=0
  ·exact .inl (by rw[h4.2 ⟨rfl,hm⟩])
  ·have qh:=run_append_nil (P:=P) w t ty e i z ht hi hz a m c news hl qc xG xG (by have hb:=qa;simp only[Bn] at hb;omega)
   rw[qh] at hr
   injection hr with e1 e2
   subst e1;exact .inr (by simp [Value.ownBlock])
 ·by_cases qf:n+m<=cap
  ·have qj:n*i.size+news.length<=cur.size:=by rw[hl,qo,<- Ct];exact Ax _ qf
   have qh:=run_append_room (P:=P) w t ty e i ht hi g n cap cur hg a m c news hl qc h1 qf qj;rw[qh] at hr
   injection hr with e1 e2
   subst e1;exact .inl (by simp [Value.ownBlock])
  ·have qi:∀ j u,xs[j]?=some u->w.cell? ((⟨g,0,none⟩:Addr).add j)=some u:=qd.cells (g:=g) rfl
   have qh:=run_append_grow (P:=P) w t ty e i z ht hi hz ⟨g,0,none⟩ n cap xs qd.1 qi a m c news hl qc xG xG (growslice_fits xG qa);rw[qh] at hr
   injection hr with e1 e2
   subst e1;exact .inr (by simp [Value.ownBlock])
end
end
section
open Go.RowKit
variable {x:Operand} {y:Operand} {j:Int} {i:Int} {z:Int} {op:Op}
def sC:List (Nat×Vl)->Nat->Option Vl | [],_=>none | (d,v)::r,t=>bif Nat.beq d t then some v else sC r t
structure Sk (a:Act) (n:Nat) (L:List (Nat×Vl)):Prop where
  d:a.defers=[]
  s:a.tmps.size=n
  g:∀ t v,sC L t=some v->a.tmps[t]?=some v
def ev (L:List (Nat×Vl)):Operand->Option Vl | .tmp t=>sC L t | .const v=>some v | .func f=>some (.func (.func f) #[] #[]) | .global g=>some (.pointer (some ⟨g,0,none⟩))
def evs (L:List (Nat×Vl)):List Operand->Option (List Vl)
 | []=>some []
 | x::r=>match ev L x,evs L r with
  | some v,some s=>some (v::s)
  | _,_=>none
theorem Sk.ev {a n L} (h:Sk a n L) {v} (e:ev L x=some v):a.eval x=v:=by
 cases x with
 | tmp t=>simp [Act.eval,h.g t v e]
 | const u=>exact Option.some.inj e
 | func f=>exact Option.some.inj e
 | global g=>exact Option.some.inj e
theorem Sk.evs {a n L} (h:Sk a n L):∀ {xs:List Operand} {vs:List Vl},evs L xs=some vs->xs.map a.eval=vs
 | [],vs,e=>by cases e;rfl
 | x::r,vs,e=>by
  unfold Go.Proofs.YtomlfdagbmgmgaaGreat.evs at e
  cases h1:Go.Proofs.YtomlfdagbmgmgaaGreat.ev L x with
  | none=>simp [h1] at e
  | some v=>
   cases h2:Go.Proofs.YtomlfdagbmgmgaaGreat.evs L r with
   | none=>simp [h1,h2] at e
   | some s=>
    simp only[h1,h2,Option.some.injEq] at e;subst e;rw[Dg,h.ev h1,h.evs h2]
theorem Sk.put {a n L} (h:Sk a n L) {d} (v:Vl) (hd:Nat.blt d n=true):Sk (a.put (some d) v) n ((d,v)::L):=by
 have qc:d<a.tmps.size:=by rw[h.s];exact Ba hd
 refine⟨h.d,by simp [Act.put,h.s],λt u e=>?_⟩
 unfold sC at e
 cases hb:Nat.beq d t with
 | true=>
  have qa:d=t:=Nat.eq_of_beq_eq_true hb;subst qa;rw[hb] at e;simp only[cond_true,Option.some.injEq] at e;subst e
  simp [Act.put,qc]
 | false=>
  have qa:d≠t:=Nat.ne_of_beq_eq_false hb;rw[hb] at e;simp only[cond_false] at e;have:=h.g t u e
  simp [Act.put,Array.getElem?_setIfInBounds_ne qa,this]
theorem Sk.nil {a n L} (h:Sk a n L):Sk a n []:=⟨h.d,h.s,λt v e=>nomatch e⟩
theorem Sk.add {a n L M} (h:Sk a n L) (k:Sk a n M) {t} {v} (e:sC L t=some v):Sk a n ((t,v)::M):=by
 refine⟨h.d,h.s,λu x hu=>?_⟩
 unfold sC at hu
 cases hb:Nat.beq t u with
 | true=>
  have qa:t=u:=Nat.eq_of_beq_eq_true hb;subst qa;rw[hb] at hu;simp only[cond_true,Option.some.injEq] at hu;subst hu;exact h.g _ _ e
 | false=>rw[hb] at hu;exact k.g _ _ hu
theorem Sk.eq {a n L} (h:Sk a n L) {t} {v u} (e:sC L t=some v) (hv:v=u):Sk a n ((t,u)::L):=h.add h (by rw[e,hv])
theorem Sk.eb {a:Act} {n:Nat} {L:List (Nat×Value)} (h:Sk a n L) (t:Nat) {b c:Bool} (e:sC L t=some (.bool b)) (hv:b=c):Sk a n ((t,.bool c)::L):=h.eq e (congrArg Value.bool hv)
def sub (L:List (Nat×Vl)):List (Nat×Vl)->Prop | []=>True | (t,v)::r=>sC L t=some v/\sub L r
theorem Sk.sub {a n L} (h:Sk a n L):∀ {M:List (Nat×Vl)},sub L M->Sk a n M | [],_=>h.nil | (_,_)::_,hs=>h.add (h.sub hs.2) hs.1
def gok (ops:Array Oper) (L:List (Nat×Vl)) (g:Option (Nat×Bool)):Bool:= match g with
 | none=>true
 | some (j,want)=>match (ops[j]?).bind (·.dst) with
  | none=>false
  | some d=>match sC L d with
   | some (.bool b)=>b==want
   | _=>false
def gno (ops:Array Oper) (L:List (Nat×Vl)) (g:Option (Nat×Bool)):Bool:= match g with
 | none=>false
 | some (j,want)=>match (ops[j]?).bind (·.dst) with
  | none=>false
  | some d=>match sC L d with
   | some (.bool b)=>b != want
   | some _=>true
   | none=>false
theorem jO {ops a n L} (h:Sk a n L) {o} (hg:gok ops L o.guard=true):Region.wanted o (yielded ops a.tmps)=true:=by
 unfold gok at hg
 unfold Region.wanted
 cases ho:o.guard with
 | none=>rfl
 | some p=>
  obtain⟨j,want⟩:=p;simp only[ho] at hg ⊢
  cases hd:(ops[j]?).bind (·.dst) with
  | none=>simp [hd] at hg
  | some d=>
   simp only[hd] at hg
   cases hl:sC L d with
   | none=>simp [hl] at hg
   | some v=>
    cases v<;>simp [hl] at hg
    rename_i b;subst hg
    simp [yielded,hd,h.g _ _ hl]
theorem uH {ops a n L} (h:Sk a n L) {o} (hg:gno ops L o.guard=true):Region.wanted o (yielded ops a.tmps)=false:=by
 unfold gno at hg
 unfold Region.wanted
 cases ho:o.guard with
 | none=>simp [ho] at hg
 | some p=>
  obtain⟨j,want⟩:=p;simp only[ho] at hg ⊢
  cases hd:(ops[j]?).bind (·.dst) with
  | none=>simp [hd] at hg
  | some d=>
   simp only[hd] at hg
   cases hl:sC L d with
   | none=>simp [hl] at hg
   | some v=>
    cases v<;>simp [hl] at hg<;>simp [yielded,hd,h.g _ _ hl,hg]
section
variable {P:Program} {Q:Exit->Act->Wd->Prop} {K:Act->Wd->Prop} {a:Act} {w:Wd} {n:Nat} {L:List (Nat×Vl)}
theorem kQ {x y} (h:x.wp P (Exit.then (y.wp P Q) Q) a w):(Code.seq x y).wp P Q a w:=wp_seq h
theorem bL {id l} (h:wpList P l.toArray Q l a w):(Code.region id l.toArray false).wp P Q a w:=wp_region_lit h
theorem dM {ops} (h:Q .normal a w):wpList P ops Q [] a w:=h
theorem aU (h:K a w):Exit.then K Q .normal a w:=h
theorem xNa {i} (h:Q (.exit i) a w):Exit.then K Q (.exit i) a w:=h
theorem uR (h:Q .ret a w):Exit.then K Q .ret a w:=h
theorem xNc {i} (h:Q .normal a w):Exit.inBlock i Q .normal a w:=h
theorem xUw {i} (h:Q .normal a w):Exit.inBlock i Q (.exit i) a w:=by show(if i=i then _ else _);rw[if_pos rfl];exact h
theorem xRa {i} (h:Q .ret a w):Exit.inBlock i Q .ret a w:=h
theorem pU {i c} (h:c.wp P (Exit.inBlock i Q) a w):(Code.block i c).wp P Q a w:=wp_block h
theorem gT (h:Q .normal a w):Code.skip.wp P Q a w:=wp_skip h
theorem xDw {i} (h:Q (.exit i) a w):(Code.exit i).wp P Q a w:=wp_exit h
theorem uZ (h:Q .ret a w):Code.ret.wp P Q a w:=wp_ret h
theorem oCe (F:Sk a n L) {c} {x y} (e:ev L c=some (.bool true)) (ht:x.wp P Q a w):(Code.cond c x y).wp P Q a w:=wp_cond_true (F.ev e) ht
theorem oAs (F:Sk a n L) {c} {x y} (e:ev L c=some (.bool false)) (hf:y.wp P Q a w):(Code.cond c x y).wp P Q a w:=wp_cond_false (F.ev e) hf
theorem rP {ops Q'} (hq:∀ e a w,Q e a w->Q' e a w):∀ {l:List Oper} {a:Act} {w:Wd},wpList P ops Q l a w->wpList P ops Q' l a w
  | [],_,_,h=>hq _ _ _ h
  | o::r,a,w,h=>by
    unfold wpList at h ⊢
    split
    · rename_i hw
      rw[if_pos hw] at h
      rcases h with h | ⟨h1,a',w',h2⟩
      · refine .inl ?_
        have:=Oper.wp_mono (K':=wpList P ops Q' r) (λa w h=>rP hq h) h
        unfold Oper.wp at this ⊢
        generalize (execOp a.eval o).run P w=res at *
        cases res with
        | ok nx w'=>
          cases nx<;>simp only[Oper.upon] at this ⊢ <;>
            first
              | exact this
              | (refine Calls.mono this (λe w'' he=>?_)
                 cases e<;>first
                   | exact he
                   | exact hq _ _ _ he
                   | (obtain⟨a1,w1,h1⟩:=he;exact⟨a1,w1,hq _ _ _ h1⟩))
        | halt x w'=>cases x<;>simp only[Oper.upon] at this ⊢<;>first | exact this | exact hq _ _ _ this
      · exact .inr ⟨h1,a',w',hq _ _ _ h2⟩
    · rename_i hw
      rw[if_neg hw] at h;exact rP hq h
theorem xQp {c} (I:Nat->Act->Wd->Prop) (g:Nat) (h₀:I g a w) (xGi:∀ g a w,I g a w->c.wp P (Exit.then (λa' w'=>∃ g',g'<g/\I g' a' w') Q) a w):(Code.loop c).wp P Q a w:=wp_loop_ghost I g h₀ xGi
end
instance (n:Int):Decidable (xM n):=inferInstanceAs (Decidable (_/\_))
def ck (x:Int):Option Int:=if -9223372036854775808<=x/\x<=9223372036854775807 then some x else none
def dv (x y:Int):Option Int:=if y=0 then none else ck (x.tdiv y)
def rm (x y:Int):Option Int:=if y=0 then none else some (x.tmod y)
theorem xFk {x y} (h:ck x=some y):xM x/\x=y:=by
 unfold ck at h
 split at h
 ·exact⟨by assumption,Option.some.inj h⟩
 ·cases h
theorem oMo {x} (h:xM x):ck x=some x:=if_pos h
theorem zI {x y} (h:ck x=some y):xM y:=by obtain⟨h1,rfl⟩:=xFk h;exact h1
theorem xVz {x y} (h:dv x y=some z):y≠0/\xM (x.tdiv y)/\x.tdiv y=z:=by
 unfold dv at h
 split at h
 ·cases h
 ·exact⟨by assumption,xFk h⟩
theorem oDd {x y} (h:dv x y=some z):xM z:=by obtain⟨_,h1,rfl⟩:=xVz h;exact h1
theorem xVs {x y} (h:rm x y=some z):y≠0/\x.tmod y=z:=by
 unfold rm at h
 split at h
 ·cases h
 ·exact⟨by assumption,Option.some.inj h⟩
theorem xM.tmod {x y} (hx:xM x) (hy:xM y) (h:y≠0):xM (x.tmod y):=by
 have h1:=Int.natAbs_tmod x y;have h2:=Nat.mod_le x.natAbs y.natAbs;have h3:=Nat.mod_lt x.natAbs (show 0<y.natAbs by omega);have hx1:=hx.1;have hx2:=hx.2;have hy1:=hy.1;have hy2:=hy.2;exact⟨xG,xG⟩
theorem xHh {x y} (h:rm x y=some z) (hx:xM x) (hy:xM y):xM z:=by obtain⟨h0,rfl⟩:=xVs h;exact hx.tmod hy h0
section
variable {P:Program} {ops:Array Oper} {Q:Exit->Act->Wd->Prop} {a:Act} {w:Wd} {n:Nat} {L:List (Nat×Vl)} {rest:List Oper} {d:Nat} {dd:Option Tmp} {ty:Ty} {pos:String} {af:Array Edge} {g:Option (Nat×Bool)}
def vR (ops:Array Oper) (n:Nat) (L:List (Nat×Vl)) (g:Option (Nat×Bool)) (d:Nat):Bool:=gok ops L g && Nat.blt d n
theorem zT (F:Sk a n L) (hc:vR ops n L g d=true) {v} {w'} (hr:(execOp a.eval ⟨some d,op,ty,pos,af,g⟩).run P w= .ok (.value v) w') (k:∀ a',Sk a' n ((d,v)::L)->wpList P ops Q rest a' w'):wpList P ops Q (⟨some d,op,ty,pos,af,g⟩::rest) a w:=by
 unfold vR at hc
 rw[Be] at hc
 unfold wpList
 rw[if_pos (jO F (o:=⟨some d,op,ty,pos,af,g⟩) hc.1)];refine .inl ?_
 unfold Oper.wp
 rw[hr];exact k _ (F.put v hc.2)
theorem xUn (F:Sk a n L) (hc:gok ops L g=true) {w'} (hr:(execOp a.eval ⟨none,op,ty,pos,af,g⟩).run P w= .ok .skip w') (k:wpList P ops Q rest a w'):wpList P ops Q (⟨none,op,ty,pos,af,g⟩::rest) a w:=by
 unfold wpList
 rw[if_pos (jO F (o:=⟨none,op,ty,pos,af,g⟩) hc)];refine .inl ?_
 unfold Oper.wp
 rw[hr];exact k
theorem o_no (F:Sk a n L) (hc:gno ops L g=true) (hd:Nat.blt d n=true) (k:∀ a',Sk a' n ((d,undef)::L)->wpList P ops Q rest a' w):wpList P ops Q (⟨some d,op,ty,pos,af,g⟩::rest) a w:=by
 unfold wpList
 rw[if_neg (by rw[uH F (o:=⟨some d,op,ty,pos,af,g⟩) hc];exact Bool.false_ne_true)];exact k _ (F.put undef hd)
theorem oLs (F:Sk a n L) (hc:gno ops L g=true) (k:wpList P ops Q rest a w):wpList P ops Q (⟨none,op,ty,pos,af,g⟩::rest) a w:=by
 unfold wpList
 rw[if_neg (by rw[uH F (o:=⟨none,op,ty,pos,af,g⟩) hc];exact Bool.false_ne_true)];exact k
theorem yW {v} (F:Sk a n L) (e:ev L x=some v) {w'}:(execOp a.eval ⟨dd,.move x,ty,pos,af,g⟩).run P w'= .ok (.value (v)) w':=by
 unfold execOp;rw[<- F.ev e];rfl
theorem nQ {v} (F:Sk a n L) (hc:vR ops n L g d=true) (e:ev L x=some v) (k:∀ a',Sk a' n ((d,v)::L)->wpList P ops Q rest a' w):wpList P ops Q (⟨some d,.move x,ty,pos,af,g⟩::rest) a w:=zT F hc (yW F e) k
theorem xFc {v} (F:Sk a n L) (e:ev L x=some v) {w'}:(execOp a.eval ⟨dd,.assign x,ty,pos,af,g⟩).run P w'= .ok (.value (v)) w':=by
 unfold execOp;rw[<- F.ev e];rfl
theorem uG {v} (F:Sk a n L) (hc:vR ops n L g d=true) (e:ev L x=some v) (k:∀ a',Sk a' n ((d,v)::L)->wpList P ops Q rest a' w):wpList P ops Q (⟨some d,.assign x,ty,pos,af,g⟩::rest) a w:=zT F hc (xFc F e) k
theorem xVp {z v} (F:Sk a n L) (e:ev L x=some (.bool true)) (e':ev L y=some v) {w'}:(execOp a.eval ⟨dd,.pick x y z,ty,pos,af,g⟩).run P w'= .ok (.value (v)) w':=by
 unfold execOp;simp only[F.ev e,F.ev e'];rfl
theorem xPy {z v} (F:Sk a n L) (e:ev L x=some (.bool false)) (e':ev L z=some v) {w'}:(execOp a.eval ⟨dd,.pick x y z,ty,pos,af,g⟩).run P w'= .ok (.value (v)) w':=by
 unfold execOp;simp only[F.ev e,F.ev e'];rfl
theorem oEh {z v} (F:Sk a n L) (hc:vR ops n L g d=true) (e:ev L x=some (.bool false)) (e':ev L z=some v) (k:∀ a',Sk a' n ((d,v)::L)->wpList P ops Q rest a' w):wpList P ops Q (⟨some d,.pick x y z,ty,pos,af,g⟩::rest) a w:=zT F hc (xPy F e e') k
theorem oGk {t b} (F:Sk a n L) (e:ev L x=some (.bool b)) {w'}:(execOp a.eval ⟨dd,.unOp .not t x,ty,pos,af,g⟩).run P w'= .ok (.value (.bool (!b))) w':=by
 unfold execOp;simp only[F.ev e];rfl
theorem oKk {t t'} (F:Sk a n L) (e:ev L x=some (.int .i64 i)) (e':ev L y=some (.int .i64 j)) {w'}:(execOp a.eval ⟨dd,.binOp .eql t x y t',ty,pos,af,g⟩).run P w'= .ok (.value (.bool (i==j))) w':=by
 unfold execOp;simp only[F.ev e,F.ev e'];rfl
theorem oMp {t t'} (F:Sk a n L) (e:ev L x=some (.int .i64 i)) (e':ev L y=some (.int .i64 j)) {w'}:(execOp a.eval ⟨dd,.binOp .neq t x y t',ty,pos,af,g⟩).run P w'= .ok (.value (.bool (i != j))) w':=by
 unfold execOp;simp only[F.ev e,F.ev e'];rfl
theorem oGn {t t'} (F:Sk a n L) (e:ev L x=some (.int .i64 i)) (e':ev L y=some (.int .i64 j)) {w'}:(execOp a.eval ⟨dd,.binOp .lss t x y t',ty,pos,af,g⟩).run P w'= .ok (.value (.bool (decide (i<j)))) w':=by
 unfold execOp;simp only[F.ev e,F.ev e'];rfl
theorem oGs {t t'} (F:Sk a n L) (hc:vR ops n L g d=true) (e:ev L x=some (.int .i64 i)) (e':ev L y=some (.int .i64 j)) (k:∀ a',Sk a' n ((d,.bool (decide (i<j)))::L)->wpList P ops Q rest a' w):wpList P ops Q (⟨some d,.binOp .lss t x y t',ty,pos,af,g⟩::rest) a w:=zT F hc (oGn F e e') k
theorem oKf {t t'} (F:Sk a n L) (e:ev L x=some (.int .i64 i)) (e':ev L y=some (.int .i64 j)) {w'}:(execOp a.eval ⟨dd,.binOp .leq t x y t',ty,pos,af,g⟩).run P w'= .ok (.value (.bool (decide (i<=j)))) w':=by
 unfold execOp;simp only[F.ev e,F.ev e'];rfl
theorem oKi {t t'} (F:Sk a n L) (e:ev L x=some (.int .i64 i)) (e':ev L y=some (.int .i64 j)) {w'}:(execOp a.eval ⟨dd,.binOp .gtr t x y t',ty,pos,af,g⟩).run P w'= .ok (.value (.bool (decide (j<i)))) w':=by
 unfold execOp;simp only[F.ev e,F.ev e'];rfl
theorem oKd {t t'} (F:Sk a n L) (e:ev L x=some (.int .i64 i)) (e':ev L y=some (.int .i64 j)) {w'}:(execOp a.eval ⟨dd,.binOp .geq t x y t',ty,pos,af,g⟩).run P w'= .ok (.value (.bool (decide (j<=i)))) w':=by
 unfold execOp;simp only[F.ev e,F.ev e'];rfl
theorem wF {t t'} (F:Sk a n L) (e:ev L x=some (.int .i64 i)) (e':ev L y=some (.int .i64 j)) (hz:ck (i+j)=some z) {w'}:(execOp a.eval ⟨dd,.binOp .add t x y t',ty,pos,af,g⟩).run P w'= .ok (.value (.int .i64 z)) w':=by
 obtain⟨hi,rfl⟩:=xFk hz
 unfold execOp;simp only[F.ev e,F.ev e']
 show(Result.ok (Next.value (.int .i64 (IntKind.i64.wrap (i+j)))) w')=_
 rw[IntWalk.i64_in _ hi]
theorem oAv {t t'} (F:Sk a n L) (hc:vR ops n L g d=true) (e:ev L x=some (.int .i64 i)) (e':ev L y=some (.int .i64 j)) (hz:ck (i+j)=some z) (k:∀ a',Sk a' n ((d,.int .i64 z)::L)->wpList P ops Q rest a' w):wpList P ops Q (⟨some d,.binOp .add t x y t',ty,pos,af,g⟩::rest) a w:=zT F hc (wF F e e' hz) k
theorem xBi {t t'} (F:Sk a n L) (e:ev L x=some (.int .i64 i)) (e':ev L y=some (.int .i64 j)) (hz:ck (i - j)=some z) {w'}:(execOp a.eval ⟨dd,.binOp .sub t x y t',ty,pos,af,g⟩).run P w'= .ok (.value (.int .i64 z)) w':=by
 obtain⟨hi,rfl⟩:=xFk hz
 unfold execOp;simp only[F.ev e,F.ev e']
 show(Result.ok (Next.value (.int .i64 (IntKind.i64.wrap (i - j)))) w')=_
 rw[IntWalk.i64_in _ hi]
theorem oLl {t t'} (F:Sk a n L) (hc:vR ops n L g d=true) (e:ev L x=some (.int .i64 i)) (e':ev L y=some (.int .i64 j)) (hz:ck (i - j)=some z) (k:∀ a',Sk a' n ((d,.int .i64 z)::L)->wpList P ops Q rest a' w):wpList P ops Q (⟨some d,.binOp .sub t x y t',ty,pos,af,g⟩::rest) a w:=zT F hc (xBi F e e' hz) k
theorem yB {t t'} (F:Sk a n L) (e:ev L x=some (.int .i64 i)) (e':ev L y=some (.int .i64 j)) (hz:ck (i*j)=some z) {w'}:(execOp a.eval ⟨dd,.binOp .mul t x y t',ty,pos,af,g⟩).run P w'= .ok (.value (.int .i64 z)) w':=by
 obtain⟨hi,rfl⟩:=xFk hz
 unfold execOp;simp only[F.ev e,F.ev e']
 show(Result.ok (Next.value (.int .i64 (IntKind.i64.wrap (i*j)))) w')=_
 rw[IntWalk.i64_in _ hi]
theorem oKx {t t'} (F:Sk a n L) (hc:vR ops n L g d=true) (e:ev L x=some (.int .i64 i)) (e':ev L y=some (.int .i64 j)) (hz:ck (i*j)=some z) (k:∀ a',Sk a' n ((d,.int .i64 z)::L)->wpList P ops Q rest a' w):wpList P ops Q (⟨some d,.binOp .mul t x y t',ty,pos,af,g⟩::rest) a w:=zT F hc (yB F e e' hz) k
theorem oLy {t t':Ty} {k:Nat} (F:Sk a n L) (e:ev L x=some (.int .i64 (k:Int))) (e':ev L y=some (.int .i64 1)) (hi:xM ((k+1:Nat):Int)) {w':Wd}:(execOp a.eval ⟨dd,.binOp .add t x y t',ty,pos,af,g⟩).run P w'= .ok (.value (.int .i64 ((k+1:Nat):Int))) w':=by
 unfold execOp;simp only[F.ev e,F.ev e']
 show(Result.ok (Next.value (.int .i64 (IntKind.i64.wrap ((k:Int)+1)))) w')=_
 exact congrArg (λz=>Result.ok (Next.value (.int .i64 z)) w') (IntWalk.i64_in _ hi)
theorem oKn {t t':Ty} {k:Nat} (F:Sk a n L) (hc:vR ops n L g d=true) (e:ev L x=some (.int .i64 (k:Int))) (e':ev L y=some (.int .i64 1)) (hi:xM ((k+1:Nat):Int)) (k:∀ a',Sk a' n ((d,.int .i64 ((k+1:Nat):Int))::L)->wpList P ops Q rest a' w):wpList P ops Q (⟨some d,.binOp .add t x y t',ty,pos,af,g⟩::rest) a w:=zT F hc (oLy F e e' hi) k
theorem oLt {t t'} (F:Sk a n L) (e:ev L x=some (.int .i64 i)) (e':ev L y=some (.int .i64 j)) (hz:dv i j=some z) {w'}:(execOp a.eval ⟨dd,.binOp .quo t x y t',ty,pos,af,g⟩).run P w'= .ok (.value (.int .i64 z)) w':=by
 obtain⟨hj,hi,rfl⟩:=xVz hz
 unfold execOp;simp only[F.ev e,F.ev e']
 have h1:∀ (P:Program) (w:Wd),(eqGuard .quo t x y (.int .i64 i) (.int .i64 j)).run P w= .ok () w:=λ_ _=>rfl;have h2:Go.binOp .quo t (.int .i64 i) (.int .i64 j)=Op.intDiv .quo .i64 i j:=rfl
 simp [h1,h2,Op.intDiv,if_neg hj,IntWalk.i64_in _ hi]
theorem oKc {t t'} (F:Sk a n L) (hc:vR ops n L g d=true) (e:ev L x=some (.int .i64 i)) (e':ev L y=some (.int .i64 j)) (hz:dv i j=some z) (k:∀ a',Sk a' n ((d,.int .i64 z)::L)->wpList P ops Q rest a' w):wpList P ops Q (⟨some d,.binOp .quo t x y t',ty,pos,af,g⟩::rest) a w:=zT F hc (oLt F e e' hz) k
theorem xEv {t t'} (F:Sk a n L) (e:ev L x=some (.int .i64 i)) (e':ev L y=some (.int .i64 j)) (hz:rm i j=some z) {w'}:(execOp a.eval ⟨dd,.binOp .rem t x y t',ty,pos,af,g⟩).run P w'= .ok (.value (.int .i64 z)) w':=by
 obtain⟨hj,rfl⟩:=xVs hz
 unfold execOp;simp only[F.ev e,F.ev e']
 have h1:∀ (P:Program) (w:Wd),(eqGuard .rem t x y (.int .i64 i) (.int .i64 j)).run P w= .ok () w:=λ_ _=>rfl;have h2:Go.binOp .rem t (.int .i64 i) (.int .i64 j)=Op.intDiv .rem .i64 i j:=rfl
 simp [h1,h2,Op.intDiv,if_neg hj]
theorem oMm {t t'} (F:Sk a n L) (hc:vR ops n L g d=true) (e:ev L x=some (.int .i64 i)) (e':ev L y=some (.int .i64 j)) (hz:rm i j=some z) (k:∀ a',Sk a' n ((d,.int .i64 z)::L)->wpList P ops Q rest a' w):wpList P ops Q (⟨some d,.binOp .rem t x y t',ty,pos,af,g⟩::rest) a w:=zT F hc (xEv F e e' hz) k
theorem xAe {p} (F:Sk a n L) (e:ev L x=some (.pointer (some p))) {w'}:(execOp a.eval ⟨dd,.nilCheck x,ty,pos,af,g⟩).run P w'= .ok (.value (.pointer (some p))) w':=by
 unfold execOp;simp only[F.ev e];rfl
theorem xOo {i vs v} (F:Sk a n L) (e:ev L x=some (.tuple vs)) (hv:vs[i]?=some v) {w'}:(execOp a.eval ⟨dd,.extract x i,ty,pos,af,g⟩).run P w'= .ok (.value (v)) w':=by
 unfold execOp;simp [F.ev e,Instr.extract,hv]
theorem xOj {i vs v} (F:Sk a n L) (hc:vR ops n L g d=true) (e:ev L x=some (.tuple vs)) (hv:vs[i]?=some v) (k:∀ a',Sk a' n ((d,v)::L)->wpList P ops Q rest a' w):wpList P ops Q (⟨some d,.extract x i,ty,pos,af,g⟩::rest) a w:=zT F hc (xOo F e hv) k
theorem oGv {f xs ys us vs} (F:Sk a n L) (e:evs L xs=some us) (e':evs L ys=some vs) {w'}:(execOp a.eval ⟨dd,.makeFunc f xs.toArray ys.toArray,ty,pos,af,g⟩).run P w'= .ok (.value (.func f us.toArray vs.toArray)) w':=by
 simp [execOp,F.evs e,F.evs e',Instr.makeFunc]
theorem oHa {f xs ys us vs} (F:Sk a n L) (hc:vR ops n L g d=true) (e:evs L xs=some us) (e':evs L ys=some vs) (k:∀ a',Sk a' n ((d,.func f us.toArray vs.toArray)::L)->wpList P ops Q rest a' w):wpList P ops Q (⟨some d,.makeFunc f xs.toArray ys.toArray,ty,pos,af,g⟩::rest) a w:=zT F hc (oGv F e e') k
theorem oAn {f:FuncId} {xs:List Operand} {at':Array Ty} {vs:List Vl} {Φ:Vl->Wd->Prop} {R:Ending->Wd->Prop} (F:Sk a n L) (hc:vR ops n L g d=true) (hf:∀ args w,(callFunc f args).run P w= .ok (.enter f args) w)
 (e:evs L xs=some vs) (C:Calls P f vs.toArray w R) (hR:∀ e w',R e w'->∃ v,e= .returned v/\Φ v w')
 (k:∀ a' v w',Φ v w'->Sk a' n ((d,v)::L)->wpList P ops Q rest a' w') :
 wpList P ops Q (⟨some d,.call ⟨.value (.func f),xs.toArray,at'⟩,ty,pos,af,g⟩::rest) a w:=by
 unfold vR at hc
 rw[Be] at hc
 unfold wpList
 rw[if_pos (jO F (o:=⟨some d,.call ⟨.value (.func f),xs.toArray,at'⟩,ty,pos,af,g⟩) hc.1)];refine .inl ?_
 unfold Oper.wp
 have hr:(execOp a.eval ⟨some d,.call ⟨.value (.func f),xs.toArray,at'⟩,ty,pos,af,g⟩).run P w= .ok (.enter f vs.toArray) w:=by
  have h1:execOp a.eval ⟨some d,.call ⟨.value (.func f),xs.toArray,at'⟩,ty,pos,af,g⟩=callFunc f (#[]++xs.toArray.map a.eval ++ #[]):=rfl;rw[h1,Dp,F.evs e,Array.append_empty,Array.empty_append];exact hf _ _
 rw[hr]
 exact C.mono λe w'' he=>by
  obtain⟨v,rfl,hv⟩:=hR e w'' he;exact k _ _ _ hv (F.put v hc.2)
end
end
section
open Go.RowKit
variable {x:Operand} {α:Type} {R:ER α}
class FrC {α:Type} (sz:Nat) (R:ER α):Prop where
  fr:Fr sz R
  tot:∀ w f x bs,R w f x bs->∀ j,j<sz->∃ v:Vl,f j=some v/\v.oneCell'=true
abbrev VR (α:Type):=Wd->Vl->α->List Nat->Prop
class VF {α:Type} (V:VR α):Prop where
  same:∀ {w w' v x bs},V w v x bs->pJ bs w w'->V w' v x bs
def Pt (sz:Nat) (R:ER α):VR α:=λw v x bs=>∃ b o bi,v= .pointer (some ⟨b,o,none⟩)/\bs=b::bi/\R w (λj=>w.cell? ⟨b,o+j,none⟩) x bi
instance {α:Type} {sz:Nat} {R:ER α} [h:FrC sz R]:VF (Sl sz R):=⟨λh' hs=>h'.same h.fr hs⟩
instance {α:Type} {sz:Nat} {R:ER α} [h:FrC sz R]:VF (qR sz R):=⟨λh' hs=>h'.same h.fr hs⟩
instance {α:Type} {sz:Nat} {R:ER α} [h:FrC sz R]:VF (Pt sz R):=⟨λh' hs=>by
 obtain⟨b,o,bi,rfl,rfl,hr⟩:=h'
 exact⟨b,o,bi,rfl,rfl,h.fr _ _ _ _ _ _ hr (λc hc=>hs c (by simp [hc])) (λj _=>pZ (hs b vK) _)⟩⟩
theorem oMa {α:Type} {f:Nat->Option Vl} {v:Vl} (h:f 0=some v) (hv:v.oneCell'=true):∀ j,j<1->∃ v:Vl,f j=some v/\v.oneCell'=true:=λj hj=>⟨v,by rw[show j=0 by omega];exact h,hv⟩
theorem cJ (b o k:Nat):(⟨b,o,none⟩:Addr).add k=⟨b,o+k,none⟩:=by unfold Addr.add;split<;>simp_all
instance:FrC 1 xF:=⟨xF.fr,λw f x bs h=>oMa (α:=Nat) h.1 rfl⟩
instance {α:Type} {sz:Nat} {R:ER α} [h:FrC sz R]:FrC 1 (zV sz R):=⟨zV.fr h.fr,λw f x bs h j hj=>by
 obtain rfl:j=0:=xG;obtain⟨v,h0,a,c,rfl,_⟩:=h
 exact⟨_,h0,rfl⟩⟩
def aF:ER Bool:=λ_ f x bs=>f 0=some (.bool x)/\bs=[]
instance:FrC 1 aF:=⟨λ_ _ _ _ _ _ h _ hg=>⟨(hg 0 xG).trans h.1,h.2⟩,λw f x bs h=>oMa (α:=Nat) h.1 rfl⟩
structure Rd {α:Type} (V:VR α) (w:Wd) (v:Vl) (x:α) (bs:List Nat):Prop where
  r:V w v x bs
  m:kH bs w
def Dj (x y:List Nat):Prop:=∀ b∈x,b ∉ y
theorem Dj.symm {x y} (h:Dj x y):Dj y x:=λb hb hx=>h b hx hb
theorem Dj.nil (x:List Nat):Dj x []:=λ_ _ h=>nomatch h
theorem Dj.app' {x y z} (h:Dj x z) (k:Dj y z):Dj (x++y) z:=λb hb hm=>(Aj.1 hb).elim (λhx=>h b hx hm) (λhy=>k b hy hm)
theorem Sl.len64 {sz w v l bs} (h:Sl sz R w v l bs):xM (l.length:Int):=by
 obtain⟨a,c,rfl,h1,h2,_⟩:=h
 unfold maxLen at h2
 exact⟨xG,xG⟩
theorem Sl.nil (sz:Nat) (R:ER α) (w:Wd):Sl sz R w (.slice none 0 0) [] []:=⟨none,0,rfl,Az _,by unfold maxLen;omega,λ_=>rfl,.inl ⟨rfl,rfl⟩⟩
def ix (l:List α) (i:Int):Option α:=if 0<=i then l[i.toNat]? else none
theorem aE {l:List α} {i:Int} {x:α} (h:ix l i=some x):0<=i/\l[i.toNat]?=some x:=by
 unfold ix at h
 split at h
 ·exact⟨by assumption,h⟩
 ·cases h
section
variable {P:Program} {a:Act} {w:Wd} {n:Nat} {L:List (Nat×Vl)} {d:Option Tmp} {ty:Ty} {pos:String} {af:Array Edge} {g:Option (Nat×Bool)}
theorem oMj {sz t v l bs e} (ht:P.underlying t=some (.slice e)) (F:Sk a n L) (he:ev L x=some v) (h:Sl sz R w v l bs) (w':Wd):(execOp a.eval ⟨d,.call ⟨.builtin .len,#[x],#[t]⟩,ty,pos,af,g⟩).run P w'= .ok (.value (.int .i64 l.length)) w':=by
 obtain⟨a',c,hv⟩:=h.val;rw[BigFrame.execOp_builtin,BigFrame.builtin_len];simp only[Dp,Dg,Ew,F.ev he,hv]
 simp [Builtin.len_,run_underlying ht]
 rfl
theorem xVt {sz:Nat} {iy:Operand} {t:Ty} {v:Vl} {l:List α} {bs:List Nat} {e:Ty} {i:Int} {y:α} (ht:P.underlying t=some (.slice e)) (qc:∀ w,(sizeOf e).run P w= .ok sz w)
 (F:Sk a n L) (he:ev L x=some v) (hi:ev L iy=some (.int .i64 i)) (h:Rd (Sl sz R) w v l bs) (qd:ix l i=some y) :
 ∃ p bi,(∀ w',(execOp a.eval ⟨d,.indexAddr t x iy,ty,pos,af,g⟩).run P w'= .ok (.value p) w')/\Rd (Pt sz R) w p y bi/\∀ c∈bi,c∈bs:=by
 obtain⟨h0,hy⟩:=aE qd;obtain⟨hk,rfl⟩:=Ac.1 hy;obtain⟨a',c',rfl,h1,h2,h3,h4⟩:=h.r.open;obtain⟨b,o,bss,bi,rfl,rfl,_,_,hs,hr⟩:=h4 i.toNat hk;refine⟨.pointer (some ⟨b,o+i.toNat*sz,none⟩),b::bi,λw'=>?_,⟨⟨b,_,bi,rfl,rfl,hr⟩,λc hc=>?_⟩,λc hc=>?_⟩
 ·have qa:=cJ b o (i.toNat*sz)
  unfold execOp
  simp only[F.ev he,F.ev hi];have qe:i<(l.length:Int):=xG
  simp [Instr.indexAt,run_underlying ht,asIntOf,h0,qe,qc,qa]
 ·rcases Av.1 hc with rfl | hc
  ·exact h.m _ vK
  ·exact h.m _ (hs c hc)
 ·rcases Av.1 hc with rfl | hc
  ·simp
  ·exact hs c hc
theorem oEc {β:Type} {sz s':Nat} {R':ER β} {t:Ty} {k:Nat} {p:Vl} {y:α} {z:β} {bs:List Nat} {off:Nat} (hp:∀ (a:Addr) w,(Instr.fieldAt t (.pointer (some a)) k).run P w= .ok (.pointer (some (a.add off))) w)
 (F:Sk a n L) (he:ev L x=some p) (h:Rd (Pt sz R) w p y bs) (hf:∀ f bi,R w f y bi->∃ bj,R' w (λj=>f (off+j)) z bj/\∀ c∈bj,c∈bi) :
 ∃ p' bj,(∀ w',(execOp a.eval ⟨d,.fieldAddr t x k,ty,pos,af,g⟩).run P w'= .ok (.value p') w')/\Rd (Pt s' R') w p' z bj/\∀ c∈bj,c∈bs:=by
 obtain⟨⟨b,o,bi,rfl,rfl,hr⟩,hm⟩:=h;obtain⟨bj,hz,hs⟩:=hf _ _ hr;refine⟨.pointer (some ⟨b,o+off,none⟩),b::bj,λw'=>?_,⟨⟨b,o+off,bj,rfl,rfl,?_⟩,λc hc=>?_⟩,λc hc=>?_⟩
 ·unfold execOp
  simp only[F.ev he];have qa:=cJ b o off
  simp [hp,qa]
 ·simpa [Dn] using hz
 ·rcases Av.1 hc with rfl | hc
  ·exact hm _ vK
  ·exact hm _ (by simp [hs c hc])
 ·rcases Av.1 hc with rfl | hc
  ·simp
  ·simp [hs c hc]
theorem nW {t b o v} (qa:∀ w,(isAgg t).run P w= .ok false w) (F:Sk a n L) (he:ev L x=some (.pointer (some ⟨b,o,none⟩))) (hc:w.cell? ⟨b,o,none⟩=some v):(execOp a.eval ⟨d,.load t x,ty,pos,af,g⟩).run P w= .ok (.value v) w:=by
 unfold execOp
 simp only[F.ev he]
 simp [Instr.loadAt,Instr.sureAddr,loadVar,qa,hc]
theorem oFl {t p y bs} (qa:∀ w,(isAgg t).run P w= .ok false w) (F:Sk a n L) (he:ev L x=some p) (h:Rd (Pt 1 xF) w p y bs):(execOp a.eval ⟨d,.load t x,ty,pos,af,g⟩).run P w= .ok (.value (.int .i64 y)) w:=by
 obtain⟨⟨b,o,bi,rfl,rfl,hr⟩,hm⟩:=h;exact nW qa F he (vV hr.1)
theorem oEp {t p y bs} (qa:∀ w,(isAgg t).run P w= .ok false w) (F:Sk a n L) (he:ev L x=some p) (h:Rd (Pt 1 aF) w p y bs):(execOp a.eval ⟨d,.load t x,ty,pos,af,g⟩).run P w= .ok (.value (.bool y)) w:=by
 obtain⟨⟨b,o,bi,rfl,rfl,hr⟩,hm⟩:=h;exact nW qa F he (vV hr.1)
theorem Rd.i64 {p y bs} (h:Rd (Pt 1 xF) w p y bs):xM y:=by
 obtain⟨⟨b,o,bi,rfl,rfl,hr⟩,hm⟩:=h;exact hr.2.1
end
section
variable {P:Program} {ops:Array Oper} {Q:Exit->Act->Wd->Prop} {a:Act} {w:Wd} {n:Nat} {L:List (Nat×Vl)} {rest:List Oper} {d:Nat} {ty:Ty} {pos:String} {af:Array Edge} {g:Option (Nat×Bool)}
theorem oMl {T v arr} (F:Sk a n L) (hc:vR ops n L g d=true) (he:ev L x=some v) (ha:v.cells=arr) (k:∀ a' w' b,lG w' b arr T->Below w.heap.size w w'->w.heap.size<=b->Sk a' n ((d,.pointer (some ⟨b,0,none⟩))::L)->wpList P ops Q rest a' w'):wpList P ops Q (⟨some d,.box T x,ty,pos,af,g⟩::rest) a w:=by
 subst ha;refine zT (v:=.pointer (some ⟨w.heap.size,0,none⟩)) (w':=w.alloc (.cells v.cells T)) F hc ?_ (λa' F'=>k a' _ _ (lG.new rfl) ((Below.refl _ _).alloc (Az _) _) (Az _) F')
 unfold execOp
 simp only[F.ev he]
 rfl
theorem oFh {T z arr} (hz:∀ w,(zeroValue T).run P w= .ok z w) (F:Sk a n L) (hc:vR ops n L g d=true) (ha:z.cells=arr) (k:∀ a' w' b,lG w' b arr T->Below w.heap.size w w'->w.heap.size<=b->Sk a' n ((d,.pointer (some ⟨b,0,none⟩))::L)->wpList P ops Q rest a' w'):wpList P ops Q (⟨some d,.alloc T,ty,pos,af,g⟩::rest) a w:=by
 subst ha;refine zT (v:=.pointer (some ⟨w.heap.size,0,none⟩)) (w':=w.alloc (.cells z.cells T)) F hc ?_ (λa' F'=>k a' _ _ (lG.new rfl) ((Below.refl _ _).alloc (Az _) _) (Az _) F')
 unfold execOp
 simp [Instr.alloc,hz,newVar,newRow]
theorem xRc {t kk b o o' off} (hp:∀ (a:Addr) w,(Instr.fieldAt t (.pointer (some a)) kk).run P w= .ok (.pointer (some (a.add off))) w)
 (F:Sk a n L) (hc:vR ops n L g d=true) (he:ev L x=some (.pointer (some ⟨b,o,none⟩))) (ho:o+off=o')
 (k:∀ a',Sk a' n ((d,.pointer (some ⟨b,o',none⟩))::L)->wpList P ops Q rest a' w) :
 wpList P ops Q (⟨some d,.fieldAddr t x kk,ty,pos,af,g⟩::rest) a w:=by
 subst ho;refine zT F hc ?_ k
 unfold execOp
 have qa:=cJ b o off
 simp [F.ev he,hp,qa]
theorem oEe {t b o v arr T} (qa:∀ w,(isAgg t).run P w= .ok false w) (F:Sk a n L) (hc:vR ops n L g d=true) (he:ev L x=some (.pointer (some ⟨b,o,none⟩))) (h:lG w b arr T) (hv:arr[o]?=some v) (k:∀ a',Sk a' n ((d,v)::L)->wpList P ops Q rest a' w):wpList P ops Q (⟨some d,.load t x,ty,pos,af,g⟩::rest) a w:=zT F hc (nW qa F he ((h.cell o).trans hv)) k
theorem oAx {t:Ty} {b o sz:Nat} {cs:List Vl} {arr:Array Vl} {T:Ty} (qc:∀ w,(isAgg t).run P w= .ok true w) (qd:∀ w,(sizeOf t).run P w= .ok sz w) (F:Sk a n L) (hc:vR ops n L g d=true) (he:ev L x=some (.pointer (some ⟨b,o,none⟩))) (h:lG w b arr T) (hl:cs.length=sz)
 (hv:∀ j,j<sz->arr[o+j]?=cs[j]?)
 (k:∀ a',Sk a' n ((d,.agg cs.toArray)::L)->wpList P ops Q rest a' w):wpList P ops Q (⟨some d,.load t x,ty,pos,af,g⟩::rest) a w:=by
 subst hl;refine zT F hc ?_ k
 unfold execOp
 simp only[F.ev he]
 have hl:=run_loadCells_list (P:=P) w ⟨b,o,none⟩ cs (λj v hj=>by
  have qe:j<cs.length:=(Ac.1 hj).1;have qa:=cJ b o j
  rw[qa,h.cell,hv j qe,hj])
 simp [Instr.loadAt,Instr.sureAddr,loadVar,qc,qd,hl]
theorem xFt {y t b o v arr arr' T} (qa:∀ w,(sizeOf t).run P w= .ok 1 w) (F:Sk a n L) (hc:gok ops L g=true) (he:ev L x=some (.pointer (some ⟨b,o,none⟩))) (qc:ev L y=some v) (h:lG w b arr T) (hv:v.oneCell'=true) (ho:o<arr.size) (ha:arr.setIfInBounds o v=arr')
 (k:∀ w',lG w' b arr' T->B5 [b] w w'->wpList P ops Q rest a w'):wpList P ops Q (⟨none,.store t x y,ty,pos,af,g⟩::rest) a w:=by
 subst ha;refine xUn (w':=w.setCell ⟨b,o,none⟩ v) F hc ?_ (k _ (h.set_at rfl) ⟨rfl,rfl,rfl,vK,λk _ hk=>Below.heap_setCell _ _ _ _ (vV hk)⟩)
 have h1:v.cells = #[v]:=by cases v<;>first | rfl | simp [Value.oneCell'] at hv
 have h2:w.cell? ⟨b,o,none⟩=some arr[o]:=by rw[h.cell,Dc ho]
 unfold execOp
 simp only[F.ev he,F.ev qc]
 simp [Instr.storeAt,Instr.sureAddr,storeVar,qa,h1,storeCells,Addr.add,run_store P w _ v _ hv,h2,h.frozen]
theorem xOf {y t b o vs arr arr' T} (qc:∀ w,(sizeOf t).run P w= .ok vs.length w) (F:Sk a n L) (hc:gok ops L g=true) (he:ev L x=some (.pointer (some ⟨b,o,none⟩))) (qd:ev L y=some (.agg vs.toArray)) (h:lG w b arr T) (hv:∀ v∈vs,v.oneCell'=true) (ho:o+vs.length<=arr.size)
 (ha:(arr.toList.take o++vs++arr.toList.drop (o+vs.length)).toArray=arr')
 (k:∀ w',lG w' b arr' T->B5 [b] w w'->wpList P ops Q rest a w'):wpList P ops Q (⟨none,.store t x y,ty,pos,af,g⟩::rest) a w:=by
 subst ha;have qa:=run_storeCells_at P b o T vs 0 arr w h (vV ho) hv;simp only[Cd] at qa;refine xUn (w':=w.setRow b (arr.toList.take o++vs++arr.toList.drop (o+vs.length)).toArray) F hc ?_ (k _ (setRow_heap w b arr _ T _ h) ⟨rfl,rfl,rfl,?_,λk _ hk=>?_⟩)
 ·unfold execOp
  simp only[F.ev he,F.ev qd]
  simp [Instr.storeAt,Instr.sureAddr,storeVar,qc,Value.cells,qa]
 ·simp [World.setRow]
 ·have qe:k≠b:=vV hk
  simp [World.setRow,Array.getElem?_modify,qe.symm]
end
section
variable {P:Program}
theorem xQh {f fn c vs n L w R} (hf:P.funcs[f]?=some fn) (hb:fn.body=some c) (hn:fn.ntmps=n) (hl:Nat.ble vs.length n=true)
 (hL:sub (((List.range vs.length).zip vs)) L) (k:∀ a,Sk a n L->c.wp P (bodyPost P fn R) a w):Calls P f vs.toArray w R:=by
 refine calls_of_wp hf hb (k _ (Sk.sub (L:=(List.range vs.length).zip vs) ?_ hL));subst hn;have hl':=Ba hl;refine⟨rfl,by simp;omega,λt v e=>?_⟩
 have key:∀ (l:List Vl) (o:Nat),sC ((List.range' o l.length).zip l) t=some v->o<=t/\l[t - o]?=some v:=by
  intro l
  induction l with
  | nil=>intro o h;cases h
  | cons x r ih=>
   intro o h;simp only[Ao,Dw,List.zip_cons_cons,sC] at h
   cases hb:Nat.beq o t with
   | true=>
    have qa:o=t:=Nat.eq_of_beq_eq_true hb;subst qa;rw[hb] at h;simp only[cond_true,Option.some.injEq] at h;subst h;exact⟨Az _,vK⟩
   | false=>
    rw[hb] at h;obtain⟨h1,h2⟩:=ih (o+1) h;refine⟨xG,?_⟩;rw[show t - o=(t - (o+1))+1 by omega,List.getElem?_cons_succ];exact h2
 rw[List.range_eq_range'] at e;obtain⟨_,h2⟩:=key vs 0 e;rw[Fg] at h2;have h3:t<vs.length:=(Ac.1 h2).1;simp only[Fc,Array.getElem?_append,h3,if_true]
 simpa using h2
theorem oHy {fn R a w} (h:bodyPost P fn R .ret a w):bodyPost P fn R .normal a w:=h
end
end
section
open Go.RowKit
variable {α:Type} {ρ:Type} {σ:Type}
inductive Ctl (σ ρ:Type) where
  | go (s:σ)
  | brk (s:σ)
  | ret (r:ρ)
inductive Out (σ ρ:Type) where
  | nx (s:σ)
  | ret (r:ρ)
def ap (l m:List α):Option (List α):=if (l.length+m.length)*1024<=140737488355328 then some (l++m) else none
def sl (l:List α) (i j:Int):Option (List α):=if 0<=i/\i<=j/\j<=l.length then some ((l.take j.toNat).drop i.toNat) else none
def qD (o:Option (Out σ ρ)) (k:σ->Option ρ):Option ρ:= match o with
 | none=>none
 | some (.nx s)=>k s
 | some (.ret r)=>some r
def xH {β:Type} (o:Option α) (k:α->Option β):Option β:= match o with
 | none=>none
 | some x=>k x
def oM {α σ ρ:Type} (body:Nat->α->σ->Option (Ctl σ ρ)):List α->Nat->σ->Option (Out σ ρ)
 | [],_,s=>some (.nx s)
 | x::r,k,s=>match body k x s with
  | none=>none
  | some (.go s')=>oM body r (k+1) s'
  | some (.brk s')=>some (.nx s')
  | some (.ret v)=>some (.ret v)
def qU {σ ρ:Type} (body:Nat->σ->Option (Ctl σ ρ)):Nat->Nat->σ->Option (Out σ ρ)
 | 0,_,s=>some (.nx s)
 | m+1,k,s=>match body k s with
  | none=>none
  | some (.go s')=>qU body m (k+1) s'
  | some (.brk s')=>some (.nx s')
  | some (.ret v)=>some (.ret v)
def lF {σ ρ:Type} (body:σ->Option (Ctl σ ρ)):Nat->σ->Option (Out σ ρ)
 | 0,_=>none
 | m+1,s=>match body s with
  | none=>none
  | some (.go s')=>lF body m s'
  | some (.brk s')=>some (.nx s')
  | some (.ret v)=>some (.ret v)
theorem oEk {l m r:List α} (h:ap l m=some r):(l.length+m.length)*1024<=140737488355328/\l++m=r:=by
 unfold ap at h
 split at h
 ·exact⟨by assumption,Option.some.inj h⟩
 ·cases h
theorem xJp {l r:List α} {i j:Int} (h:sl l i j=some r):0<=i/\i<=j/\j<=l.length/\(l.take j.toNat).drop i.toNat=r:=by
 unfold sl at h
 split at h
 ·rename_i h1
  exact⟨h1.1,h1.2.1,h1.2.2,Option.some.inj h⟩
 ·cases h
theorem bP {β:Type} {o:Option α} {k:α->Option β} {r:β} (h:xH o k=some r):∃ x,o=some x/\k x=some r:=by
 cases o with
 | none=>cases h
 | some x=>exact⟨x,rfl,h⟩
def oHs (k:σ->Option ρ) (r:ρ):Out σ ρ->Prop | .nx s=>k s=some r | .ret v=>v=r
theorem xLp {o:Option (Out σ ρ)} {k:σ->Option ρ} {r:ρ} (h:qD o k=some r):∃ x,o=some x/\oHs k r x:=by
 cases o with
 | none=>cases h
 | some x=>
  cases x with
  | nx s=>exact⟨_,rfl,h⟩
  | ret v=>exact⟨_,rfl,Option.some.inj h⟩
def Nxt (k:σ->Option (Out σ ρ)) (r:Out σ ρ):Ctl σ ρ->Prop | .go s=>k s=some r | .brk s=>r= .nx s | .ret v=>r= .ret v
theorem xWz {body:Nat->α->σ->Option (Ctl σ ρ)} {x:α} {l:List α} {k:Nat} {s:σ} {r:Out σ ρ} (h:oM body (x::l) k s=some r):∃ c,body k x s=some c/\Nxt (oM body l (k+1)) r c:=by
 unfold oM at h
 cases hb:body k x s with
 | none=>simp [hb] at h
 | some c=>
  refine⟨c,rfl,?_⟩
  cases c<;>simp only[hb] at h
  ·exact h
  ·exact(Option.some.inj h).symm
  ·exact(Option.some.inj h).symm
theorem xXq {body:Nat->σ->Option (Ctl σ ρ)} {m k:Nat} {s:σ} {r:Out σ ρ} (h:qU body (m+1) k s=some r):∃ c,body k s=some c/\Nxt (qU body m (k+1)) r c:=by
 unfold qU at h
 cases hb:body k s with
 | none=>simp [hb] at h
 | some c=>
  refine⟨c,rfl,?_⟩
  cases c<;>simp only[hb] at h
  ·exact h
  ·exact(Option.some.inj h).symm
  ·exact(Option.some.inj h).symm
theorem xXh {body:σ->Option (Ctl σ ρ)} {m:Nat} {s:σ} {r:Out σ ρ} (h:lF body m s=some r):∃ c m',m=m'+1/\body s=some c/\Nxt (lF body m') r c:=by
 cases m with
 | zero=>cases h
 | succ m'=>
  unfold lF at h
  cases hb:body s with
  | none=>simp [hb] at h
  | some c=>
   refine⟨c,m',rfl,rfl,?_⟩
   cases c<;>simp only[hb] at h
   ·exact h
   ·exact(Option.some.inj h).symm
   ·exact(Option.some.inj h).symm
theorem xCr {l:List α} {k:Nat} {x:α} {t:List α} (e:l.drop k=x::t):k<l.length/\l[k]?=some x/\l.drop (k+1)=t:=by
 have h1:k<l.length:=by
  have:=congrArg List.length e
  simp at this
  omega
 rw[Bt h1] at e
 injection e with e1 e2
 exact⟨h1,by rw[Aa h1,e1],e2⟩
theorem oJp {P:Program} {Q:Exit->Act->Wd->Prop} {a:Act} {w:Wd} {c:Code} (M:Act->Wd->Prop) (h:c.wp P (Exit.then M Q) a w) (k:∀ a w,M a w->Q .normal a w):c.wp P Q a w:= Code.wp_mono (λe a w q=>by cases e<;>first | exact k _ _ q | exact q) h
section
variable {P:Program} {ops:Array Oper} {C:Wd->Prop} {K:Act->Prop} {a:Act} {w:Wd} {n:Nat} {L:List (Nat×Vl)} {rest:List Oper} {d:Nat} {ty:Ty} {pos:String} {af:Array Edge} {g:Option (Nat×Bool)}
theorem oIu {Q id l} (hm:P.follows .mixedOrders=true) (qa:Region.lexB .any l.toArray=true) (h:wpQuiet P l.toArray (λw'=>Below w.heap.size w w') (λa'=>∀ w',Below w.heap.size w w'->Q .normal a' w') l a):(Code.region id l.toArray true).wp P Q a w:= wp_region_quiet (C:=λw'=>Below w.heap.size w w') hm qa (Below.refl _ _).drew (vV h)
theorem oMn (h:K a):wpQuiet P ops C K [] a:=h
theorem nE {op v} (F:Sk a n L) (hc:vR ops n L g d=true) (hr:∀ w,C w->(execOp a.eval ⟨some d,op,ty,pos,af,g⟩).run P w= .ok (.value v) w) (k:∀ a',Sk a' n ((d,v)::L)->wpQuiet P ops C K rest a'):wpQuiet P ops C K (⟨some d,op,ty,pos,af,g⟩::rest) a:=by
 unfold vR at hc
 rw[Be] at hc
 unfold wpQuiet
 rw[if_pos (jO F (o:=⟨some d,op,ty,pos,af,g⟩) hc.1)];exact⟨v,λw hw=>by unfold Oper.quietAt;rw[hr w hw];exact⟨rfl,rfl⟩,k _ (F.put v hc.2)⟩
theorem oMu {x:Operand} {v:Value} (F:Sk a n L) (hc:vR ops n L g d=true) (e:ev L x=some v) (k:∀ a',Sk a' n ((d,v)::L)->wpQuiet P ops C K rest a'):wpQuiet P ops C K (⟨some d,.move x,ty,pos,af,g⟩::rest) a:=nE F hc (λw l=>yW F e) k
theorem oLn {x:Operand} {v:Value} (F:Sk a n L) (hc:vR ops n L g d=true) (e:ev L x=some v) (k:∀ a',Sk a' n ((d,v)::L)->wpQuiet P ops C K rest a'):wpQuiet P ops C K (⟨some d,.assign x,ty,pos,af,g⟩::rest) a:=nE F hc (λw l=>xFc F e) k
theorem oHm {x:Operand} {p:Addr} (F:Sk a n L) (hc:vR ops n L g d=true) (e:ev L x=some (.pointer (some p))) (k:∀ a',Sk a' n ((d,(.pointer (some p)))::L)->wpQuiet P ops C K rest a'):wpQuiet P ops C K (⟨some d,.nilCheck x,ty,pos,af,g⟩::rest) a:=nE F hc (λw l=>xAe F e) k
theorem q_not {x:Operand} {t:TypeId} {b:Bool} (F:Sk a n L) (hc:vR ops n L g d=true) (e:ev L x=some (.bool b)) (k:∀ a',Sk a' n ((d,(.bool (!b)))::L)->wpQuiet P ops C K rest a'):wpQuiet P ops C K (⟨some d,.unOp .not t x,ty,pos,af,g⟩::rest) a:=nE F hc (λw l=>oGk F e) k
theorem oMs {x y z:Operand} {v:Value} (F:Sk a n L) (hc:vR ops n L g d=true) (e:ev L x=some (.bool true)) (e':ev L y=some v) (k:∀ a',Sk a' n ((d,v)::L)->wpQuiet P ops C K rest a'):wpQuiet P ops C K (⟨some d,.pick x y z,ty,pos,af,g⟩::rest) a:=nE F hc (λw l=>xVp F e e') k
theorem oMt {x y z:Operand} {v:Value} (F:Sk a n L) (hc:vR ops n L g d=true) (e:ev L x=some (.bool false)) (e':ev L z=some v) (k:∀ a',Sk a' n ((d,v)::L)->wpQuiet P ops C K rest a'):wpQuiet P ops C K (⟨some d,.pick x y z,ty,pos,af,g⟩::rest) a:=nE F hc (λw l=>xPy F e e') k
theorem q_no {op} (F:Sk a n L) (hc:gno ops L g=true) (hd:Nat.blt d n=true) (k:∀ a',Sk a' n ((d,undef)::L)->wpQuiet P ops C K rest a'):wpQuiet P ops C K (⟨some d,op,ty,pos,af,g⟩::rest) a:=by
 unfold wpQuiet
 rw[if_neg (by rw[uH F (o:=⟨some d,op,ty,pos,af,g⟩) hc];exact Bool.false_ne_true)];exact k _ (F.put undef hd)
theorem oCa {f xs at' vs v} (F:Sk a n L) (hc:vR ops n L g d=true) (hf:∀ args w,(callFunc f args).run P w= .ok (.enter f args) w)
 (e:evs L xs=some vs) (hC:∀ w w',C w->Below w.heap.size w w'->C w') (cl:∀ w,C w->Calls P f vs.toArray w (xUt v w))
 (k:∀ a',Sk a' n ((d,v)::L)->wpQuiet P ops C K rest a') :
 wpQuiet P ops C K (⟨some d,.call ⟨.value (.func f),xs.toArray,at'⟩,ty,pos,af,g⟩::rest) a:=by
 unfold vR at hc
 rw[Be] at hc
 unfold wpQuiet
 rw[if_pos (jO F (o:=⟨some d,.call ⟨.value (.func f),xs.toArray,at'⟩,ty,pos,af,g⟩) hc.1)];refine⟨v,λw hw=>?_,k _ (F.put v hc.2)⟩
 have hr:(execOp a.eval ⟨some d,.call ⟨.value (.func f),xs.toArray,at'⟩,ty,pos,af,g⟩).run P w= .ok (.enter f vs.toArray) w:=by
  have h1:execOp a.eval ⟨some d,.call ⟨.value (.func f),xs.toArray,at'⟩,ty,pos,af,g⟩=callFunc f (#[]++xs.toArray.map a.eval ++ #[]):=rfl;rw[h1,Dp,F.evs e,Array.append_empty,Array.empty_append];exact hf _ _
 unfold Oper.quietAt
 rw[hr];exact⟨rfl,(cl w hw).mono λe w'' h=>⟨h.1,hC _ _ hw h.2⟩⟩
end
end
section
open Go.RowKit
variable {bs:List Nat} {v1:Vl} {b1:List Nat}
structure Rel where
  arity:Int
  tuples:List (List Int)
instance:Inhabited Rel:=⟨⟨0,[]⟩⟩
def oR:ER Rel:=λw f x bs=>∃ v1:Vl,∃ b1:List Nat,f 0=some (.int .i64 x.arity)/\xM x.arity/\f 1=some v1/\Sl 1 tX w v1 x.tuples b1/\bs=b1
theorem oR.fr:Fr 2 oR:=by
 intro w w' f g x bs h hs hg;obtain⟨v1,b1,h0,k0,h1,k1,rfl⟩:=h;exact⟨v1,_,(hg 0 xG).trans h0,k0,(hg 1 xG).trans h1,k1.same tX.fr (λc hc=>hs c (by simp [hc])),rfl⟩
theorem oR.open {w v x} (h:qR 2 oR w v x bs):∃ v1:Vl,∃ b1:List Nat,v= .agg #[.int .i64 x.arity,v1]/\xM x.arity/\Sl 1 tX w v1 x.tuples b1/\bs=b1:=by
 obtain⟨cs,hl,rfl,v1,b1,h0,k0,h1,k1,rfl⟩:=h
 match cs,hl with
 | [c0,c1],_=>
  obtain rfl:=Option.some.inj h0;obtain rfl:=Option.some.inj h1;exact⟨_,_,rfl,k0,k1,rfl⟩
theorem oR.mk' {w x} (h0:xM x.arity) (h1:Sl 1 tX w v1 x.tuples b1):qR 2 oR w (.agg #[.int .i64 x.arity,v1]) x (b1):= ⟨[.int .i64 x.arity,v1],rfl,rfl,_,_,rfl,h0,rfl,h1,rfl⟩
structure A6 where
  size:Int
  rels:List Rel
instance:Inhabited A6:=⟨⟨0,[]⟩⟩
def xC:ER A6:=λw f x bs=>∃ v1:Vl,∃ b1:List Nat,f 0=some (.int .i64 x.size)/\xM x.size/\f 1=some v1/\Sl 2 oR w v1 x.rels b1/\bs=b1
theorem xC.fr:Fr 2 xC:=by
 intro w w' f g x bs h hs hg;obtain⟨v1,b1,h0,k0,h1,k1,rfl⟩:=h;exact⟨v1,_,(hg 0 xG).trans h0,k0,(hg 1 xG).trans h1,k1.same oR.fr (λc hc=>hs c (by simp [hc])),rfl⟩
theorem xC.open {w v x} (h:qR 2 xC w v x bs):∃ v1:Vl,∃ b1:List Nat,v= .agg #[.int .i64 x.size,v1]/\xM x.size/\Sl 2 oR w v1 x.rels b1/\bs=b1:=by
 obtain⟨cs,hl,rfl,v1,b1,h0,k0,h1,k1,rfl⟩:=h
 match cs,hl with
 | [c0,c1],_=>
  obtain rfl:=Option.some.inj h0;obtain rfl:=Option.some.inj h1;exact⟨_,_,rfl,k0,k1,rfl⟩
theorem xC.mk' {w x} (h0:xM x.size) (h1:Sl 2 oR w v1 x.rels b1):qR 2 xC w (.agg #[.int .i64 x.size,v1]) x (b1):= ⟨[.int .i64 x.size,v1],rfl,rfl,_,_,rfl,h0,rfl,h1,rfl⟩
structure Op where
  arity:Int
  table:List Int
def vX:ER Op:=λw f x bs=>∃ v1:Vl,∃ b1:List Nat,f 0=some (.int .i64 x.arity)/\xM x.arity/\f 1=some v1/\Sl 1 xF w v1 x.table b1/\bs=b1
theorem vX.fr:Fr 2 vX:=by
 intro w w' f g x bs h hs hg;obtain⟨v1,b1,h0,k0,h1,k1,rfl⟩:=h;exact⟨v1,_,(hg 0 xG).trans h0,k0,(hg 1 xG).trans h1,k1.same xF.fr (λc hc=>hs c (by simp [hc])),rfl⟩
theorem vX.open {w v x} (h:qR 2 vX w v x bs):∃ v1:Vl,∃ b1:List Nat,v= .agg #[.int .i64 x.arity,v1]/\xM x.arity/\Sl 1 xF w v1 x.table b1/\bs=b1:=by
 obtain⟨cs,hl,rfl,v1,b1,h0,k0,h1,k1,rfl⟩:=h
 match cs,hl with
 | [c0,c1],_=>
  obtain rfl:=Option.some.inj h0;obtain rfl:=Option.some.inj h1;exact⟨_,_,rfl,k0,k1,rfl⟩
theorem vX.mk' {w x} (h0:xM x.arity) (h1:Sl 1 xF w v1 x.table b1):qR 2 vX w (.agg #[.int .i64 x.arity,v1]) x (b1):= ⟨[.int .i64 x.arity,v1],rfl,rfl,_,_,rfl,h0,rfl,h1,rfl⟩
structure Con where
  rel:Int
  scope:List Int
instance:Inhabited Con:=⟨⟨0,[]⟩⟩
def vH:ER Con:=λw f x bs=>∃ v1:Vl,∃ b1:List Nat,f 0=some (.int .i64 x.rel)/\xM x.rel/\f 1=some v1/\Sl 1 xF w v1 x.scope b1/\bs=b1
theorem vH.fr:Fr 2 vH:=by
 intro w w' f g x bs h hs hg;obtain⟨v1,b1,h0,k0,h1,k1,rfl⟩:=h;exact⟨v1,_,(hg 0 xG).trans h0,k0,(hg 1 xG).trans h1,k1.same xF.fr (λc hc=>hs c (by simp [hc])),rfl⟩
theorem vH.open {w v x} (h:qR 2 vH w v x bs):∃ v1:Vl,∃ b1:List Nat,v= .agg #[.int .i64 x.rel,v1]/\xM x.rel/\Sl 1 xF w v1 x.scope b1/\bs=b1:=by
 obtain⟨cs,hl,rfl,v1,b1,h0,k0,h1,k1,rfl⟩:=h
 match cs,hl with
 | [c0,c1],_=>
  obtain rfl:=Option.some.inj h0;obtain rfl:=Option.some.inj h1;exact⟨_,_,rfl,k0,k1,rfl⟩
theorem vH.mk' {w x} (h0:xM x.rel) (h1:Sl 1 xF w v1 x.scope b1):qR 2 vH w (.agg #[.int .i64 x.rel,v1]) x (b1):= ⟨[.int .i64 x.rel,v1],rfl,rfl,_,_,rfl,h0,rfl,h1,rfl⟩
structure A7 where
  vars:Int
  cons:List Con
instance:Inhabited A7:=⟨⟨0,[]⟩⟩
def xJ:ER A7:=λw f x bs=>∃ v1:Vl,∃ b1:List Nat,f 0=some (.int .i64 x.vars)/\xM x.vars/\f 1=some v1/\Sl 2 vH w v1 x.cons b1/\bs=b1
theorem xJ.fr:Fr 2 xJ:=by
 intro w w' f g x bs h hs hg;obtain⟨v1,b1,h0,k0,h1,k1,rfl⟩:=h;exact⟨v1,_,(hg 0 xG).trans h0,k0,(hg 1 xG).trans h1,k1.same vH.fr (λc hc=>hs c (by simp [hc])),rfl⟩
theorem xJ.open {w v x} (h:qR 2 xJ w v x bs):∃ v1:Vl,∃ b1:List Nat,v= .agg #[.int .i64 x.vars,v1]/\xM x.vars/\Sl 2 vH w v1 x.cons b1/\bs=b1:=by
 obtain⟨cs,hl,rfl,v1,b1,h0,k0,h1,k1,rfl⟩:=h
 match cs,hl with
 | [c0,c1],_=>
  obtain rfl:=Option.some.inj h0;obtain rfl:=Option.some.inj h1;exact⟨_,_,rfl,k0,k1,rfl⟩
theorem xJ.mk' {w x} (h0:xM x.vars) (h1:Sl 2 vH w v1 x.cons b1):qR 2 xJ w (.agg #[.int .i64 x.vars,v1]) x (b1):= ⟨[.int .i64 x.vars,v1],rfl,rfl,_,_,rfl,h0,rfl,h1,rfl⟩
structure B1 where
  var:Int
  value:Int
  con:Int
def xS:ER B1:=λw f x bs=>f 0=some (.int .i64 x.var)/\xM x.var/\f 1=some (.int .i64 x.value)/\xM x.value/\f 2=some (.int .i64 x.con)/\xM x.con/\bs=[]
theorem xS.fr:Fr 3 xS:=by
 intro w w' f g x bs h _ hg;obtain⟨h0,k0,h1,k1,h2,k2,rfl⟩:=h;exact⟨(hg 0 xG).trans h0,k0,(hg 1 xG).trans h1,k1,(hg 2 xG).trans h2,k2,rfl⟩
theorem xS.open {w:Wd} {v:Vl} {x:B1} (h:qR 3 xS w v x bs):v= .agg #[.int .i64 x.var,.int .i64 x.value,.int .i64 x.con]/\xM x.var/\xM x.value/\xM x.con/\bs=[]:=by
 obtain⟨cs,hl,rfl,h0,k0,h1,k1,h2,k2,rfl⟩:=h
 match cs,hl with
 | [c0,c1,c2],_=>
  obtain rfl:=Option.some.inj h0;obtain rfl:=Option.some.inj h1;obtain rfl:=Option.some.inj h2;exact⟨rfl,k0,k1,k2,rfl⟩
theorem xS.mk' {w x}  (h0:xM x.var) (h1:xM x.value) (h2:xM x.con):qR 3 xS w (.agg #[.int .i64 x.var,.int .i64 x.value,.int .i64 x.con]) x ([]):= ⟨[.int .i64 x.var,.int .i64 x.value,.int .i64 x.con],rfl,rfl,rfl,h0,rfl,h1,rfl,h2,rfl⟩
structure B0 where
  i:Int
  j:Int
  through:Int
def xO:ER B0:=λw f x bs=>f 0=some (.int .i64 x.i)/\xM x.i/\f 1=some (.int .i64 x.j)/\xM x.j/\f 2=some (.int .i64 x.through)/\xM x.through/\bs=[]
theorem xO.fr:Fr 3 xO:=by
 intro w w' f g x bs h _ hg;obtain⟨h0,k0,h1,k1,h2,k2,rfl⟩:=h;exact⟨(hg 0 xG).trans h0,k0,(hg 1 xG).trans h1,k1,(hg 2 xG).trans h2,k2,rfl⟩
theorem xO.open {w v x} (h:qR 3 xO w v x bs):v= .agg #[.int .i64 x.i,.int .i64 x.j,.int .i64 x.through]/\xM x.i/\xM x.j/\xM x.through/\bs=[]:=by
 obtain⟨cs,hl,rfl,h0,k0,h1,k1,h2,k2,rfl⟩:=h
 match cs,hl with
 | [c0,c1,c2],_=>
  obtain rfl:=Option.some.inj h0;obtain rfl:=Option.some.inj h1;obtain rfl:=Option.some.inj h2;exact⟨rfl,k0,k1,k2,rfl⟩
theorem xO.mk' {w x}  (h0:xM x.i) (h1:xM x.j) (h2:xM x.through):qR 3 xO w (.agg #[.int .i64 x.i,.int .i64 x.j,.int .i64 x.through]) x ([]):= ⟨[.int .i64 x.i,.int .i64 x.j,.int .i64 x.through],rfl,rfl,rfl,h0,rfl,h1,rfl,h2,rfl⟩
structure A9 where
  kind:Int
  values:List Int
  arcs:List B1
  pairs:List B0
  numbers:List Int
def oK:ER A9:=λw f x bs=>∃ v1 v2 v3 v4:Vl,∃ b1 b2 b3 b4:List Nat,f 0=some (.int .i64 x.kind)/\xM x.kind/\f 1=some v1/\Sl 1 xF w v1 x.values b1/\f 2=some v2/\Sl 3 xS w v2 x.arcs b2/\f 3=some v3/\Sl 3 xO w v3 x.pairs b3/\f 4=some v4/\Sl 1 xF w v4 x.numbers b4/\bs=b1++b2++b3++b4
theorem oK.fr:Fr 5 oK:=by
 intro w w' f g x bs h hs hg;obtain⟨v1,v2,v3,v4,b1,b2,b3,b4,h0,k0,h1,k1,h2,k2,h3,k3,h4,k4,rfl⟩:=h;exact⟨v1,v2,v3,v4,_,_,_,_,(hg 0 xG).trans h0,k0,(hg 1 xG).trans h1,k1.same xF.fr (λc hc=>hs c (by simp [hc])),(hg 2 xG).trans h2,k2.same xS.fr (λc hc=>hs c (by simp [hc])),(hg 3 xG).trans h3,k3.same xO.fr (λc hc=>hs c (by simp [hc])),(hg 4 xG).trans h4,k4.same xF.fr (λc hc=>hs c (by simp [hc])),rfl⟩
theorem oK.open {w:Wd} {v:Vl} {x:A9} (h:qR 5 oK w v x bs):∃ v1 v2 v3 v4:Vl,∃ b1 b2 b3 b4:List Nat,v= .agg #[.int .i64 x.kind,v1,v2,v3,v4]/\xM x.kind/\Sl 1 xF w v1 x.values b1/\Sl 3 xS w v2 x.arcs b2/\Sl 3 xO w v3 x.pairs b3/\Sl 1 xF w v4 x.numbers b4/\bs=b1++b2++b3++b4:=by
 obtain⟨cs,hl,rfl,v1,v2,v3,v4,b1,b2,b3,b4,h0,k0,h1,k1,h2,k2,h3,k3,h4,k4,rfl⟩:=h
 match cs,hl with
 | [c0,c1,c2,c3,c4],_=>
  obtain rfl:=Option.some.inj h0;obtain rfl:=Option.some.inj h1;obtain rfl:=Option.some.inj h2;obtain rfl:=Option.some.inj h3;obtain rfl:=Option.some.inj h4;exact⟨_,_,_,_,_,_,_,_,rfl,k0,k1,k2,k3,k4,rfl⟩
theorem oK.mk' {w x v2 b2 v3 b3 v4 b4} (h0:xM x.kind) (h1:Sl 1 xF w v1 x.values b1) (h2:Sl 3 xS w v2 x.arcs b2) (h3:Sl 3 xO w v3 x.pairs b3) (h4:Sl 1 xF w v4 x.numbers b4):qR 5 oK w (.agg #[.int .i64 x.kind,v1,v2,v3,v4]) x (b1++b2++b3++b4):= ⟨[.int .i64 x.kind,v1,v2,v3,v4],rfl,rfl,_,_,_,_,_,_,_,_,rfl,h0,rfl,h1,rfl,h2,rfl,h3,rfl,h4,rfl⟩
structure A8 where
  left:List Int
  right:Int
def xL:ER A8:=λw f x bs=>∃ v0:Vl,∃ b0:List Nat,f 0=some v0/\Sl 1 xF w v0 x.left b0/\f 1=some (.int .i64 x.right)/\xM x.right/\bs=b0
theorem xL.fr:Fr 2 xL:=by
 intro w w' f g x bs h hs hg;obtain⟨v0,b0,h0,k0,h1,k1,rfl⟩:=h;exact⟨v0,_,(hg 0 xG).trans h0,k0.same xF.fr (λc hc=>hs c (by simp [hc])),(hg 1 xG).trans h1,k1,rfl⟩
theorem xL.open {w v x} (h:qR 2 xL w v x bs):∃ v0:Vl,∃ b0:List Nat,v= .agg #[v0,.int .i64 x.right]/\Sl 1 xF w v0 x.left b0/\xM x.right/\bs=b0:=by
 obtain⟨cs,hl,rfl,v0,b0,h0,k0,h1,k1,rfl⟩:=h
 match cs,hl with
 | [c0,c1],_=>
  obtain rfl:=Option.some.inj h0;obtain rfl:=Option.some.inj h1;exact⟨_,_,rfl,k0,k1,rfl⟩
theorem xL.mk' {w x v0 b0} (h0:Sl 1 xF w v0 x.left b0) (h1:xM x.right):qR 2 xL w (.agg #[v0,.int .i64 x.right]) x (b0):= ⟨[v0,.int .i64 x.right],rfl,rfl,_,_,rfl,h0,rfl,h1,rfl⟩
end
section
open Go.RowKit
variable {bs:List Nat} {v1:Vl} {b1:List Nat} {T:Ty} {y:A9} {f:Nat->Option Vl}
theorem iD {n} (h:∀ j,j<n->∃ v:Vl,f j=some v/\v.oneCell'=true) {u} (e:f n=some u) (hu:u.oneCell'=true):∀ j,j<n+1->∃ v:Vl,f j=some v/\v.oneCell'=true:=λj hj=>by
 by_cases qa:j=n
 ·subst qa;exact⟨u,e,hu⟩
 ·exact h j xG
theorem xEm:∀ j,j<0->∃ v:Vl,f j=some v/\v.oneCell'=true:=λj hj=>xG
theorem Sl.one {α:Type} {sz:Nat} {R:ER α} {w:Wd} {v:Vl} {l:List α} (h:Sl sz R w v l bs):v.oneCell'=true:=by obtain⟨a,c,rfl⟩:=h.val;rfl
instance:FrC 2 oR:=⟨oR.fr,λw f x bs h=>by
 obtain⟨v1,b1,h0,k0,h1,k1,hbs⟩:=h
 exact(iD (iD xEm h0 rfl) h1 k1.one)⟩
theorem oR.f0 {w y}:∀ f bi,oR w f y bi->∃ bj,xF w (λj=>f (0+j)) y.arity bj/\∀ c∈bj,c∈bi:=λf bi h=>by
 obtain⟨v1,b1,h0,k0,h1,k1,hbs⟩:=h;exact⟨[],⟨by simpa using h0,k0,rfl⟩,λc hc=>nomatch hc⟩
theorem oR.f1 {w y}:∀ f bi,oR w f y bi->∃ bj,(zV 1 tX) w (λj=>f (1+j)) y.tuples bj/\∀ c∈bj,c∈bi:=λf bi h=>by
 obtain⟨v1,b1,h0,k0,h1,k1,qa⟩:=h;exact⟨b1,⟨v1,vV h1,k1⟩,λc hc=>by rw[qa];simp [hc]⟩
theorem oR.rd {w v x} (h:Rd (qR 2 oR) w v x bs):∃ v1:Vl,∃ b1:List Nat,v= .agg #[.int .i64 x.arity,v1]/\xM x.arity/\Rd (Sl 1 tX) w v1 x.tuples b1/\bs=b1:=by
 obtain⟨v1,b1,e,k0,k1,qa⟩:=oR.open h.r;exact⟨v1,b1,e,k0,⟨k1,λc hc=>h.m c (by rw[qa];simp [hc])⟩,qa⟩
theorem oR.mk2 {w f0 f1} (h0:xM f0) (h1:Rd (Sl 1 tX) w v1 f1 b1):Rd (qR 2 oR) w (.agg #[.int .i64 f0,v1]) (Rel.mk f0 f1) (b1):= ⟨oR.mk' (x:=⟨f0,f1⟩) h0 h1.r,h1.m⟩
instance:FrC 2 xC:=⟨xC.fr,λw f x bs h=>by
 obtain⟨v1,b1,h0,k0,h1,k1,hbs⟩:=h
 exact(iD (iD xEm h0 rfl) h1 k1.one)⟩
theorem xC.f0 {w y}:∀ f bi,xC w f y bi->∃ bj,xF w (λj=>f (0+j)) y.size bj/\∀ c∈bj,c∈bi:=λf bi h=>by
 obtain⟨v1,b1,h0,k0,h1,k1,hbs⟩:=h;exact⟨[],⟨by simpa using h0,k0,rfl⟩,λc hc=>nomatch hc⟩
theorem xC.f1 {w y}:∀ f bi,xC w f y bi->∃ bj,(zV 2 oR) w (λj=>f (1+j)) y.rels bj/\∀ c∈bj,c∈bi:=λf bi h=>by
 obtain⟨v1,b1,h0,k0,h1,k1,qa⟩:=h;exact⟨b1,⟨v1,vV h1,k1⟩,λc hc=>by rw[qa];simp [hc]⟩
theorem xC.rd {w v x} (h:Rd (qR 2 xC) w v x bs):∃ v1:Vl,∃ b1:List Nat,v= .agg #[.int .i64 x.size,v1]/\xM x.size/\Rd (Sl 2 oR) w v1 x.rels b1/\bs=b1:=by
 obtain⟨v1,b1,e,k0,k1,qa⟩:=xC.open h.r;exact⟨v1,b1,e,k0,⟨k1,λc hc=>h.m c (by rw[qa];simp [hc])⟩,qa⟩
theorem xC.mk2 {w f0 f1} (h0:xM f0) (h1:Rd (Sl 2 oR) w v1 f1 b1):Rd (qR 2 xC) w (.agg #[.int .i64 f0,v1]) (A6.mk f0 f1) (b1):= ⟨xC.mk' (x:=⟨f0,f1⟩) h0 h1.r,h1.m⟩
theorem xC.blk {w b f0 f1} (K:lG w b #[.int .i64 f0,v1] T) (h0:xM f0) (h1:Rd (Sl 2 oR) w v1 f1 b1):Rd (Pt 2 xC) w (.pointer (some ⟨b,0,none⟩)) (A6.mk f0 f1) (b::(b1)):=by
 have hm:kH (b1) w:=h1.m;refine⟨⟨b,0,_,rfl,rfl,_,_,(K.cell (0+0)).trans rfl,h0,(K.cell (0+1)).trans rfl,h1.r,rfl⟩,λc hc=>?_⟩
 rcases Av.1 hc with rfl | hc
 ·exact K.lt
 ·exact hm c hc
instance:FrC 2 vX:=⟨vX.fr,λw f x bs h=>by
 obtain⟨v1,b1,h0,k0,h1,k1,hbs⟩:=h
 exact(iD (iD xEm h0 rfl) h1 k1.one)⟩
theorem vX.f0 {w y}:∀ f bi,vX w f y bi->∃ bj,xF w (λj=>f (0+j)) y.arity bj/\∀ c∈bj,c∈bi:=λf bi h=>by
 obtain⟨v1,b1,h0,k0,h1,k1,hbs⟩:=h;exact⟨[],⟨by simpa using h0,k0,rfl⟩,λc hc=>nomatch hc⟩
theorem vX.f1 {w y}:∀ f bi,vX w f y bi->∃ bj,(zV 1 xF) w (λj=>f (1+j)) y.table bj/\∀ c∈bj,c∈bi:=λf bi h=>by
 obtain⟨v1,b1,h0,k0,h1,k1,qa⟩:=h;exact⟨b1,⟨v1,vV h1,k1⟩,λc hc=>by rw[qa];simp [hc]⟩
theorem vX.rd {w v x} (h:Rd (qR 2 vX) w v x bs):∃ v1:Vl,∃ b1:List Nat,v= .agg #[.int .i64 x.arity,v1]/\xM x.arity/\Rd (Sl 1 xF) w v1 x.table b1/\bs=b1:=by
 obtain⟨v1,b1,e,k0,k1,qa⟩:=vX.open h.r;exact⟨v1,b1,e,k0,⟨k1,λc hc=>h.m c (by rw[qa];simp [hc])⟩,qa⟩
theorem vX.mk2 {w f0 f1} (h0:xM f0) (h1:Rd (Sl 1 xF) w v1 f1 b1):Rd (qR 2 vX) w (.agg #[.int .i64 f0,v1]) (Op.mk f0 f1) (b1):= ⟨vX.mk' (x:=⟨f0,f1⟩) h0 h1.r,h1.m⟩
theorem vX.blk {w b f0 f1} (K:lG w b #[.int .i64 f0,v1] T) (h0:xM f0) (h1:Rd (Sl 1 xF) w v1 f1 b1):Rd (Pt 2 vX) w (.pointer (some ⟨b,0,none⟩)) (Op.mk f0 f1) (b::(b1)):=by
 have hm:kH (b1) w:=h1.m;refine⟨⟨b,0,_,rfl,rfl,_,_,(K.cell (0+0)).trans rfl,h0,(K.cell (0+1)).trans rfl,h1.r,rfl⟩,λc hc=>?_⟩
 rcases Av.1 hc with rfl | hc
 ·exact K.lt
 ·exact hm c hc
instance:FrC 2 vH:=⟨vH.fr,λw f x bs h=>by
 obtain⟨v1,b1,h0,k0,h1,k1,hbs⟩:=h
 exact(iD (iD xEm h0 rfl) h1 k1.one)⟩
theorem vH.f0 {w y}:∀ f bi,vH w f y bi->∃ bj,xF w (λj=>f (0+j)) y.rel bj/\∀ c∈bj,c∈bi:=λf bi h=>by
 obtain⟨v1,b1,h0,k0,h1,k1,hbs⟩:=h;exact⟨[],⟨by simpa using h0,k0,rfl⟩,λc hc=>nomatch hc⟩
theorem vH.f1 {w y}:∀ f bi,vH w f y bi->∃ bj,(zV 1 xF) w (λj=>f (1+j)) y.scope bj/\∀ c∈bj,c∈bi:=λf bi h=>by
 obtain⟨v1,b1,h0,k0,h1,k1,qa⟩:=h;exact⟨b1,⟨v1,vV h1,k1⟩,λc hc=>by rw[qa];simp [hc]⟩
theorem vH.rd {w v x} (h:Rd (qR 2 vH) w v x bs):∃ v1:Vl,∃ b1:List Nat,v= .agg #[.int .i64 x.rel,v1]/\xM x.rel/\Rd (Sl 1 xF) w v1 x.scope b1/\bs=b1:=by
 obtain⟨v1,b1,e,k0,k1,qa⟩:=vH.open h.r;exact⟨v1,b1,e,k0,⟨k1,λc hc=>h.m c (by rw[qa];simp [hc])⟩,qa⟩
theorem vH.mk2 {w f0 f1} (h0:xM f0) (h1:Rd (Sl 1 xF) w v1 f1 b1):Rd (qR 2 vH) w (.agg #[.int .i64 f0,v1]) (Con.mk f0 f1) (b1):= ⟨vH.mk' (x:=⟨f0,f1⟩) h0 h1.r,h1.m⟩
theorem vH.blk {w b f0 f1} (K:lG w b #[.int .i64 f0,v1] T) (h0:xM f0) (h1:Rd (Sl 1 xF) w v1 f1 b1):Rd (Pt 2 vH) w (.pointer (some ⟨b,0,none⟩)) (Con.mk f0 f1) (b::(b1)):=by
 have hm:kH (b1) w:=h1.m;refine⟨⟨b,0,_,rfl,rfl,_,_,(K.cell (0+0)).trans rfl,h0,(K.cell (0+1)).trans rfl,h1.r,rfl⟩,λc hc=>?_⟩
 rcases Av.1 hc with rfl | hc
 ·exact K.lt
 ·exact hm c hc
instance:FrC 2 xJ:=⟨xJ.fr,λw f x bs h=>by
 obtain⟨v1,b1,h0,k0,h1,k1,hbs⟩:=h
 exact(iD (iD xEm h0 rfl) h1 k1.one)⟩
theorem xJ.f0 {w y}:∀ f bi,xJ w f y bi->∃ bj,xF w (λj=>f (0+j)) y.vars bj/\∀ c∈bj,c∈bi:=λf bi h=>by
 obtain⟨v1,b1,h0,k0,h1,k1,hbs⟩:=h;exact⟨[],⟨by simpa using h0,k0,rfl⟩,λc hc=>nomatch hc⟩
theorem xJ.f1 {w y}:∀ f bi,xJ w f y bi->∃ bj,(zV 2 vH) w (λj=>f (1+j)) y.cons bj/\∀ c∈bj,c∈bi:=λf bi h=>by
 obtain⟨v1,b1,h0,k0,h1,k1,qa⟩:=h;exact⟨b1,⟨v1,vV h1,k1⟩,λc hc=>by rw[qa];simp [hc]⟩
theorem xJ.rd {w v x} (h:Rd (qR 2 xJ) w v x bs):∃ v1:Vl,∃ b1:List Nat,v= .agg #[.int .i64 x.vars,v1]/\xM x.vars/\Rd (Sl 2 vH) w v1 x.cons b1/\bs=b1:=by
 obtain⟨v1,b1,e,k0,k1,qa⟩:=xJ.open h.r;exact⟨v1,b1,e,k0,⟨k1,λc hc=>h.m c (by rw[qa];simp [hc])⟩,qa⟩
theorem xJ.mk2 {w f0 f1} (h0:xM f0) (h1:Rd (Sl 2 vH) w v1 f1 b1):Rd (qR 2 xJ) w (.agg #[.int .i64 f0,v1]) (A7.mk f0 f1) (b1):= ⟨xJ.mk' (x:=⟨f0,f1⟩) h0 h1.r,h1.m⟩
theorem xJ.blk {w b f0 f1} (K:lG w b #[.int .i64 f0,v1] T) (h0:xM f0) (h1:Rd (Sl 2 vH) w v1 f1 b1):Rd (Pt 2 xJ) w (.pointer (some ⟨b,0,none⟩)) (A7.mk f0 f1) (b::(b1)):=by
 have hm:kH (b1) w:=h1.m;refine⟨⟨b,0,_,rfl,rfl,_,_,(K.cell (0+0)).trans rfl,h0,(K.cell (0+1)).trans rfl,h1.r,rfl⟩,λc hc=>?_⟩
 rcases Av.1 hc with rfl | hc
 ·exact K.lt
 ·exact hm c hc
instance:FrC 3 xS:=⟨xS.fr,λw f x bs h=>by
 obtain⟨h0,k0,h1,k1,h2,k2,hbs⟩:=h
 exact(iD (iD (iD xEm h0 rfl) h1 rfl) h2 rfl)⟩
theorem xS.f0 {w:Wd} {y:B1}:∀ f bi,xS w f y bi->∃ bj,xF w (λj=>f (0+j)) y.var bj/\∀ c∈bj,c∈bi:=λf bi h=>by
 obtain⟨h0,k0,h1,k1,h2,k2,hbs⟩:=h;exact⟨[],⟨by simpa using h0,k0,rfl⟩,λc hc=>nomatch hc⟩
theorem xS.f1 {w:Wd} {y:B1}:∀ f bi,xS w f y bi->∃ bj,xF w (λj=>f (1+j)) y.value bj/\∀ c∈bj,c∈bi:=λf bi h=>by
 obtain⟨h0,k0,h1,k1,h2,k2,hbs⟩:=h;exact⟨[],⟨by simpa using h1,k1,rfl⟩,λc hc=>nomatch hc⟩
theorem xS.f2 {w:Wd} {y:B1}:∀ f bi,xS w f y bi->∃ bj,xF w (λj=>f (2+j)) y.con bj/\∀ c∈bj,c∈bi:=λf bi h=>by
 obtain⟨h0,k0,h1,k1,h2,k2,hbs⟩:=h;exact⟨[],⟨by simpa using h2,k2,rfl⟩,λc hc=>nomatch hc⟩
theorem xS.rd {w:Wd} {v:Vl} {x:B1} (h:Rd (qR 3 xS) w v x bs):v= .agg #[.int .i64 x.var,.int .i64 x.value,.int .i64 x.con]/\xM x.var/\xM x.value/\xM x.con/\bs=[]:=by
 obtain⟨e,k0,k1,k2,qa⟩:=xS.open h.r;exact⟨e,k0,k1,k2,qa⟩
theorem xS.mk2 {w f0 f1 f2}  (h0:xM f0) (h1:xM f1) (h2:xM f2):Rd (qR 3 xS) w (.agg #[.int .i64 f0,.int .i64 f1,.int .i64 f2]) (B1.mk f0 f1 f2) ([]):= ⟨xS.mk' (x:=⟨f0,f1,f2⟩) h0 h1 h2,kH.nil w⟩
instance:FrC 3 xO:=⟨xO.fr,λw f x bs h=>by
 obtain⟨h0,k0,h1,k1,h2,k2,hbs⟩:=h
 exact(iD (iD (iD xEm h0 rfl) h1 rfl) h2 rfl)⟩
theorem xO.f0 {w y}:∀ f bi,xO w f y bi->∃ bj,xF w (λj=>f (0+j)) y.i bj/\∀ c∈bj,c∈bi:=λf bi h=>by
 obtain⟨h0,k0,h1,k1,h2,k2,hbs⟩:=h;exact⟨[],⟨by simpa using h0,k0,rfl⟩,λc hc=>nomatch hc⟩
theorem xO.f1 {w y}:∀ f bi,xO w f y bi->∃ bj,xF w (λj=>f (1+j)) y.j bj/\∀ c∈bj,c∈bi:=λf bi h=>by
 obtain⟨h0,k0,h1,k1,h2,k2,hbs⟩:=h;exact⟨[],⟨by simpa using h1,k1,rfl⟩,λc hc=>nomatch hc⟩
theorem xO.f2 {w y}:∀ f bi,xO w f y bi->∃ bj,xF w (λj=>f (2+j)) y.through bj/\∀ c∈bj,c∈bi:=λf bi h=>by
 obtain⟨h0,k0,h1,k1,h2,k2,hbs⟩:=h;exact⟨[],⟨by simpa using h2,k2,rfl⟩,λc hc=>nomatch hc⟩
theorem xO.rd {w v x} (h:Rd (qR 3 xO) w v x bs):v= .agg #[.int .i64 x.i,.int .i64 x.j,.int .i64 x.through]/\xM x.i/\xM x.j/\xM x.through/\bs=[]:=by
 obtain⟨e,k0,k1,k2,qa⟩:=xO.open h.r;exact⟨e,k0,k1,k2,qa⟩
theorem xO.mk2 {w f0 f1 f2}  (h0:xM f0) (h1:xM f1) (h2:xM f2):Rd (qR 3 xO) w (.agg #[.int .i64 f0,.int .i64 f1,.int .i64 f2]) (B0.mk f0 f1 f2) ([]):= ⟨xO.mk' (x:=⟨f0,f1,f2⟩) h0 h1 h2,kH.nil w⟩
theorem xO.blk {w b f0 f1 f2}  (K:lG w b #[.int .i64 f0,.int .i64 f1,.int .i64 f2] T) (h0:xM f0) (h1:xM f1) (h2:xM f2):Rd (Pt 3 xO) w (.pointer (some ⟨b,0,none⟩)) (B0.mk f0 f1 f2) (b::([])):=by
 have hm:kH ([]) w:=kH.nil w;refine⟨⟨b,0,_,rfl,rfl,(K.cell (0+0)).trans rfl,h0,(K.cell (0+1)).trans rfl,h1,(K.cell (0+2)).trans rfl,h2,rfl⟩,λc hc=>?_⟩
 rcases Av.1 hc with rfl | hc
 ·exact K.lt
 ·exact hm c hc
instance:FrC 5 oK:=⟨oK.fr,λw f x bs h=>by
 obtain⟨v1,v2,v3,v4,b1,b2,b3,b4,h0,k0,h1,k1,h2,k2,h3,k3,h4,k4,hbs⟩:=h
 exact(iD (iD (iD (iD (iD xEm h0 rfl) h1 k1.one) h2 k2.one) h3 k3.one) h4 k4.one)⟩
theorem oK.f0 {w:Wd}:∀ f bi,oK w f y bi->∃ bj,xF w (λj=>f (0+j)) y.kind bj/\∀ c∈bj,c∈bi:=λf bi h=>by
 obtain⟨v1,v2,v3,v4,b1,b2,b3,b4,h0,k0,h1,k1,h2,k2,h3,k3,h4,k4,hbs⟩:=h;exact⟨[],⟨by simpa using h0,k0,rfl⟩,λc hc=>nomatch hc⟩
theorem oK.f1 {w:Wd}:∀ f bi,oK w f y bi->∃ bj,(zV 1 xF) w (λj=>f (1+j)) y.values bj/\∀ c∈bj,c∈bi:=λf bi h=>by
 obtain⟨v1,v2,v3,v4,b1,b2,b3,b4,h0,k0,h1,k1,h2,k2,h3,k3,h4,k4,qa⟩:=h;exact⟨b1,⟨v1,vV h1,k1⟩,λc hc=>by rw[qa];simp [hc]⟩
theorem oK.f2 {w:Wd}:∀ f bi,oK w f y bi->∃ bj,(zV 3 xS) w (λj=>f (2+j)) y.arcs bj/\∀ c∈bj,c∈bi:=λf bi h=>by
 obtain⟨v1,v2,v3,v4,b1,b2,b3,b4,h0,k0,h1,k1,h2,k2,h3,k3,h4,k4,qa⟩:=h;exact⟨b2,⟨v2,vV h2,k2⟩,λc hc=>by rw[qa];simp [hc]⟩
theorem oK.f3 {w:Wd}:∀ f bi,oK w f y bi->∃ bj,(zV 3 xO) w (λj=>f (3+j)) y.pairs bj/\∀ c∈bj,c∈bi:=λf bi h=>by
 obtain⟨v1,v2,v3,v4,b1,b2,b3,b4,h0,k0,h1,k1,h2,k2,h3,k3,h4,k4,qa⟩:=h;exact⟨b3,⟨v3,vV h3,k3⟩,λc hc=>by rw[qa];simp [hc]⟩
theorem oK.f4 {w:Wd}:∀ f bi,oK w f y bi->∃ bj,(zV 1 xF) w (λj=>f (4+j)) y.numbers bj/\∀ c∈bj,c∈bi:=λf bi h=>by
 obtain⟨v1,v2,v3,v4,b1,b2,b3,b4,h0,k0,h1,k1,h2,k2,h3,k3,h4,k4,qa⟩:=h;exact⟨b4,⟨v4,vV h4,k4⟩,λc hc=>by rw[qa];simp [hc]⟩
theorem oK.rd {w:Wd} {v:Vl} {x:A9} (h:Rd (qR 5 oK) w v x bs):∃ v1 v2 v3 v4:Vl,∃ b1 b2 b3 b4:List Nat,v= .agg #[.int .i64 x.kind,v1,v2,v3,v4]/\xM x.kind/\Rd (Sl 1 xF) w v1 x.values b1/\Rd (Sl 3 xS) w v2 x.arcs b2/\Rd (Sl 3 xO) w v3 x.pairs b3/\Rd (Sl 1 xF) w v4 x.numbers b4/\bs=b1++b2++b3++b4:=by
 obtain⟨v1,v2,v3,v4,b1,b2,b3,b4,e,k0,k1,k2,k3,k4,qa⟩:=oK.open h.r;exact⟨v1,v2,v3,v4,b1,b2,b3,b4,e,k0,⟨k1,λc hc=>h.m c (by rw[qa];simp [hc])⟩,⟨k2,λc hc=>h.m c (by rw[qa];simp [hc])⟩,⟨k3,λc hc=>h.m c (by rw[qa];simp [hc])⟩,⟨k4,λc hc=>h.m c (by rw[qa];simp [hc])⟩,qa⟩
theorem oK.mk2 {w f0 f1 f2 f3 f4 v2 b2 v3 b3 v4 b4} (h0:xM f0) (h1:Rd (Sl 1 xF) w v1 f1 b1) (h2:Rd (Sl 3 xS) w v2 f2 b2) (h3:Rd (Sl 3 xO) w v3 f3 b3) (h4:Rd (Sl 1 xF) w v4 f4 b4):Rd (qR 5 oK) w (.agg #[.int .i64 f0,v1,v2,v3,v4]) (A9.mk f0 f1 f2 f3 f4) (b1++b2++b3++b4):= ⟨oK.mk' (x:=⟨f0,f1,f2,f3,f4⟩) h0 h1.r h2.r h3.r h4.r,(((h1.m).append h2.m).append h3.m).append h4.m⟩
instance:FrC 2 xL:=⟨xL.fr,λw f x bs h=>by
 obtain⟨v0,b0,h0,k0,h1,k1,hbs⟩:=h
 exact(iD (iD xEm h0 k0.one) h1 rfl)⟩
theorem xL.f0 {w y}:∀ f bi,xL w f y bi->∃ bj,(zV 1 xF) w (λj=>f (0+j)) y.left bj/\∀ c∈bj,c∈bi:=λf bi h=>by
 obtain⟨v0,b0,h0,k0,h1,k1,qa⟩:=h;exact⟨b0,⟨v0,vV h0,k0⟩,λc hc=>by rw[qa];simp [hc]⟩
theorem xL.f1 {w y}:∀ f bi,xL w f y bi->∃ bj,xF w (λj=>f (1+j)) y.right bj/\∀ c∈bj,c∈bi:=λf bi h=>by
 obtain⟨v0,b0,h0,k0,h1,k1,hbs⟩:=h;exact⟨[],⟨by simpa using h1,k1,rfl⟩,λc hc=>nomatch hc⟩
theorem xL.rd {w v x} (h:Rd (qR 2 xL) w v x bs):∃ v0:Vl,∃ b0:List Nat,v= .agg #[v0,.int .i64 x.right]/\Rd (Sl 1 xF) w v0 x.left b0/\xM x.right/\bs=b0:=by
 obtain⟨v0,b0,e,k0,k1,qa⟩:=xL.open h.r;exact⟨v0,b0,e,⟨k0,λc hc=>h.m c (by rw[qa];simp [hc])⟩,k1,qa⟩
theorem xL.mk2 {w f0 f1 v0 b0} (h0:Rd (Sl 1 xF) w v0 f0 b0) (h1:xM f1):Rd (qR 2 xL) w (.agg #[v0,.int .i64 f1]) (A8.mk f0 f1) (b0):= ⟨xL.mk' (x:=⟨f0,f1⟩) h0.r h1,h0.m⟩
theorem xL.blk {w b f0 f1 v0 b0} (K:lG w b #[v0,.int .i64 f1] T) (h0:Rd (Sl 1 xF) w v0 f0 b0) (h1:xM f1):Rd (Pt 2 xL) w (.pointer (some ⟨b,0,none⟩)) (A8.mk f0 f1) (b::(b0)):=by
 have hm:kH (b0) w:=h0.m;refine⟨⟨b,0,_,rfl,rfl,_,_,(K.cell (0+0)).trans rfl,h0.r,(K.cell (0+1)).trans rfl,h1,rfl⟩,λc hc=>?_⟩
 rcases Av.1 hc with rfl | hc
 ·exact K.lt
 ·exact hm c hc
theorem oHg {w b x} (K:lG w b #[.int .i64 x] T) (h:xM x):Rd (Pt 1 xF) w (.pointer (some ⟨b,0,none⟩)) x [b]:= ⟨⟨b,0,[],rfl,rfl,(K.cell (0+0)).trans rfl,h,rfl⟩,λc hc=>by rw[Ay] at hc;subst hc;exact K.lt⟩
theorem oIa {α:Type} {sz:Nat} {R:ER α} {w:Wd} {b:Nat} {v:Vl} {x:List α} (K:lG w b #[v] T) (h:Rd (Sl sz R) w v x bs):Rd (Pt 1 (zV sz R)) w (.pointer (some ⟨b,0,none⟩)) x (b::bs):= ⟨⟨b,0,_,rfl,rfl,v,(K.cell (0+0)).trans rfl,h.r⟩,λc hc=>by
 rcases Av.1 hc with rfl | hc
 ·exact K.lt
 ·exact h.m c hc⟩
end
section
open Go.RowKit
theorem sn {L}:sub L []:=trivial
theorem sc {L M t v} (h:sC L t=some v) (k:sub L M):sub L ((t,v)::M):=⟨h,k⟩
theorem oIi {α:Type} {l:List α} {k:Nat} {x:α} (h:l[k]?=some x):ix l (k:Int)=some x:=by
 unfold ix;rw[if_pos xG];simpa using h
theorem xZ {k n:Nat} (h:k<n):decide ((k:Int)<(n:Int))=true:=by simp;omega
theorem oO {k n:Nat} (h:(k:Int)=(n:Int)):decide ((k:Int)<(n:Int))=false:=by simp;omega
theorem bV {k n:Nat} (h:k<=n) (hn:xM (n:Int)):xM (k:Int):=⟨xG,by have:=hn.2;omega⟩
theorem qE {k n:Nat} (h:k<n) (hn:xM (n:Int)):xM ((k+1:Nat):Int):=⟨xG,by have:=hn.2;omega⟩
theorem Rd.nil {α} (sz:Nat) (R:ER α) (w:Wd):Rd (Sl sz R) w (.slice none 0 0) [] []:=⟨Sl.nil sz R w,kH.nil w⟩
theorem Calls.some {P f args w R} (h:Calls P f args w R):∃ e w',R e w':=let ⟨e,w',_,h1,_⟩:=h [];⟨e,w',h1⟩
section
variable {P:Program} {ops:Array Oper} {Q:Exit->Act->Wd->Prop} {C:Wd->Prop} {K:Act->Prop} {a:Act} {w:Wd} {n:Nat} {L:List (Nat×Vl)} {rest:List Oper} {d:Nat} {dd:Option Tmp} {ty:Ty} {pos:String} {af:Array Edge} {g:Option (Nat×Bool)}
theorem oGi (F:Sk a n L) {c} {b} {x y} (e:ev L c=some (.bool b)) (hb:b=true) (h:x.wp P Q a w):(Code.cond c x y).wp P Q a w:=by subst hb;exact oCe F e h
theorem xUz (F:Sk a n L) {c} {b} {x y} (e:ev L c=some (.bool b)) (hb:b=false) (h:y.wp P Q a w):(Code.cond c x y).wp P Q a w:=by subst hb;exact oAs F e h
end
section
variable {P:Program} {ops:Array Oper} {C:Wd->Prop} {K:Act->Prop} {a:Act} {w:Wd} {n:Nat} {L:List (Nat×Vl)} {rest:List Oper} {d:Nat} {ty:Ty} {pos:String} {af:Array Edge} {g:Option (Nat×Bool)}
theorem xSd {dd x t kk b o o' off} (hp:∀ (a:Addr) w,(Instr.fieldAt t (.pointer (some a)) kk).run P w= .ok (.pointer (some (a.add off))) w) (F:Sk a n L) (he:ev L x=some (.pointer (some ⟨b,o,none⟩))) (ho:o+off=o') {w'}:(execOp a.eval ⟨dd,.fieldAddr t x kk,ty,pos,af,g⟩).run P w'= .ok (.value (.pointer (some ⟨b,o',none⟩))) w':=by
 subst ho
 unfold execOp
 simp [F.ev he,hp,cJ]
end
theorem xY {P t fs f k s off} (ht:P.underlying t=some (.struct fs)) (hk:fs[k]?=some f) (hs:∀ w,(sizeOf f.type).run P w= .ok s w) (h0:s≠0) (ho:f.offset=off) (a:Addr) (w:Wd):(Instr.fieldAt t (.pointer (some a)) k).run P w= .ok (.pointer (some (a.add off))) w:=by
 subst ho
 simp [Instr.fieldAt,run_underlying ht,hk,Instr.sureAddr,fieldPlace,hs,h0]
end
section
open Go.RowKit
variable {x:Operand} {y:Operand}
def uA (v:Vl):List Nat:=match v.ownBlock with | some b=>[b] | none=>[]
structure Row {α:Type} (sz:Nat) (R:ER α) (E:Ty) (B:Nat) (w:Wd) (v:Vl) (l:List α) (rb ib:List Nat):Prop where
  row:∃ (xs:List Vl) (bss:List (List Nat)),w.ownsRow B E sz v l.length xs/\bss.length=l.length/\bss.flatten=ib/\∀ i x bi,l[i]?=some x->bss[i]?=some bi->R w (λj=>xs[i*sz+j]?) x bi
  hrb:rb=uA v
  mem:kH ib w
  dj:Dj rb ib
section
variable {α:Type} {sz:Nat} {R:ER α} {E:Ty} {B:Nat} {w:Wd} {v:Vl} {l:List α} {rb ib:List Nat}
theorem Row.blk (h:Row sz R E B w v l rb ib):∀ b∈rb,B<=b/\∃ cur,w.heap[b]?=some (.cells cur E (0,0)):=by
 obtain⟨xs,bss,ho,_⟩:=h.row;intro b hb;rw[h.hrb] at hb
 rcases ho.2 with ⟨rfl,_⟩ | ⟨g,cap,cur,rfl,qa,hg,_⟩
 ·simp [uA,Value.ownBlock] at hb
 ·simp [uA,Value.ownBlock] at hb
  subst hb;exact⟨qa,cur,hg⟩
theorem Row.ownR (h:Row sz R E B w v l rb ib):Own B rb w:=by
 refine⟨?_,λb hb=>let ⟨h1,cur,h2⟩:=h.blk b hb;⟨h1,cur,E,h2⟩⟩;rw[h.hrb]
 unfold uA
 cases v.ownBlock<;>simp
theorem Row.memR (h:Row sz R E B w v l rb ib):kH rb w:=h.ownR.inMem
theorem Row.rd [hR:FrC sz R] (h:Row sz R E B w v l rb ib):Rd (Sl sz R) w v l (rb++ib):=by
 obtain⟨xs,bss,ho,hl,rfl,he⟩:=h.row;have hrb:=h.hrb
 rcases ho.2 with ⟨rfl,hn⟩ | ⟨g,cap,cur,rfl,h2,h3,h4,h5,h6,h7⟩
 ·obtain rfl:=Cc.1 hn
  obtain rfl:=Cc.1 hl
  simp [uA,Value.ownBlock] at hrb
  subst hrb;exact Rd.nil sz R w
 ·simp [uA,Value.ownBlock] at hrb
  subst hrb;refine⟨⟨_,cap,rfl,h4,h5,(λh=>nomatch h),.inr ⟨g,0,bss,rfl,rfl,hl,λi x bi hx hi=>?_⟩⟩,(kH.append h.memR h.mem)⟩;refine hR.fr _ _ _ _ x bi (he i x bi hx hi) (λ_ _=>rfl) (λj hj=>?_);have qa:i<l.length:=(Ac.1 hx).1;have hm:(i+1)*sz<=l.length*sz:=Ax _ qa;rw[Ct] at hm;rw[Bn,(Own.cell0 h3 _).1,<- h7,Bf,if_pos xG]
  simp
theorem Row.keep [hR:FrC sz R] {w'} (h:Row sz R E B w v l rb ib) (h1:pJ rb w w') (h2:pJ ib w w') (hs:w.heap.size<=w'.heap.size):Row sz R E B w' v l rb ib:=by
 obtain⟨xs,bss,ho,hl,rfl,he⟩:=h.row;have hrb:=h.hrb;refine⟨⟨xs,bss,⟨ho.1,?_⟩,hl,rfl,λi x bi hx hi=>hR.fr _ _ _ _ x bi (he i x bi hx hi) (λc hc=>h2 c (Bl.2 ⟨bi,Af hi,hc⟩)) (λ_ _=>rfl)⟩,hrb,h.mem.le hs,h.dj⟩
 rcases ho.2 with h3 | ⟨g,cap,cur,rfl,h3,h4,h5⟩
 ·exact .inl h3
 ·exact .inr ⟨g,cap,cur,rfl,h3,by rw[h1 g (by rw[hrb];simp [uA,Value.ownBlock])];exact h4,h5⟩
theorem Row.nil (sz:Nat) (R:ER α) (E:Ty) (B:Nat) (w:Wd):Row sz R E B w (.slice none 0 0) [] [] []:= ⟨⟨[],[],World.ownsRow_nil _ _ _ _,rfl,rfl,λi x bi hx=>nomatch hx⟩,rfl,kH.nil w,Dj.nil _⟩
theorem Row.own (h:Row sz R E B w v l rb ib) (o:Own B ib w):Own B (rb++ib) w:=h.ownR.append o h.dj
theorem Row.base {B'} (h:Row sz R E B w v l rb ib) (hB:B'<=B):Row sz R E B' w v l rb ib:=by
 obtain⟨xs,bss,ho,r⟩:=h.row;refine⟨⟨xs,bss,⟨ho.1,?_⟩,r⟩,h.hrb,h.mem,h.dj⟩
 rcases ho.2 with h1 | ⟨g,cap,cur,h1,h2,h3⟩
 ·exact .inl h1
 ·exact .inr ⟨g,cap,cur,h1,Cb hB h2,h3⟩
end
theorem Own.go {B bs w w'} (h:Own B bs w) (l:Below w.heap.size w w'):Own B bs w':=h.sameBelow l
theorem Own.goO {B bs cs w w'} (h:Own B bs w) (l:B5 cs w w') (hd:Dj bs cs):Own B bs w':=h.same λb hb=>l.block b (h.inMem b hb) (hd b hb)
structure El {α:Type} (sz:Nat) (R:ER α) (w:Wd) (v:Vl) (x:α) (bs:List Nat):Prop where
  n:v.cells.size=sz
  r:R w (λj=>v.cells[j]?) x bs
  o:∀ u∈v.cells.toList,u.oneCell'=true
  m:kH bs w
theorem El.int {w x} (h:xM x):El 1 xF w (.int .i64 x) x []:=⟨rfl,⟨rfl,h,rfl⟩,by simp [Value.cells,Value.oneCell'],kH.nil w⟩
theorem El.bool {w x}:El 1 aF w (.bool x) x []:=⟨rfl,⟨rfl,rfl⟩,by simp [Value.cells,Value.oneCell'],kH.nil w⟩
theorem El.sl {α:Type} {sz:Nat} {R:ER α} {w:Wd} {v:Vl} {l:List α} {bs:List Nat} (h:Rd (Sl sz R) w v l bs):El 1 (zV sz R) w v l bs:=by
 obtain⟨a,c,rfl⟩:=h.r.val;exact⟨rfl,⟨_,rfl,h.r⟩,by simp [Value.cells,Value.oneCell'],h.m⟩
theorem El.agg {α:Type} {sz:Nat} {R:ER α} [hR:FrC sz R] {w:Wd} {v:Vl} {x:α} {bs:List Nat} (h:Rd (qR sz R) w v x bs):El sz R w v x bs:=by
 obtain⟨⟨cs,hl,rfl,hr⟩,hm⟩:=h;refine⟨by simpa [Value.cells] using hl,by simpa [Value.cells] using hr,λu hu=>?_,hm⟩;simp only[Value.cells,List.toArray] at hu;obtain⟨j,hj,rfl⟩:=Bx hu;obtain⟨u,h1,h2⟩:=hR.tot _ _ _ _ hr j (by rw[<- hl];exact hj);rw[Aa hj] at h1
 cases h1
 exact h2
theorem xOl:∀ (l:List Vl) (o:Nat) (cs:Array Vl),o+l.length<=cs.size->∀ i,((l.zipIdx o).foldl (λcs x=>cs.setIfInBounds x.2 x.1) cs)[i]?=if o<=i/\i<o+l.length then l[i - o]? else cs[i]?
 | [],o,cs,_,i=>by
  rw[if_neg (by simp only[Bh];omega)]
  rfl
 | x::r,o,cs,ho,i=>by
  rw[List.zipIdx_cons,List.foldl_cons,xOl r (o+1) _ (by simp at ho ⊢;omega) i];simp only[Ao] at ho ⊢
  by_cases h1:o+1<=i/\i<o+1+r.length
  ·rw[if_pos h1,if_pos xG,show i - o=(i - (o+1))+1 by omega,List.getElem?_cons_succ]
  ·rw[if_neg h1]
   by_cases h2:i=o
   ·subst h2
    rw[if_pos xG,Em,List.getElem?_cons_zero,Ca,if_pos rfl,if_pos xG]
   ·rw[if_neg xG,Ca,if_neg xG]
theorem xZy {sz} (cs:Array Vl) (v:Vl) (hv:v.cells.size=sz) (hc:cs.size=1*sz):Instr.fill (λi=>some (i*sz,sz)) cs [(0,v)]=some v.cells:=by
 have e:v.cells.zipIdx.foldl (λcs (x:Vl×Nat)=>cs.setIfInBounds (0*sz+x.2) x.1) cs=v.cells:=by
  apply Array.ext_getElem?
  intro i;rw[<- Array.foldl_toList,Array.toList_zipIdx];simp only[Nat.zero_mul,Bn];rw[xOl _ 0 cs (by simp;omega) i]
  by_cases h:i<v.cells.size
  ·rw[if_pos (by simp;exact h),Fg,Du]
  ·rw[if_neg (by simp;omega),Cu xG,Cu xG]
 unfold Instr.fill
 simp only
 have h1:((v.cells.size≠sz) || 0*sz+v.cells.size > cs.size:Bool)=false:=by simp [hv,hc]
 rw[if_neg (vV h1)]
 unfold Instr.fill
 exact congrArg some e
section
variable {α:Type} {sz:Nat} {R:ER α} {P:Program} {ops:Array Oper} {Q:Exit->Act->Wd->Prop} {a:Act} {w:Wd} {n:Nat} {L:List (Nat×Vl)} {rest:List Oper} {d:Nat} {ty:Ty} {pos:String} {af:Array Edge} {g:Option (Nat×Bool)}
theorem oGy {t e} (ht:P.underlying t=some (.slice e)) (qa:∀ w,(sizeOf e).run P w= .ok sz w) (F:Sk a n L) (hc:vR ops n L g d=true)
 (k:∀ a' w' v rb,Row sz R e w.heap.size w' v [] rb []->Below w.heap.size w w'->Sk a' n ((d,v)::L)->wpList P ops Q rest a' w') :
 wpList P ops Q (⟨some d,.buildSlice t 0 #[],ty,pos,af,g⟩::rest) a w:=by
 refine zT (v:=.slice (some ⟨w.heap.size,0,none⟩) 0 0) (w':=w.alloc (.cells #[] e)) F hc ?_ (λa' F'=>k a' _ _ [w.heap.size] ⟨⟨[],[],⟨vK,.inr ⟨w.heap.size,0,#[],rfl,Az _,heap_alloc_new w _,Az _,by unfold maxLen;omega,vK,vK⟩⟩,rfl,rfl,λi x bi hx=>nomatch hx⟩,rfl,kH.nil _,Dj.nil _⟩ ((Below.refl _ _).alloc (Az _) _) F')
 unfold execOp
 have h0:(Array.range 0).map (λ_:Nat=>(default:Vl)) = #[]:=by apply Array.ext<;>simp
 simp [Instr.buildSlice,run_underlying ht,qa,Instr.fill,newRow,h0]
theorem xPi [hR:FrC sz R] {t e} {z} {v} {y} {bs} (ht:P.underlying t=some (.slice e)) (qe:∀ w,(sizeOf e).run P w= .ok sz w) (hz:∀ w,(zeroValue e).run P w= .ok z w) (hzs:z.cells.size=sz) (hsz0:0<sz) (hsz1:sz<=1000) (F:Sk a n L) (hc:vR ops n L g d=true)
 (hx:ev L x=some v) (h:El sz R w v y bs)
 (k:∀ a' w' v' rb,Row sz R e w.heap.size w' v' [y] rb bs->Below w.heap.size w w'->Sk a' n ((d,v')::L)->wpList P ops Q rest a' w') :
 wpList P ops Q (⟨some d,.buildSlice t 1 #[(0,x)],ty,pos,af,g⟩::rest) a w:=by
 have qc:Below w.heap.size w (w.alloc (.cells v.cells e)):=(Below.refl _ _).alloc (Az _) _;refine zT (v:=.slice (some ⟨w.heap.size,0,none⟩) 1 1) (w':=w.alloc (.cells v.cells e)) F hc ?_ (λa' F'=>k a' _ _ [w.heap.size] ⟨⟨v.cells.toList,[bs],⟨by simp [h.n],.inr ⟨w.heap.size,1,v.cells,rfl,Az _,heap_alloc_new w _,Az _,by unfold maxLen;omega,by simp [h.n],by rw[Cn (by simp [h.n])]⟩⟩,rfl,vK,λi x' bi qd qf=>?_⟩,rfl,h.m.le qc.size,λb hb hm=>?_⟩ qc F')
 ·unfold execOp
  have qa:=xZy (sz:=sz) ((Array.range (1*sz)).map (z.cells[· % z.cells.size]!)) v h.n vK;simp only[Dp,Dg,Ew,F.ev hx];simp only[Nat.one_mul] at qa;have qg:sz≠0:=xG;have qh:¬ (16777216<sz):=xG
  simp [Instr.buildSlice,run_underlying ht,qe,hz,qg,qh,qa,newRow]
 ·have qi:i=0:=by
   have:=(Ac.1 qd).1
   simp at this
   exact this
  subst qi
  cases qd
  cases qf
  refine hR.fr _ _ _ _ _ _ h.r (h.m.same qc) (λj _=>?_)
  simp
 ·rw[Ay] at hb
  subst hb;exact absurd (h.m _ hm) (Nat.lt_irrefl _)
theorem Row.ones [hR:FrC sz R] {E:Ty} {B:Nat} {w:Wd} {v:Vl} {l:List α} {xs:List Vl} {bss:List (List Nat)} (qa:0<sz) (hx:xs.length=l.length*sz) (hl:bss.length=l.length) (he:∀ i x bi,l[i]?=some x->bss[i]?=some bi->R w (λj=>xs[i*sz+j]?) x bi):∀ u∈xs,u.oneCell'=true:=by
 intro u hu;obtain⟨t,ht,rfl⟩:=Bx hu
 have hi:t / sz<l.length:=by rw[Nat.div_lt_iff_lt_mul qa];omega
 have hj:t % sz<sz:=Nat.mod_lt _ qa;obtain⟨u,h1,h2⟩:=hR.tot _ _ _ _ (he (t / sz) _ _ (Aa hi) (Aa (by rw[hl];exact hi))) (t % sz) hj;rw[show t / sz*sz+t % sz=t by rw[Nat.mul_comm];exact Nat.div_add_mod t sz,Aa ht] at h1
 cases h1
 exact h2
def Src {α:Type} (sz:Nat) (R:ER α) (w:Wd) (u:Vl) (m:List α) (ib:List Nat):Prop:= kH ib w/\((u= .slice none 0 0/\m=[]/\ib=[])∨∃ (ad:Addr) (c:Nat) (ys:List Vl) (css:List (List Nat)),u= .slice (some ad) m.length c/\ys.length=m.length*sz/\(∀ j q,ys[j]?=some q->w.cell? (ad.add j)=some q)/\css.length=m.length/\css.flatten=ib/\∀ i x bi,m[i]?=some x->css[i]?=some bi->R w (λj=>ys[i*sz+j]?) x bi)
theorem Row.src {E B w v l rb ib} (h:Row sz R E B w v l rb ib):Src sz R w v l ib:=by
 obtain⟨ys,css,ho,hl,qa,he⟩:=h.row;refine⟨h.mem,?_⟩
 rcases ho.2 with ⟨hu,hn⟩ | ⟨g2,cap2,cur2,hu,hrest⟩
 ·refine .inl ⟨hu,Cc.1 hn,?_⟩
  rw[<- qa,Cc.1 (hl.trans hn)]
  rfl
 ·exact .inr ⟨⟨g2,0,none⟩,cap2,ys,css,hu,ho.1,λj q hq=>ho.cells (g:=g2) (by rw[hu];rfl) j q hq,hl,qa,he⟩
theorem Rd.src [hR:FrC sz R] (qa:0<sz) {w} {v} {l} {bs} (h:Rd (Sl sz R) w v l bs):∃ ib,Src sz R w v l ib/\∀ c∈ib,c∈bs:=by
 obtain⟨⟨a,c,rfl,h1,h2,h3,h4⟩,hm⟩:=h
 rcases h4 with ⟨rfl,rfl⟩ | ⟨b,o,bss,rfl,rfl,he⟩
 ·refine⟨[],⟨kH.nil w,?_⟩,λc hc=>nomatch hc⟩
  cases a with
  | none=>exact .inl ⟨by rw[h3 rfl];rfl,rfl,rfl⟩
  | some ad=>exact .inr ⟨ad,c,[],[],rfl,vK,vK,rfl,rfl,vK⟩
 ·refine⟨bss.flatten,⟨λc hc=>hm c (by simp [hc]),.inr ⟨⟨b,o,none⟩,c,(List.range (l.length*sz)).map (λt=>(w.cell? ⟨b,o+t,none⟩).getD undef),bss,rfl,vK,λj q hq=>?_,he.1,rfl,λi x bi hx qc=>?_⟩⟩,λc hc=>by simp [hc]⟩
  ·rw[cJ]
   have hj:j<l.length*sz:=by have:=(Ac.1 hq).1;simpa using this
   rw[Bc,Ef hj,Cw] at hq
   have hi:j / sz<l.length:=by rw[Nat.div_lt_iff_lt_mul qa];omega
   obtain⟨u,hu,_⟩:=hR.tot _ _ _ _ (he.2 (j / sz) _ _ (Aa hi) (Aa (by rw[he.1];exact hi))) (j % sz) (Nat.mod_lt _ qa)
   have e:o+j / sz*sz+j % sz=o+j:=by have:=Nat.div_add_mod j sz;rw[Nat.mul_comm] at this;omega
   rw[e] at hu;rw[hu] at hq ⊢;exact hq
  ·refine hR.fr _ _ _ _ _ _ (he.2 i x bi hx qc) (λ_ _=>rfl) (λj hj=>?_)
   have hi:i<l.length:=(Ac.1 hx).1
   have qd:i*sz+j<l.length*sz:=by have:=Ax sz (show i+1<=l.length from hi);rw[Ct] at this;omega
   rw[Bc,Ef qd,Cw];obtain⟨u,hu,_⟩:=hR.tot _ _ _ _ (he.2 i x bi hx qc) j hj;rw[show o+(i*sz+j)=o+i*sz+j by omega,hu]
   rfl
theorem xKz [hR:FrC sz R] {t E:Ty} {z:Vl} {bytes B:Nat} {v u:Vl} {l m r:List α} {rb ib ib2:List Nat} (ht:P.underlying t=some (.slice E)) (qd:(P.info? E).map (λi=>(i.zero,i.size,i.bytes))=some (some z,sz,bytes)) (qq:z.cells.size=sz) (qm:0<sz) (qr:bytes<=1024) (hby0:0<bytes)
    (F:Sk a n L) (hc:vR ops n L g d=true) (hx:ev L x=some v) (hy:ev L y=some u) (A:Row sz R E B w v l rb ib) (S:Src sz R w u m ib2) (hB:B<=w.heap.size) (d1:Dj rb ib2) (qs:ap l m=some r)
    (k:∀ a' w' v' rb',Row sz R E B w' v' r rb' (ib++ib2)->B5 rb w w'->(∀ X,kH X w->Dj X rb->Dj X rb')->Sk a' n ((d,v')::L)->wpList P ops Q rest a' w') :
    wpList P ops Q (⟨some d,.call ⟨.builtin .append,#[x,y],#[t,t]⟩,ty,pos,af,g⟩::rest) a w:=by
  obtain⟨hlen,rfl⟩:=oEk qs;obtain⟨i,hi,qn⟩:=Eb.1 qd;simp only[Prod.mk.injEq] at qn;obtain⟨hz,qe,qj⟩:=qn;obtain⟨xs,bss,ho,hl,qo,he⟩:=A.row;obtain⟨Sm,hS⟩:=S;have hrb:=A.hrb
  have fin:∀ {ys:List Vl} {css:List (List Nat)},css.length=m.length->css.flatten=ib2->(∀ i x bi,m[i]?=some x->css[i]?=some bi->R w (λj=>ys[i*sz+j]?) x bi)->∀ {v':Vl} {w':Wd},(Builtin.append_ #[t,t] ty #[v,u]).run P w= .ok v' w'->w'.ownsRow B E sz v' (l.length+m.length) (xs++ys)->w.grownBy w' v.ownBlock->(v'.ownBlock=v.ownBlock∨v'.ownBlock=some w.heap.size)->wpList P ops Q (⟨some d,.call ⟨.builtin .append,#[x,y],#[t,t]⟩,ty,pos,af,g⟩::rest) a w:=by
    intro ys css qg qa qh v' w' hr h2 h3 h4
    have hO:B5 rb w w':=by
      refine⟨h3.os,h3.tape,h3.output,h3.size,λk hk hn=>h3.block k hk (λe=>hn ?_)⟩;rw[hrb]
      unfold uA
      rw[<- e]
      simp
    have qf:∀ X,kH X w->Dj X rb->Dj X (uA v'):=by
      intro X hX hd b hb hm
      rcases h4 with h4 | h4
      · exact hd b hb (by rw[hrb];unfold uA at hm ⊢;rw[h4] at hm;exact hm)
      · unfold uA at hm
        rw[h4] at hm;rw[Ay] at hm;subst hm;exact absurd (hX _ hb) (Nat.lt_irrefl _)
    have qt:pJ ib w w':=λb hb=>hO.block b (A.mem b hb) (λhm=>A.dj b hm hb);have qu:pJ ib2 w w':=λb hb=>hO.block b (Sm b hb) (λhm=>d1 b hm hb);refine zT (v:=v') (w':=w') F hc ?_ (λa' F'=>k a' w' v' (uA v') ⟨⟨xs++ys,bss++css,by rw[Ar];exact h2,by rw[Ar,Ar,hl,qg],by rw[Eg,qo,qa],λj y' bj qi qc=>?_⟩,rfl,(A.mem.le hO.size).append (Sm.le hO.size),?_⟩ hO qf F')
    · rw[BigFrame.execOp_builtin,BigFrame.builtin_append]
      simp only[Dp,Dg,Ew,F.ev hx,F.ev hy]
      simp [hr]
    · by_cases hk:j<l.length
      · rw[Bu hk] at qi
        rw[Bu (by rw[hl];exact hk)] at qc;have qk:(j+1)*sz<=l.length*sz:=Ax _ hk;rw[Ct] at qk;refine hR.fr _ _ _ _ y' bj (he j y' bj qi qc) (λc hc=>qt c (by rw[<- qo];exact Bl.2 ⟨bj,Af qc,hc⟩)) (λq hq=>?_);exact Bu (by rw[ho.1];omega)
      · rw[Bb xG] at qi
        rw[Bb (by rw[hl];omega),hl] at qc;refine hR.fr _ _ _ _ y' bj (qh _ y' bj qi qc) (λc hc=>qu c (by rw[<- qa];exact Bl.2 ⟨bj,Af qc,hc⟩)) (λq hq=>?_);have hge:l.length*sz<=j*sz:=Ax _ xG;rw[Bb (by rw[ho.1];omega),ho.1,Nat.sub_mul]
        congr 1
        omega
    · exact Dj.symm (qf (ib++ib2) (A.mem.append Sm) (Dj.app' A.dj.symm d1.symm))
  rcases hS with ⟨hu,qv,ql⟩ | ⟨ad,cap2,ys,css,hu,qp,qw,qg,qa,qh⟩
  · subst qv
    refine fin (ys:=[]) (css:=[]) rfl (by rw[ql];rfl) (λi x bi hx=>nomatch hx) (v':=v) (w':=w) ?_ (by rw[Ch];exact ho) ⟨rfl,rfl,rfl,Az _,λ_ _ _=>rfl⟩ (.inl rfl);rw[hu];exact run_append_owned_none (P:=P) w B t ty E i sz ht hi v l.length xs ho
  · obtain ⟨v', w', hr, h2, h3, h4⟩ := xMy (P := P) w B t ty E i z sz bytes ht hi hz qe qj qq qm v l.length xs ho ad m.length cap2 ys qp qw (Row.ones (E := E) (B := B) (v := v) qm qp qg qh) (by unfold maxLen; omega) (by
        have:=Nat.mul_le_mul_left (l.length+m.length) qr
        omega) hB
    exact fin qg qa qh (by rw[hu];exact hr) h2 h3 h4
def nJ {β:Type} (z:β) (n:Int):Option (List β):=if 0<=n/\n*1024<=140737488355328 then some (List.replicate n.toNat z) else none
theorem xZw {β:Type} {z:β} {n:Int} {l:List β} (h:nJ z n=some l):0<=n/\n*1024<=140737488355328/\l=List.replicate n.toNat z:=by
 unfold nJ at h
 split at h
 ·rename_i h1;exact⟨h1.1,h1.2,(Option.some.inj h).symm⟩
 ·cases h
theorem oAz (zs:Array Vl) (m i:Nat) (hi:i<m) (hz:0<zs.size):(madeCells zs m)[i]?=zs[i % zs.size]?:=by
 have h:=Nat.mod_lt i hz
 simp [madeCells,hi,h]
theorem oJf [hR:FrC sz R] {t E:Ty} {z:Vl} {bytes:Nat} {i:Int} {zero:α} {l:List α} (ht:P.underlying t=some (.slice E)) (qa:(P.info? E).map (λi=>(i.zero,i.size,i.bytes))=some (some z,sz,bytes)) (qd:z.cells.size=sz) (hsz:0<sz) (qe:bytes<=1024) (qf:∀ w,R w (λj=>z.cells[j]?) zero [])
 (F:Sk a n L) (hc:vR ops n L g d=true) (hx:ev L x=some (.int .i64 i)) (hy:ev L y=some (.int .i64 i)) (hl:nJ zero i=some l)
 (k:∀ a' w' v' rb,Row sz R E w.heap.size w' v' l rb []->Below w.heap.size w w'->Sk a' n ((d,v')::L)->wpList P ops Q rest a' w') :
 wpList P ops Q (⟨some d,.makeSlice t x y,ty,pos,af,g⟩::rest) a w:=by
 obtain⟨h0,h1,rfl⟩:=xZw hl;obtain⟨m,rfl⟩:∃ m:Nat,i=m:=⟨i.toNat,xG⟩;rw[Ad] at k;have qg:Below w.heap.size w (w.alloc (.cells (madeCells z.cells (m*sz)) E)):=(Below.refl _ _).alloc (Az _) _;have hr:=oJr (P:=P) ht qa m (by have:=Ax m qe;omega) xG w;refine zT (v:=.slice (some ⟨w.heap.size,0,none⟩) m m) (w':=w.alloc (.cells (madeCells z.cells (m*sz)) E)) F hc ?_ (λa' F'=>k a' _ _ [w.heap.size] ⟨⟨(madeCells z.cells (m*sz)).toList,List.replicate m [],⟨by simp [size_madeCells],.inr ⟨w.heap.size,m,madeCells z.cells (m*sz),vK,Az _,heap_alloc_new w _,vK,by unfold maxLen;omega,by simp [size_madeCells],by rw[Cn (by simp [size_madeCells])]⟩⟩,vK,vK,λj y' bj qc qh=>?_⟩,rfl,kH.nil _,Dj.nil _⟩ qg F')
 ·unfold execOp
  simp only[F.ev hx,F.ev hy]
  simp [hr]
 ·have hj:j<m:=by have:=(Ac.1 qc).1;simpa using this
  have e1:y'=zero:=by rw[List.getElem?_replicate_of_lt hj] at qc;exact(Option.some.inj qc).symm
  have e2:bj=[]:=Cg (Af qh);subst e1 e2;refine hR.fr _ _ _ _ _ _ (qf w) (λc hc=>nomatch hc) (λq hq=>?_)
  have qi:j*sz+q<m*sz:=by have:=Ax sz (show j+1<=m from hj);rw[Ct] at this;omega
  rw[Du,oAz _ _ _ qi xG,qd,Nat.mul_comm,Nat.mul_add_mod,Nat.mod_eq_of_lt hq]
def RPt (v:Vl) (sz i:Nat) (p:Vl):Prop:=∃ g m c,v= .slice (some ⟨g,0,none⟩) m c/\p= .pointer (some ⟨g,i*sz,none⟩)
theorem xSs [hR:FrC sz R] {iy} {t E} {B} {v} {l} {rb ib} {i} {y} (ht:P.underlying t=some (.slice E)) (qa:∀ w,(sizeOf E).run P w= .ok sz w)
 (F:Sk a n L) (hc:vR ops n L g d=true) (he:ev L x=some v) (hi:ev L iy=some (.int .i64 i)) (A:Row sz R E B w v l rb ib) (qc:ix l i=some y)
 (k:∀ a' p bi,Rd (Pt sz R) w p y bi->(∀ c∈bi,c∈rb++ib)->RPt v sz i.toNat p->Sk a' n ((d,p)::L)->wpList P ops Q rest a' w) :
 wpList P ops Q (⟨some d,.indexAddr t x iy,ty,pos,af,g⟩::rest) a w:=by
 obtain⟨p,bi,hr,h1,h2⟩:=xVt (d:=some d) (ty:=ty) (pos:=pos) (af:=af) (g:=g) ht qa F he hi A.rd qc;refine zT F hc (hr w) (λa' F'=>k a' p bi h1 h2 ?_ F');obtain⟨h0,hy⟩:=aE qc;obtain⟨hk,_⟩:=Ac.1 hy;obtain⟨xs,bss,ho,_⟩:=A.row
 rcases ho.2 with ⟨rfl,hn⟩ | ⟨g2,cap,cur,rfl,_⟩
 ·omega
 ·refine⟨g2,_,cap,rfl,?_⟩
  have h3:=hr w
  unfold execOp at h3
  simp only[F.ev he,F.ev hi] at h3;have qd:i<(l.length:Int):=xG
  simp [Instr.indexAt,run_underlying ht,asIntOf,h0,qd,qa,cJ] at h3
  exact h3.symm
theorem dJ {bss:List (List Nat)} {i:Nat} {bs:List Nat} {c:Nat} (h:c∈(bss.set i bs).flatten):c∈bss.flatten∨c∈bs:=by
 obtain⟨bj,h1,h2⟩:=Bl.1 h
 rcases Dd h1 with h3 | rfl
 ·exact .inl (Bl.2 ⟨bj,h3,h2⟩)
 ·exact .inr h2
theorem xRz {bss:List (List Nat)} {i:Nat} {bs:List Nat} (hn:bss.flatten.Nodup) (hb:bs.Nodup) (hd:Dj bss.flatten bs):(bss.set i bs).flatten.Nodup:=by
 by_cases hi:i<bss.length
 ·have e:bss=bss.take i++bss[i]::bss.drop (i+1):=by rw[<- Bt hi,Ei]
  have hm:∀ c,c∈(bss.take i).flatten∨c∈(bss.drop (i+1)).flatten->c∈bss.flatten:=λc hc=>by
   rcases hc with h | h
   ·obtain⟨y,h1,h2⟩:=Bl.1 h;exact Bl.2 ⟨y,Er h1,h2⟩
   ·obtain⟨y,h1,h2⟩:=Bl.1 h;exact Bl.2 ⟨y,List.mem_of_mem_drop h1,h2⟩
  rw[e] at hn;rw[List.set_eq_take_append_cons_drop,if_pos hi];simp only[Eg,List.flatten_cons] at hn ⊢;rw[Ci] at hn;obtain⟨n1,n2,n3⟩:=hn;rw[Ci] at n2;obtain⟨_,n4,_⟩:=n2;refine Ci.2 ⟨n1,Ci.2 ⟨hb,n4,λa ha b qa e=>?_⟩,λa ha b qa e=>?_⟩
  ·subst e;exact hd a (hm a (.inr qa)) ha
  ·subst e
   rcases Aj.1 qa with h | h
   ·exact hd a (hm a (.inl ha)) h
   ·exact n3 a ha a (Bm _ h) rfl
 ·rw[List.set_eq_of_length_le xG];exact hn
theorem xFg {R:ER α} [hR:FrC 1 R] {t E:Ty} {B:Nat} {v p u:Vl} {l:List α} {rb ib bs:List Nat} {i:Nat} {z:α} (ql:∀ w,(sizeOf t).run P w= .ok 1 w)
 (F:Sk a n L) (hc:gok ops L g=true) (hx:ev L x=some p) (hy:ev L y=some u) (A:Row 1 R E B w v l rb ib) (hp:RPt v 1 i p) (hi:i<l.length) (hz:El 1 R w u z bs) (hone:u.oneCell'=true) (hd:Dj rb bs)
 (k:∀ w' ib',Row 1 R E B w' v (l.set i z) rb ib'->B5 rb w w'->(∀ c∈ib',c∈ib∨c∈bs)->(ib.Nodup->bs.Nodup->Dj ib bs->ib'.Nodup)->wpList P ops Q rest a w') :
 wpList P ops Q (⟨none,.store t x y,ty,pos,af,g⟩::rest) a w:=by
 obtain⟨g2,m,c,rfl,rfl⟩:=hp;obtain⟨xs,bss,ho,hl,qc,he⟩:=A.row;have hrb:=A.hrb
 simp [uA,Value.ownBlock] at hrb
 subst hrb
 rcases ho.2 with ⟨h,_⟩ | ⟨g3,cap,cur,h,h2,h3,h4,h5,h6,h7⟩
 ·cases h
 simp only[Value.slice.injEq,Option.some.injEq,Addr.mk.injEq,and_true] at h;obtain⟨rfl,rfl,rfl⟩:=h;rw[Cj] at hx
 have qa:u.cells = #[u]:=by cases u<;>first | rfl | simp [Value.oneCell'] at hone
 have qd:=ho.1;rw[Cj] at qd h6 h7;have qh:i<cur.size:=xG;have hK:lG w g2 cur E:=h3;have hO:B5 [g2] w (w.setCell ⟨g2,i,none⟩ u):=⟨rfl,rfl,rfl,vK,λk _ hk=>Below.heap_setCell _ _ _ _ (vV hk)⟩;have qj:∀ c,c∈ib->c≠g2:=λc hc e=>A.dj g2 vK (e ▸ hc);have qk:∀ c,c∈bs->c≠g2:=λc hc e=>hd g2 vK (e ▸ hc);refine xUn (w':=w.setCell ⟨g2,i,none⟩ u) F hc ?_ (k _ (bss.set i bs).flatten ⟨⟨xs.set i u,bss.set i bs,⟨by simp [qd],.inr ⟨g2,c,cur.setIfInBounds i u,vK,h2,hK.set_at rfl,vV h4,h5,vV h6,?_⟩⟩,by simp [hl],rfl,λj y' bj qg qe=>?_⟩,rfl,λc hc=>?_,λb hb hm=>?_⟩ hO ?_ (λn1 n2 n3=>xRz (by rw[qc];exact n1) n2 (by rw[qc];exact n3)))
 ·unfold execOp
  simp only[F.ev hx,F.ev hy]
  have h8:w.cell? ⟨g2,i,none⟩=some cur[i]:=by rw[hK.cell,Dc qh]
  simp [Instr.storeAt,Instr.sureAddr,storeVar,ql,qa,storeCells,Addr.add,run_store P w _ u _ hone,h8,hK.frozen]
 ·simp only[Cl,Cj,Array.toList_setIfInBounds]
  rw[List.take_set,h7]
 ·rw[Cj]
  by_cases qi:j=i
  ·subst qi
   rw[Ai hi] at qg;rw[Ai (by rw[hl];exact hi)] at qe
   cases qg
   cases qe
   refine hR.fr _ _ _ _ _ _ hz.r (λc hc=>hO.block c (hz.m c hc) (by simpa using qk c hc)) (λq hq=>?_);obtain rfl:q=0:=xG;rw[qa,Cd,Ai xG]
   rfl
  ·rw[Ak (λe=>qi e.symm)] at qg qe
   have hm:=he j y' bj qg qe;rw[Cj] at hm;refine hR.fr _ _ _ _ _ _ hm (λc hc=>?_) (λq hq=>?_)
   ·have qf:c∈ib:=by rw[<- qc];exact Bl.2 ⟨bj,Af qe,hc⟩
    exact hO.block c (A.mem c qf) (by simpa using qj c qf)
   ·obtain rfl:q=0:=xG
    rw[Cd,Ak (λe=>qi e.symm)]
 ·rcases dJ hc with h | h
  ·rw[qc] at h;exact Au (A.mem c h) hO.size
  ·exact Au (hz.m c h) hO.size
 ·rw[Ay] at hb
  subst hb
  rcases dJ hm with h | h
  ·rw[qc] at h;exact qj _ h rfl
  ·exact qk _ h rfl
 ·intro c hc
  rcases dJ hc with h | h
  ·rw[qc] at h;exact .inl h
  ·exact .inr h
theorem xPb:∀ (vs:List Vl) (o:Nat) (cs:Array Vl),(∀ v∈vs,v.oneCell'=true)->o+vs.length<=cs.size->∃ cs',Instr.fill (λi=>some (i*1,1)) cs ((List.range' o vs.length).zip vs)=some cs'/\cs'.size=cs.size/\∀ i,cs'[i]?=if o<=i/\i<o+vs.length then vs[i - o]? else cs[i]?
 | [],o,cs,_,_=>⟨cs,rfl,rfl,λi=>by rw[if_neg (by simp only[Bh];omega)]⟩
 | v::r,o,cs,h1,hs=>by
  have hv:=h1 v vK
  have hc:v.cells = #[v]:=by cases v<;>first | rfl | simp [Value.oneCell'] at hv
  simp only[Ao] at hs;obtain⟨cs',e1,e2,e3⟩:=xPb r (o+1) (cs.setIfInBounds o v) (λu hu=>h1 u (by simp [hu])) (by simp;omega);refine⟨cs',?_,vV e2,λi=>?_⟩
  ·simp only[Ao,Dw,List.zip_cons_cons]
   unfold Instr.fill
   simp only[hc];have h2:¬ (o*1+1 > cs.size):=xG
   simp [h2,Cj] at e1 ⊢
   exact⟨xG,e1⟩
  ·rw[e3 i]
   simp only[Ao]
   by_cases h2:o+1<=i/\i<o+1+r.length
   ·rw[if_pos h2,if_pos xG,show i - o=(i - (o+1))+1 by omega,List.getElem?_cons_succ]
   ·rw[if_neg h2]
    by_cases h3:i=o
    ·subst h3
     rw[if_pos xG,Em,List.getElem?_cons_zero,Ca,if_pos rfl,if_pos xG]
    ·rw[if_neg xG,Ca,if_neg xG]
theorem oJk {t e z parts m xs l} (ht:P.underlying t=some (.slice e)) (qg:∀ w,(sizeOf e).run P w= .ok 1 w) (hz:∀ w,(zeroValue e).run P w= .ok z w) (hzs:z.cells.size=1)
 (F:Sk a n L) (hc:vR ops n L g d=true) (hp:parts.toList=(List.range' 0 xs.length).zip xs) (hm:m=l.length) (hm1:l.length<=1000) (hm0:0<l.length)
 (hx:evs L xs=some (l.map (Value.int .i64))) (hI:∀ y∈l,xM y)
 (k:∀ a' w' v' rb,Row 1 xF e w.heap.size w' v' l rb []->Below w.heap.size w w'->Sk a' n ((d,v')::L)->wpList P ops Q rest a' w') :
 wpList P ops Q (⟨some d,.buildSlice t m parts,ty,pos,af,g⟩::rest) a w:=by
 subst hm;have qf:=F.evs hx
 have qd:xs.length=l.length:=by have:=congrArg List.length qf;simpa using this
 obtain⟨cs',e1,e2,e3⟩:=xPb (l.map (Value.int .i64)) 0 ((Array.range l.length).map (z.cells[· % z.cells.size]!)) (λv hv=>by obtain⟨x,_,rfl⟩:=Cy.1 hv;rfl) vK
 have ecs:cs'=(l.map (Value.int .i64)).toArray:=by
  apply Array.ext_getElem?
  intro i;rw[e3 i]
  by_cases h:i<l.length
  ·rw[if_pos (by simp;exact h)];simp
  ·rw[if_neg (by simp;omega),Cu (by simp;omega),Cu (by simp;omega)]
 have qh:Below w.heap.size w (w.alloc (.cells cs' e)):=(Below.refl _ _).alloc (Az _) _;refine zT (v:=.slice (some ⟨w.heap.size,0,none⟩) l.length l.length) (w':=w.alloc (.cells cs' e)) F hc ?_ (λa' F'=>k a' _ _ [w.heap.size] ⟨⟨l.map (Value.int .i64),List.replicate l.length [],⟨vK,.inr ⟨w.heap.size,l.length,cs',rfl,Az _,heap_alloc_new w _,Az _,by unfold maxLen;omega,by rw[ecs];simp,by rw[ecs,Cn vK]⟩⟩,vK,vK,λi y' bj qe qi=>?_⟩,rfl,kH.nil _,Dj.nil _⟩ qh F')
 ·unfold execOp
  have qc:(parts.map λ(i,x)=>(i,a.eval x)).toList=(List.range' 0 l.length).zip (l.map (Value.int .i64)):=by
   rw[Array.toList_map,hp,<- qf,qd];rw[List.zip_map_right]
   rfl
  have h0:l.length≠0:=xG;have h1:¬ (16777216<l.length):=xG;rw[Bw] at e1
  simp [Instr.buildSlice,run_underlying ht,qg,hz,h0,h1,newRow]
  have qa:List.map (λx:Nat×Operand=>(x.1,a.eval x.2)) parts.toList=(List.range' 0 l.length).zip (l.map (Value.int .i64)):=by rw[<- qc,Array.toList_map]
  rw[qa];simp only[Cj] at e1;rw[e1]
  rfl
 ·have hi:i<l.length:=(Ac.1 qe).1
  have e5:bj=[]:=Cg (Af qi);subst e5;exact⟨by simp [qe],hI y' (Af qe),rfl⟩
end
end
section
open Go.RowKit
variable {r1:ResultVar}
section
variable {P:Program} {ops:Array Oper} {Q:Exit->Act->Wd->Prop} {a:Act} {w:Wd} {n:Nat} {L:List (Nat×Vl)} {rest:List Oper} {d:Nat} {ty:Ty} {pos:String} {af:Array Edge} {g:Option (Nat×Bool)}
end
theorem _root_.Go.RowKit.Below.o {B rb w0 w w'} (h:Below B w0 w) (l:B5 rb w w') (hr:∀ b∈rb,B<=b) (hs:B<=w.heap.size):Below B w0 w':=h.trans (l.below hs hr)
def xAq (tmps:Array Vl):ResultVar->Sem Vl | .tmp t=>pure (tmps.getD t undef) | .cell a t=>do loadVar t (<- asAddr (tmps.getD a undef))
section
variable {P:Program} {w:Wd} {L:List (Nat×Vl)} {a:Act} {n:Nat} {fn:Func} {R:Ending->Wd->Prop}
theorem oMd (F:Sk a n L) {t} {v} (h:sC L t=some v):(xAq a.tmps (.tmp t)).run P w= .ok v w:=by
 simp [xAq,Array.getD_eq_getD_getElem?,F.g _ _ h]
theorem oGr (F:Sk a n L) {t b} {T T'} {arr} (qa:∀ w,(isAgg T).run P w= .ok true w) (qc:∀ w,(sizeOf T).run P w= .ok arr.size w) (h:sC L t=some (.pointer (some ⟨b,0,none⟩))) (K:lG w b arr T'):(xAq a.tmps (.cell t T)).run P w= .ok (.agg arr) w:=by
 have hl:=run_loadCells_list (P:=P) w ⟨b,0,none⟩ arr.toList (λj v hj=>by rw[cJ,Bn,K.cell];simpa using hj);rw[Array.length_toList] at hl
 simp [xAq,Array.getD_eq_getD_getElem?,F.g _ _ h,asAddr,loadVar,qa,qc,hl]
theorem xDz:results fn a.tmps=(do let vs <- fn.results.mapM (xAq a.tmps);pure (if h:vs.size=1 then vs[0] else .tuple vs)):=rfl
theorem xPw (F:Sk a n L) {v1} (hr:fn.results = #[r1]) (h1:(xAq a.tmps r1).run P w= .ok v1 w) (h:R (.returned v1) w):bodyPost P fn R .ret a w:= bodyPost_ret (v:=v1) (by rw[xDz,hr];simp [h1]) F.d h
theorem xYw (F:Sk a n L) {r2} {v1 v2} (hr:fn.results = #[r1,r2]) (h1:(xAq a.tmps r1).run P w= .ok v1 w) (h2:(xAq a.tmps r2).run P w= .ok v2 w) (h:R (.returned (.tuple #[v1,v2])) w):bodyPost P fn R .ret a w:= bodyPost_ret (v:=.tuple #[v1,v2]) (by rw[xDz,hr];simp [h1,h2]) F.d h
theorem xZb (F:Sk a n L) {r2 r3} {v1 v2 v3} (hr:fn.results = #[r1,r2,r3]) (h1:(xAq a.tmps r1).run P w= .ok v1 w) (h2:(xAq a.tmps r2).run P w= .ok v2 w) (h3:(xAq a.tmps r3).run P w= .ok v3 w) (h:R (.returned (.tuple #[v1,v2,v3])) w):bodyPost P fn R .ret a w:= bodyPost_ret (v:=.tuple #[v1,v2,v3]) (by rw[xDz,hr];simp [h1,h2,h3]) F.d h
end
theorem qW {k g:Nat} {b:Int} (h:k+(g+1)=b.toNat):decide ((k:Int)<b)=true:=by simp;omega
theorem vJ {k:Nat} {b:Int} (h:k+0=b.toNat):decide ((k:Int)<b)=false:=by simp;omega
theorem tG {k g:Nat} {b lo:Int} (h:k+(g+1)=(b - lo).toNat):decide (lo+(k:Int)<b)=true:=by simp;omega
theorem yF {k:Nat} {b lo:Int} (h:k+0=(b - lo).toNat):decide (lo+(k:Int)<b)=false:=by simp;omega
theorem dL {k g:Nat} {b:Int} (h:k+(g+1)=b.toNat) (hb:xM b):xM (k:Int):=⟨xG,by have:=hb.2;omega⟩
theorem vZ {k g:Nat} {b} (h:k+(g+1)=b.toNat) (hb:xM b):xM ((k+1:Nat):Int):=⟨xG,by have:=hb.2;omega⟩
theorem xWn {k g:Nat} {b lo:Int} (h:k+(g+1)=(b - lo).toNat) (hl:xM lo) (hb:xM b):xM (lo+(k:Int)):=⟨by have:=hl.1;omega,by have:=hb.2;omega⟩
theorem xHr {k g:Nat} {b lo} (h:k+(g+1)=(b - lo).toNat) (hl:xM lo) (hb:xM b):xM (lo+((k+1:Nat):Int)):=⟨by have:=hl.1;omega,by have:=hb.2;omega⟩
theorem cI {α:Type} {l:List α} {i:Int} {x:α} (h:ix l i=some x):i.toNat<l.length:=(Ac.1 (aE h).2).1
theorem xYa {α:Type} {sz:Nat} {R:ER α} {w:Wd} {v:Vl} {l:List α} {ib:List Nat} (h:Src sz R w v l ib) (hR:∀ w f x bs,R w f x bs->bs=[]):ib=[]:=by
 obtain⟨_,h⟩:=h
 rcases h with ⟨_,_,h⟩ | ⟨_,_,_,css,_,_,_,hl,hf,he⟩
 ·exact h
 ·have:∀ bi∈css,bi=[]:=λbi hb=>by
   obtain⟨i,hi,rfl⟩:=Bx hb;exact hR _ _ _ _ (he i _ _ (Aa (by rw[<- hl];exact hi)) (Aa hi))
  rw[<- hf,Dx];exact this
section
variable {P:Program} {ops:Array Oper} {Q:Exit->Act->Wd->Prop} {C:Wd->Prop} {K:Act->Prop} {a:Act} {w:Wd} {n:Nat} {L:List (Nat×Vl)} {rest:List Oper} {d:Nat} {dd:Option Tmp} {ty:Ty} {pos:String} {af:Array Edge} {g:Option (Nat×Bool)}
theorem oIm {x y:Operand} {t t':Ty} {k:Nat} {lo:Int} (F:Sk a n L) (hc:vR ops n L g d=true) (e:ev L x=some (.int .i64 (lo+(k:Int)))) (e':ev L y=some (.int .i64 1)) (hi:xM (lo+((k+1:Nat):Int))) (kk:∀ a',Sk a' n ((d,.int .i64 (lo+((k+1:Nat):Int)))::L)->wpList P ops Q rest a' w) :
 wpList P ops Q (⟨some d,.binOp .add t x y t',ty,pos,af,g⟩::rest) a w:=by
 have h:lo+((k+1:Nat):Int)=lo+(k:Int)+1:=xG;rw[h] at hi kk;exact oAv F hc e e' (oMo hi) kk
theorem xJl {t:Ty} {e sz:Nat} {ad:Option Addr} {len cap i j:Nat} (ht:P.underlying t=some (.slice e)) (qa:∀ w,(sizeOf e).run P w= .ok sz w) (qc:i<=j) (hj:j<=cap) (lo hi:Option Vl) (qd:lo=some (.int .i64 i)∨lo=none/\i=0) (qe:hi=some (.int .i64 j)∨hi=none/\j=len) (w:Wd) :
 (Instr.sliceAt t (.slice ad len cap) lo hi none).run P w= .ok (.slice (if cap=i then ad else ad.map (·.add (i*sz))) (j - i) (cap - i)) w:=by
 have h1:(i:Int)<=j:=xG;have h2:(j:Int)<=cap:=xG
 rcases qd with rfl | ⟨rfl,rfl⟩<;>rcases qe with rfl | ⟨rfl,rfl⟩ <;>
  simp [Instr.sliceAt,Instr.slice,run_underlying ht,Instr.sliceBounds,Instr.sliceBound,asIntOf,qa,h1,h2,qc,hj]
theorem oKu {α:Type} {sz:Nat} {R:ER α} [hR:FrC sz R] {t e:Ty} {v:Vl} {l r:List α} {bs:List Nat} {i j:Int} (ht:P.underlying t=some (.slice e)) (qg:∀ w,(sizeOf e).run P w= .ok sz w) (h:Rd (Sl sz R) w v l bs) (hs:sl l i j=some r) :
 ∃ v' bi,Rd (Sl sz R) w v' r bi/\(∀ c∈bi,c∈bs)/\∀ (lo hi:Option Vl),(lo=some (.int .i64 i)∨lo=none/\i=0)->(hi=some (.int .i64 j)∨hi=none/\j=l.length)->∀ w',(Instr.sliceAt t v lo hi none).run P w'= .ok v' w':=by
 obtain⟨h0,hij,qh,rfl⟩:=xJp hs;obtain⟨i,rfl⟩:∃ m:Nat,i=m:=⟨i.toNat,xG⟩;obtain⟨j,rfl⟩:∃ m:Nat,j=m:=⟨j.toNat,xG⟩;obtain⟨⟨ad,c,rfl,h1,h2,h3,h4⟩,hm⟩:=h;simp only[Ad]
 have qa:((l.take j).drop i).length=j - i:=by simp;omega
 have qc:∀ (lo hi:Option Vl),(lo=some (.int .i64 (i:Int))∨lo=none/\(i:Int)=0)->(hi=some (.int .i64 (j:Int))∨hi=none/\(j:Int)=l.length)->∀ w',(Instr.sliceAt t (.slice ad l.length c) lo hi none).run P w'= .ok (.slice (if c=i then ad else ad.map (·.add (i*sz))) (j - i) (c - i)) w':=λlo hi qi qj w'=>
  xJl ht qg xG xG lo hi (by rcases qi with h | h;exact .inl h;exact .inr ⟨h.1,xG⟩) (by rcases qj with h | h;exact .inl h;exact .inr ⟨h.1,xG⟩) w'
 by_cases qk:j=i
 ·subst qk
  have qe:(l.take j).drop j=[]:=Cc.1 (by rw[qa];omega);refine⟨_,[],?_,(λc hc=>nomatch hc),qc⟩;rw[qe];refine⟨⟨_,c - j,by rw[Em];rfl,vK,xG,?_,.inl ⟨rfl,rfl⟩⟩,kH.nil w⟩;intro hn
  split at hn
  ·omega
  ·cases ad with
   | none=>have:=h3 rfl;omega
   | some x=>cases hn
 ·rcases h4 with ⟨rfl,_⟩ | ⟨b,o,bss,rfl,rfl,he⟩
  ·simp at qh;omega
  ·have qd:∀ x∈((bss.take j).drop i).flatten,x∈bss.flatten:=λx hx=>by
    obtain⟨y,hy,ql⟩:=Bl.1 hx;exact Bl.2 ⟨y,Er (List.mem_of_mem_drop hy),ql⟩
   refine⟨_,b::((bss.take j).drop i).flatten,⟨⟨_,c - i,rfl,by rw[qa];omega,xG,?_,.inr ⟨b,o+i*sz,(bss.take j).drop i,?_,rfl,?_,λq x bi hx qf=>?_⟩⟩,λx hx=>?_⟩,λx hx=>?_,by rw[qa];exact qc⟩
   ·intro hn;split at hn<;>cases hn
   ·split
    ·rename_i hci
     omega
    ·simp [cJ]
   ·simp [he.1]
   ·rw[Dv,Bf] at hx qf
    split at hx
    ·rename_i hq
     rw[if_pos hq] at qf;refine hR.fr _ _ _ _ _ _ (he.2 _ _ _ hx qf) (λ_ _=>rfl) (λp hp=>?_);rw[Ct]
     congr 2
     omega
    ·cases hx
   ·rcases Av.1 hx with rfl | hx
    ·exact hm _ vK
    ·exact hm _ (by simp [qd x hx])
   ·rcases Av.1 hx with rfl | hx
    ·simp
    ·simp [qd x hx]
section
variable {α:Type} {sz:Nat} {R:ER α} [hR:FrC sz R] {t e:Ty} {x lo hi:Operand} {v:Vl} {l r:List α} {bs:List Nat} {i j:Int}
end
end
theorem on:∀ v∈([]:List Vl),v.oneCell'=true:=λv h=>nomatch h
theorem oc {v:Vl} {r:List Vl} (h:v.oneCell'=true) (k:∀ u∈r,u.oneCell'=true):∀ u∈v::r,u.oneCell'=true:=λu hu=>by
 rcases Av.1 hu with rfl | hu
 ·exact h
 ·exact k u hu
theorem _root_.Go.RowKit.Below.through' {w p q} (h:Below w.heap.size w p) (l:Below p.heap.size p q):Below w.heap.size w q:=h.trans (l.mono h.size)
section
variable {P:Program} {ops:Array Oper} {Q:Exit->Act->Wd->Prop} {a:Act} {w:Wd} {n:Nat} {L:List (Nat×Vl)} {rest:List Oper} {d:Nat} {ty:Ty} {pos:String} {af:Array Edge} {g:Option (Nat×Bool)}
theorem oFu {c:Operand} {f:FuncId} {lb:List Vl} {xs:List Operand} {at':Array Ty} {vs:List Vl} {Φ:Vl->Wd->Prop} {R:Ending->Wd->Prop} (F:Sk a n L) (hc:vR ops n L g d=true) (qa:ev L c=some (.func (.func f) #[] lb.toArray)) (hf:∀ args w,(callFunc f args).run P w= .ok (.enter f args) w)
 (e:evs L xs=some vs) (C:Calls P f (vs++lb).toArray w R) (hR:∀ e w',R e w'->∃ v,e= .returned v/\Φ v w')
 (k:∀ a' v w',Φ v w'->Sk a' n ((d,v)::L)->wpList P ops Q rest a' w') :
 wpList P ops Q (⟨some d,.call ⟨.value c,xs.toArray,at'⟩,ty,pos,af,g⟩::rest) a w:=by
 unfold vR at hc
 rw[Be] at hc
 unfold wpList
 rw[if_pos (jO F (o:=⟨some d,.call ⟨.value c,xs.toArray,at'⟩,ty,pos,af,g⟩) hc.1)];refine .inl ?_
 unfold Oper.wp
 have hr:(execOp a.eval ⟨some d,.call ⟨.value c,xs.toArray,at'⟩,ty,pos,af,g⟩).run P w= .ok (.enter f (vs++lb).toArray) w:=by
  have h2:(xs.toArray.map a.eval)=vs.toArray:=by rw[Dp,F.evs e]
  unfold execOp
  simp only[resolve,h2,F.ev qa,Deferred.ofValue,invoke,Sem.run_bind,Sem.run_pure,Result.andThen_ok,Array.empty_append,List.append_toArray,Bp,hf]
 rw[hr]
 exact C.mono λe w'' he=>by
  obtain⟨v,rfl,hv⟩:=hR e w'' he;exact k _ _ _ hv (F.put v hc.2)
end
end
section
open Go.RowKit
def QF:Exit->Act->Wd->Prop:=λ_ _ _=>False
def wZ (ops:Array Oper) (j u:Nat):Bool:=match ops[j]? with | some o=>o.after.any (λe=>Region.binds .any e && e.on==u) | none=>false
def anc (ops:Array Oper):Nat->Nat->Nat->Bool | 0,j,u=>wZ ops j u | f+1,j,u=>wZ ops j u || (List.range ops.size).any λk=>wZ ops j k && anc ops f k u
def cOp (ops:Array Oper) (u:Nat):Bool:=match ops[u]? with | some o=>(match o.op with | .move _=>true | .assign _=>true | .binOp ..=>true | .unOp ..=>true | .extract ..=>true | _=>false) | none=>false
def xQs (ops:Array Oper) (j:Nat):Bool:=(List.range ops.size).all λu=>u==j || anc ops 10 j u || wZ ops u j || cOp ops u
def Clo (ops:Array Oper) (listed:Array Bool):Prop:=∀ j k,listed.getD j false=true->wZ ops j k=true->listed.getD k false=true
def oAt (ops:Array Oper) (listed:Array Bool):Bool:=(List.range listed.size).all λj=>!(listed.getD j false) || (match ops[j]? with | some o=>o.after.all (λe=>!Region.binds .any e || listed.getD e.on false) | none=>true)
theorem xRf {ops listed} (h:oAt ops listed=true):Clo ops listed:=by
 intro j k hj hw
 unfold oAt at h
 have qa:j<listed.size:=by
  rcases Ec j listed.size with h' | h'
  ·exact h'
  ·simp [Cu h'] at hj
 have h1:=Cm.1 h j (List.mem_range.2 qa);rw[hj] at h1
 unfold wZ at hw
 cases ho:ops[j]? with
 | none=>rw[ho] at hw;cases hw
 | some o=>
  rw[ho] at hw h1;simp only[Br,En] at h1 hw;obtain⟨e,he,hb⟩:=Array.any_eq_true'.1 hw;simp only[Be,De] at hb;have h2:=(Array.all_eq_true'.1 h1) e he;rw[hb.1,hb.2] at h2
  simpa using h2
theorem xLg {ops listed} (hc:Clo ops listed):∀ (f j u:Nat),listed.getD j false=true->anc ops f j u=true->listed.getD u false=true
 | 0,j,u,hj,h=>hc j u hj h
 | f+1,j,u,hj,h=>by
  unfold anc at h
  rcases Bool.or_eq_true_iff.1 h with h | h
  ·exact hc j u hj h
  ·obtain⟨k,_,hk⟩:=List.any_eq_true.1 h
   rw[Be] at hk;exact xLg hc f k u (hc j k hj hk.1) hk.2
theorem xIf {listed:Array Bool} {j k:Nat} (h:listed.getD k false=true):(listed.setIfInBounds j true).getD k false=true:=by
 rcases Ec k listed.size with h' | h'
 ·simp only[Array.getD_eq_getD_getElem?,Ca]
  split
  ·simp_all
  ·simpa using h
 ·simp [Cu h'] at h
class KOk (K:Wd->Wd->Prop):Prop where
  refl:∀ w,K w w
  tr:∀ {a b c:Wd},K a b->K b c->K a c
def zE (P:Program) (ops:Array Oper) (N:Act->Wd->Prop) (K:Wd->Wd->Prop):Nat->Array Bool->Act->Wd->Prop | 0,listed,a,w=>Region.ready .any ops listed=[]/\N a w | f+1,listed,a,w=>(Region.ready .any ops listed=[]->N a w)/\∀ i∈Region.ready .any ops listed,wpOp P ops QF i (λa' w'=>(K w w'∨xQs ops i=true)/\zE P ops N K f (listed.setIfInBounds i true) a' w') a w
section
variable {P:Program} {ops:Array Oper} {N:Act->Wd->Prop}
theorem oFb {Q i K K' a w} (h:wpOp P ops QF i K a w) (hK:∀ a w,K a w->K' a w):wpOp P ops Q i K' a w:=by
 unfold wpOp at *
 split
 ·rename_i ho;simp only[ho] at h;exact hK _ _ h
 ·rename_i o ho
  simp only[ho] at h
  split
  ·rename_i hw
   simp only[hw,if_true] at h
   rcases h with h | ⟨_,_,_,h⟩
   ·refine .inl ?_
    unfold Oper.wp at *
    generalize (execOp a.eval o).run P w=r at *
    cases r with
    | ok n w'=>
     cases n<;>simp only[Oper.upon] at h ⊢ <;>
      first
       | exact hK _ _ h
       | exact Calls.mono h (λe w'' he=>by cases e<;>first | exact hK _ _ he | exact he.elim | (obtain⟨_,_,h⟩:=he;exact h.elim))
       | exact Rows.mono h (λ_ _ he=>hK _ _ he)
    | halt x w'=>cases x<;>simp only[Oper.upon] at h ⊢<;>exact h.elim
   ·exact h.elim
  ·rename_i hw;simp only[hw] at h;exact hK _ _ h
theorem xDl {K Q} (hN:∀ a w,N a w->Q .normal a w):∀ (f:Nat) (listed:Array Bool) (a:Act) (w:Wd),zE P ops N K f listed a w->wpAny P .any ops Q f listed a w | 0,_,_,_,h=>⟨h.1,hN _ _ h.2⟩ | f+1,_,_,_,h=>⟨λh0=>hN _ _ (h.1 h0),λi hi=>oFb (h.2 i hi) (λa w h=>xDl hN f _ a w h.2)⟩
def mS (P:Program) (ops:Array Oper) (C:Wd->Prop) (o:Oper) (v:Vl) (a:Act):Prop:= (Region.wanted o (yielded ops a.tmps)=true/\∀ w,C w->(execOp a.eval o).run P w= .ok (.value v) w)∨(Region.wanted o (yielded ops a.tmps)=false/\v=undef)
theorem mS.of_same {C o v a a'} (hy:mS P ops C o v a) (he:execOp a'.eval o=execOp a.eval o) (hw:Region.wanted o (yielded ops a'.tmps)=Region.wanted o (yielded ops a.tmps)):mS P ops C o v a':=by
 unfold mS at *
 rw[he,hw];exact hy
theorem xVy {C j oi oj v} (hj:ops[j]?=some oj) (qa:oi.apart ops oj=true)
 (qc:∀ cs b,oi.op ≠ .select cs b) (qd:∀ cs b,oj.op ≠ .select cs b) {K} {a} {w}
 (hy:mS P ops C oi v a) (h:wpOp P ops QF j K (a.put oi.dst v) w) :
 wpOp P ops QF j (λa' w'=>mS P ops C oi v a'/\K (a'.put oi.dst v) w') a w:=by
 obtain⟨h1,h2,h3⟩:=Oper.apart_spec qa
 have keep:∀ (a:Act),mS P ops C oi v a->∀ u,mS P ops C oi v (a.put oj.dst u):=λa hy u=>
  hy.of_same (execOp_put oi qc a oj.dst u h3) (wanted_put oi a oj.dst u h3)
 have keepD:∀ d,mS P ops C oi v { a with defers:=d::a.defers }:=λd=>hy.of_same rfl rfl
 unfold wpOp at *
 simp only[hj] at *;rw[wanted_put oj a oi.dst v h1] at h
 split
 ·rename_i hw
  simp only[hw,if_true] at h
  rcases h with h | ⟨_,_,_,h⟩
  case inr=>exact h.elim
  refine .inl ?_
  unfold Oper.wp at *
  rw[execOp_put oj qd a oi.dst v h1] at h;generalize (execOp a.eval oj).run P w=r at *
  cases r with
  | ok n w'=>
   cases n<;>simp only[Oper.upon] at h ⊢
   case value u=>exact⟨keep a hy u,by rw[<- Act.put_comm a v u h2];exact h⟩
   case skip=>exact⟨keep a hy _,by rw[<- Act.put_comm a v undef h2];exact h⟩
   case defer d=>
    refine⟨keep _ (keepD d) _,?_⟩;rw[<- Act.put_comm _ v undef h2,<- Act.put_defers];exact h
   case enter f args=>
    refine Calls.mono h λe w'' he=>?_
    cases e with
    | returned u=>exact⟨keep a hy u,by rw[<- Act.put_comm a v u h2];exact he⟩
    | panicked c=>exact he.elim
    | outgrown=>obtain⟨_,_,he⟩:=he;exact he.elim
   case row row args=>exact Rows.mono h λu w'' he=>⟨keep a hy u,by rw[<- Act.put_comm a v u h2];exact he⟩
  | halt x w'=>
   cases x<;>simp only[Oper.upon] at h ⊢<;>exact h.elim
 ·rename_i hw
  simp only[hw] at h;exact⟨keep a hy _,by rw[<- Act.put_comm a v undef h2];exact h⟩
theorem yQ {C i o v a w} (hi:ops[i]?=some o) (hC:C w) (hy:mS P ops C o v a) {K} (h:K (a.put o.dst v) w):wpOp P ops QF i K a w:=by
 unfold wpOp
 simp only[hi]
 rcases hy with ⟨hw,hv⟩ | ⟨hw,rfl⟩
 ·simp only[hw,if_true]
  refine .inl ?_
  unfold Oper.wp
  rw[hv w hC];exact h
 ·simp only[hw,Ah,if_false];exact h
theorem xSx {i j listed} (hi:i∈Region.ready .any ops listed) (hj:j∈Region.ready .any ops listed):wZ ops j i=false:=by
 cases h:wZ ops j i with
 | false=>rfl
 | true=>
  unfold wZ at h
  obtain⟨_,oj,qc,qa⟩:=mem_ready.1 hj;rw[qc] at h;simp only at h;obtain⟨e,he,hb⟩:=Array.any_eq_true'.1 h;simp only[Be,De] at hb;have h1:=qa e he hb.1;have h0:=(mem_ready.1 hi).1;rw[hb.2] at h1
  rcases Ec i listed.size with h' | h'
  ·simp [h'] at h0 h1;rw[h0] at h1;cases h1
  ·simp [Cu h'] at h1
theorem sR {j u listed} (hj:j∈Region.ready .any ops listed) (h:wZ ops j u=true):listed.getD u false=true:=by
 unfold wZ at h
 obtain⟨_,oj,qc,qa⟩:=mem_ready.1 hj;rw[qc] at h;simp only at h;obtain⟨e,he,hb⟩:=Array.any_eq_true'.1 h;simp only[Be,De] at hb;have h1:=qa e he hb.1;rw[hb.2] at h1;exact h1
theorem xXg {j:Nat} {listed:Array Bool} (hc:Clo ops listed) (hj:j∈Region.ready .any ops listed):Clo ops (listed.setIfInBounds j true):=by
 intro k u hk hw
 by_cases qa:k=j
 ·subst qa;exact xIf (sR hj hw)
 ·refine xIf (hc k u ?_ hw)
  simp only[Array.getD_eq_getD_getElem?,Ca,if_neg (Ne.symm qa)] at hk
  simpa using hk
theorem oBm {i listed} (hi:i∈Region.ready .any ops listed) (h1:listed.getD i false=true):False:=by
 have h0:=(mem_ready.1 hi).1
 rcases Ec i listed.size with h' | h'
 ·simp [h'] at h0 h1;rw[h0] at h1;cases h1
 ·simp [Cu h'] at h1
theorem xWr {i j listed} (hc:Clo ops listed) (hi:i∈Region.ready .any ops listed) (hj:j∈Region.ready .any ops listed) (f:Nat):anc ops f j i=false:=by
 cases h:anc ops f j i with
 | false=>rfl
 | true=>
  refine(oBm hi ?_).elim
  cases f with
  | zero=>exact sR hj h
  | succ f=>
   unfold anc at h
   rcases Bool.or_eq_true_iff.1 h with h | h
   ·exact sR hj h
   ·obtain⟨k,_,hk⟩:=List.any_eq_true.1 h
    rw[Be] at hk;exact xLg hc f k i (sR hj hk.1) hk.2
theorem oDb {i j listed} (hk:cOp ops i=false) (hc:Clo ops listed) (hi:i∈Region.ready .any ops listed) (hj:j∈Region.ready .any ops listed) (qa:i≠j):xQs ops j≠true:=by
 intro h
 unfold xQs at h
 have qc:i<ops.size:=by
  obtain⟨_,oi,qd,_⟩:=mem_ready.1 hi;exact(Cz.1 qd).1
 have h1:=Cm.1 h i (List.mem_range.2 qc);rw[xWr hc hi hj,xSx hj hi,hk] at h1
 simp [qa] at h1
theorem xLj {K} [kk:KOk K] {w0} {i} {oi} {v} (hk:cOp ops i=false) (hi:ops[i]?=some oi) (qe:∀ (j:Nat) (o:Oper) cs b,ops[j]?=some o->o.op ≠ .select cs b) :
 ∀ (f:Nat) (listed:Array Bool) (a:Act) (w:Wd),Clo ops listed->K w0 w->
  (∀ j oj,ops[j]?=some oj->j≠i->listed.getD j true=false->(∀ e∈oj.after,Region.binds .any e=true->e.on≠i)->oi.apart ops oj=true)->
  i∈Region.ready .any ops listed->mS P ops (λw'=>K w0 w') oi v a->
  zE P ops N K f (listed.setIfInBounds i true) (a.put oi.dst v) w->zE P ops N K (f+1) listed a w:=by
 intro f
 induction f with
 | zero=>
  intro listed a w qg hC _ hr hy H;refine⟨λh=>(by rw[h] at hr;cases hr),λj hj=>?_⟩
  by_cases qa:j=i
  ·subst qa;exact yQ hi hC hy ⟨.inl (kk.refl _),H⟩
  ·have:=ready_mono hj qa
   rw[H.1] at this
   cases this
 | succ f ih=>
  intro listed a w qg hC qc hr hy H;refine⟨λh=>(by rw[h] at hr;cases hr),λj hj=>?_⟩
  by_cases qa:j=i
  ·subst qa;exact yQ hi hC hy ⟨.inl (kk.refl _),H⟩
  ·have h1:=H.2 j (ready_mono hj qa)
   obtain⟨qf,oj,qh,qi⟩:=mem_ready.1 hj
   have qj:∀ e∈oj.after,Region.binds .any e=true->e.on≠i:=λe he hb qm=>by
    have h1:=qi e he hb;have h0:=(mem_ready.1 hr).1;rw[qm] at h1
    rcases Ec i listed.size with h' | h'
    ·simp [h'] at h0 h1;rw[h0] at h1;cases h1
    ·simp [Cu h'] at h1
   have h2:=xVy qh (qc j oj qh qa qf qj) (λcs b=>qe i oi cs b hi) (λcs b=>qe j oj cs b qh) hy h1
   have qd:∀ k ok,ops[k]?=some ok->k≠i->(listed.setIfInBounds j true).getD k true=false->
    (∀ e∈ok.after,Region.binds .any e=true->e.on≠i)->oi.apart ops ok=true:=λk ok hk qn qk qo=>by
    refine qc k ok hk qn ?_ qo
    by_cases ql:j=k
    ·subst ql;exact qf
    ·rw[getD_set_ne true ql] at qk;exact qk
   refine wpOp_mono (λa' w' h3=>?_) h2;obtain⟨h4,h5,h6⟩:=h3;have hb:K w w':=h5.resolve_right (oDb hk qg hr hj (Ne.symm qa));refine⟨.inl hb,ih (listed.setIfInBounds j true) a' w' (xXg qg hj) (kk.tr hC hb) qd (ready_mono hr (Ne.symm qa)) h4 ?_⟩;rw[Array.setIfInBounds_comm _ _ qa];exact h6
theorem xIc {K} [kk:KOk K] {i} {oi} {v} (hi:ops[i]?=some oi) (qe:∀ (j:Nat) (o:Oper) cs b,ops[j]?=some o->o.op ≠ .select cs b) :
 ∀ (f:Nat) (listed:Array Bool) (a:Act) (w:Wd),
  (∀ j oj,ops[j]?=some oj->j≠i->listed.getD j true=false->(∀ e∈oj.after,Region.binds .any e=true->e.on≠i)->oi.apart ops oj=true)->
  i∈Region.ready .any ops listed->mS P ops (λ_=>True) oi v a->
  zE P ops N K f (listed.setIfInBounds i true) (a.put oi.dst v) w->zE P ops N K (f+1) listed a w:=by
 intro f
 induction f with
 | zero=>
  intro listed a w _ hr hy H;refine⟨λh=>(by rw[h] at hr;cases hr),λj hj=>?_⟩
  by_cases qa:j=i
  ·subst qa;exact yQ hi trivial hy ⟨.inl (kk.refl _),H⟩
  ·have:=ready_mono hj qa
   rw[H.1] at this
   cases this
 | succ f ih=>
  intro listed a w qc hr hy H;refine⟨λh=>(by rw[h] at hr;cases hr),λj hj=>?_⟩
  by_cases qa:j=i
  ·subst qa;exact yQ hi trivial hy ⟨.inl (kk.refl _),H⟩
  ·have h1:=H.2 j (ready_mono hj qa)
   obtain⟨qf,oj,qg,qh⟩:=mem_ready.1 hj
   have qi:∀ e∈oj.after,Region.binds .any e=true->e.on≠i:=λe he hb ql=>by
    have h1:=qh e he hb;have h0:=(mem_ready.1 hr).1;rw[ql] at h1
    rcases Ec i listed.size with h' | h'
    ·simp [h'] at h0 h1;rw[h0] at h1;cases h1
    ·simp [Cu h'] at h1
   have h2:=xVy qg (qc j oj qg qa qf qi) (λcs b=>qe i oi cs b hi) (λcs b=>qe j oj cs b qg) hy h1
   have qd:∀ k ok,ops[k]?=some ok->k≠i->(listed.setIfInBounds j true).getD k true=false->
    (∀ e∈ok.after,Region.binds .any e=true->e.on≠i)->oi.apart ops ok=true:=λk ok hk qm qj qn=>by
    refine qc k ok hk qm ?_ qn
    by_cases qk:j=k
    ·subst qk;exact qf
    ·rw[getD_set_ne true qk] at qj;exact qj
   refine wpOp_mono (λa' w' h3=>?_) h2;obtain⟨h4,h5,h6⟩:=h3;refine⟨h5,ih (listed.setIfInBounds j true) a' w' qd (ready_mono hr (Ne.symm qa)) h4 ?_⟩;rw[Array.setIfInBounds_comm _ _ qa];exact h6
def wpV (P:Program) (ops:Array Oper) (C:Wd->Prop) (K:Act->Prop) (o:Oper) (a:Act):Prop:= if Region.wanted o (yielded ops a.tmps) then ∃ v,(∀ w,C w->(execOp a.eval o).run P w= .ok (.value v) w)/\K (a.put o.dst v) else K (a.put o.dst undef)
theorem b_q {K} [kk:KOk K] {f} {listed} {a} {w} (i:Nat) {oi} (hk:cOp ops i=false) (hi:ops[i]?=some oi) (hs:Region.noSelect ops=true) (hf:Region.free .any ops listed i=true) (hr:(Region.ready .any ops listed).contains i=true) (qa:oAt ops listed=true)
 (h:wpV P ops (λw'=>K w w') (λa'=>zE P ops N K f (listed.setIfInBounds i true) a' w) oi a):zE P ops N K (f+1) listed a w:=by
 have qc:i∈Region.ready .any ops listed:=vV hr
 unfold wpV at h
 by_cases hw:Region.wanted oi (yielded ops a.tmps)=true
 ·rw[if_pos hw] at h
  obtain⟨v,h1,h2⟩:=h;exact xLj (w0:=w) hk hi (Region.noSelect_spec hs) f listed a w (xRf qa) (kk.refl _) (Region.free_spec hi hf) qc (.inl ⟨hw,h1⟩) h2
 ·rw[if_neg hw] at h
  exact xLj (w0:=w) hk hi (Region.noSelect_spec hs) f listed a w (xRf qa) (kk.refl _) (Region.free_spec hi hf) qc (.inr ⟨by simpa using hw,rfl⟩) h
theorem xUr {K} [kk:KOk K] {f} {listed} {a} {w} (i:Nat) {oi} (hi:ops[i]?=some oi) (hs:Region.noSelect ops=true) (hf:Region.free .any ops listed i=true) (hr:(Region.ready .any ops listed).contains i=true)
 (h:wpV P ops (λ_=>True) (λa'=>zE P ops N K f (listed.setIfInBounds i true) a' w) oi a):zE P ops N K (f+1) listed a w:=by
 have qa:i∈Region.ready .any ops listed:=vV hr
 unfold wpV at h
 by_cases hw:Region.wanted oi (yielded ops a.tmps)=true
 ·rw[if_pos hw] at h
  obtain⟨v,h1,h2⟩:=h;exact xIc hi (Region.noSelect_spec hs) f listed a w (Region.free_spec hi hf) qa (.inl ⟨hw,h1⟩) h2
 ·rw[if_neg hw] at h
  exact xIc hi (Region.noSelect_spec hs) f listed a w (Region.free_spec hi hf) qa (.inr ⟨by simpa using hw,rfl⟩) h
theorem b_qs {K:World->World->Prop} [kk:KOk K] {f:Nat} {listed:Array Bool} {a:Act} {w:World} (i:Nat) {oi:Oper} (hi:ops[i]?=some oi) (h:wpV P ops (λw'=>K w w') (λa'=>zE P ops N K f (listed.setIfInBounds i true) a' w) oi a) (hb:(!cOp ops i && (Region.noSelect ops && (Region.free .any ops listed i && ((Region.ready .any ops listed).contains i && oAt ops listed))))=true:=by kernel_rfl):zE P ops N K (f+1) listed a w:=by
 simp only[Bool.and_eq_true,Bool.not_eq_true'] at hb;exact b_q i hb.1 hi hb.2.1 hb.2.2.1 hb.2.2.2.1 hb.2.2.2.2 h
theorem b_qz {K:World->World->Prop} [kk:KOk K] {f:Nat} {listed:Array Bool} {a:Act} {w:World} (i:Nat) {oi:Oper} (hi:ops[i]?=some oi) (h:wpV P ops (λ_=>True) (λa'=>zE P ops N K f (listed.setIfInBounds i true) a' w) oi a) (hb:(Region.noSelect ops && (Region.free .any ops listed i && (Region.ready .any ops listed).contains i))=true:=by kernel_rfl):zE P ops N K (f+1) listed a w:=by
 simp only[Bool.and_eq_true] at hb;exact xUr i hi hb.1 hb.2.1 hb.2.2 h
theorem b_e {K f listed a w} (i:Nat) {oi} (hi:ops[i]?=some oi) (hr:Region.ready .any ops listed=[i])
 (h:wpList P ops (Exit.then (λa' w'=>(K w w'∨xQs ops i=true)/\zE P ops N K f (listed.setIfInBounds i true) a' w') QF) [oi] a w):zE P ops N K (f+1) listed a w:=by
 refine⟨λh0=>(by rw[hr] at h0;cases h0),λj hj=>?_⟩;rw[hr,Ay] at hj;subst hj
 unfold wpOp
 simp only[hi]
 unfold wpList at h
 split
 ·rename_i hw
  rw[if_pos hw] at h
  rcases h with h | h
  ·refine .inl ?_
   have h2:=Oper.wp_mono (K':=λa' w'=>(K w w'∨xQs ops j=true)/\zE P ops N K f (listed.setIfInBounds j true) a' w') (λa w h=>h) h
   unfold Oper.wp at h2 ⊢
   generalize (execOp a.eval oi).run P w=r at *
   cases r with
   | ok n w'=>
    cases n<;>simp only[Oper.upon] at h2 ⊢ <;>
     first
      | exact h2
      | exact Calls.mono h2 (λe w'' he=>by cases e<;>first | exact he | exact he.elim | (obtain⟨_,_,h⟩:=he;exact h.elim))
   | halt x w'=>cases x<;>simp only[Oper.upon] at h2 ⊢<;>exact h2.elim
  ·obtain⟨_,_,_,h⟩:=h
   exact False.elim h
 ·rename_i hw
  rw[if_neg hw] at h;exact h
theorem oGh {K listed a w} (hr:Region.ready .any ops listed=[]) (h:N a w):zE P ops N K 0 listed a w:=⟨hr,h⟩
theorem b_ena {K:World->World->Prop} {listed:Array Bool} {a:Act} {w:World} (h:N a w) (hr:Region.ready .any ops listed=[]:=by kernel_rfl):zE P ops N K 0 listed a w:=⟨hr,h⟩
end
section
variable {P:Program} {ops:Array Oper} {C:Wd->Prop} {K:Act->Prop} {a:Act} {w:Wd} {n:Nat} {L:List (Nat×Vl)} {d:Nat} {ty:Ty} {pos:String} {af:Array Edge} {g:Option (Nat×Bool)}
theorem fV {op v} (F:Sk a n L) (hc:vR ops n L g d=true) (hr:∀ w,C w->(execOp a.eval ⟨some d,op,ty,pos,af,g⟩).run P w= .ok (.value v) w) (k:∀ a',Sk a' n ((d,v)::L)->K a'):wpV P ops C K ⟨some d,op,ty,pos,af,g⟩ a:=by
 unfold vR at hc
 rw[Be] at hc
 unfold wpV
 rw[if_pos (jO F (o:=⟨some d,op,ty,pos,af,g⟩) hc.1)];exact⟨v,hr,k _ (F.put v hc.2)⟩
theorem oMv {x:Operand} {v:Value} (F:Sk a n L) (hc:vR ops n L g d=true) (e:ev L x=some v) (k:∀ a',Sk a' n ((d,v)::L)->K a'):wpV P ops C K ⟨some d,.move x,ty,pos,af,g⟩ a:=fV F hc (λw l=>yW F e) k
theorem oMe {x:Operand} {v:Value} (F:Sk a n L) (hc:vR ops n L g d=true) (e:ev L x=some v) (k:∀ a',Sk a' n ((d,v)::L)->K a'):wpV P ops C K ⟨some d,.assign x,ty,pos,af,g⟩ a:=fV F hc (λw l=>xFc F e) k
theorem oJw {x:Operand} {p:Addr} (F:Sk a n L) (hc:vR ops n L g d=true) (e:ev L x=some (.pointer (some p))) (k:∀ a',Sk a' n ((d,(.pointer (some p)))::L)->K a'):wpV P ops C K ⟨some d,.nilCheck x,ty,pos,af,g⟩ a:=fV F hc (λw l=>xAe F e) k
theorem v_no {op} (F:Sk a n L) (hc:gno ops L g=true) (hd:Nat.blt d n=true) (k:∀ a',Sk a' n ((d,undef)::L)->K a'):wpV P ops C K ⟨some d,op,ty,pos,af,g⟩ a:=by
 unfold wpV
 rw[if_neg (by rw[uH F (o:=⟨some d,op,ty,pos,af,g⟩) hc];exact Bool.false_ne_true)];exact k _ (F.put undef hd)
theorem xJw (place:Nat->Option (Nat×Nat)):∀ (ps:List (Nat×Vl)) (cs:Array Vl),(∀ p∈ps,p.2.oneCell'=true/\place p.1=some (p.1,1)/\p.1<cs.size)->Instr.fill place cs ps=some (ps.foldl (λcs p=>cs.setIfInBounds p.1 p.2) cs)
 | [],cs,_=>rfl
 | (i,v)::r,cs,h=>by
  obtain⟨h1,h2,h3⟩:=h (i,v) vK
  have hc:v.cells = #[v]:=by cases v<;>first | rfl | simp [Value.oneCell'] at h1
  unfold Instr.fill
  simp only at h2 h3;simp only[h2,hc];have h4:¬ (i+1 > cs.size):=xG;simp only[Fc,Ao,Bh,Bn,ne_eq,not_true_eq_false,decide_false,En,Bj,h4,if_false];rw[show(#[v]:Array Vl).zipIdx.foldl (λcs (x:Vl×Nat)=>cs.setIfInBounds (i+x.2) x.1) cs=cs.setIfInBounds i v from rfl];exact xJw place r _ (λp hp=>by obtain⟨a,b,c⟩:=h p (by simp [hp]);exact⟨a,b,vV c⟩)
theorem xCw (f:Operand->Vl):∀ (ps:List (Nat×Operand)),(ps.map Prod.fst).zip ((ps.map Prod.snd).map f)=ps.map (λ(i,x)=>(i,f x))
 | []=>rfl
 | p::r=>by simp only[Dg,List.zip_cons_cons,xCw f r]
theorem xPr {dd t fs z places parts ps idx xs vs cs} (ht:P.underlying t=some (.struct fs)) (hz:∀ w,(zeroValue t).run P w= .ok z w)
 (qc:∀ w,(fs.mapM λf=>do pure (f.offset,<- sizeOf f.type):Sem (Array (Nat×Nat))).run P w= .ok places w) (F:Sk a n L) (hp:parts.toList=ps) (h1:ps.map Prod.fst=idx) (h2:ps.map Prod.snd=xs) (hx:evs L xs=some vs) (hone:∀ v∈vs,v.oneCell'=true) (qd:idx.all (λi=>places[i]?==some (i,1) && decide (i<z.cells.size))=true)
 (qe:(idx.zip vs).foldl (λcs p=>cs.setIfInBounds p.1 p.2) z.cells=cs) {w'}:(execOp a.eval ⟨dd,.build t parts,ty,pos,af,g⟩).run P w'= .ok (.value (.agg cs)) w':=by
 have hv:=F.evs hx
 have qa:(parts.map λ(i,x)=>(i,a.eval x)).toList=idx.zip vs:=by
  rw[Array.toList_map,hp,<- h1,<- hv,<- h2];exact(xCw a.eval ps).symm
 have hf:=xJw (places[·]?) (idx.zip vs) z.cells (λp hp=>by
  obtain⟨hi,qf⟩:=List.of_mem_zip hp;have:=Cm.1 qd p.1 hi;simp only[Be,De,Bj] at this
  exact⟨hone _ qf,this.1,this.2⟩)
 rw[qe] at hf
 unfold execOp
 simp only[Instr.build,Sem.run_bind,hz,Result.andThen_ok,run_underlying ht];simp only[Sem.run_bind,qc,Result.andThen_ok];rw[qa,hf]
 rfl
theorem xVb {Q rest t fs z places parts ps idx xs vs cs} (ht:P.underlying t=some (.struct fs)) (hz:∀ w,(zeroValue t).run P w= .ok z w) (qa:∀ w,(fs.mapM λf=>do pure (f.offset,<- sizeOf f.type):Sem (Array (Nat×Nat))).run P w= .ok places w) (F:Sk a n L) (hc:vR ops n L g d=true) (hp:parts.toList=ps) (h1:ps.map Prod.fst=idx) (h2:ps.map Prod.snd=xs) (hx:evs L xs=some vs) (hone:∀ v∈vs,v.oneCell'=true) (qc:idx.all (λi=>places[i]?==some (i,1) && decide (i<z.cells.size))=true) (qd:(idx.zip vs).foldl (λcs p=>cs.setIfInBounds p.1 p.2) z.cells=cs) (k:∀ a',Sk a' n ((d,.agg cs)::L)->wpList P ops Q rest a' w):wpList P ops Q (⟨some d,.build t parts,ty,pos,af,g⟩::rest) a w:= zT F hc (xPr ht hz qa F hp h1 h2 hx hone qc qd) k
section
variable {rest:List Oper} {α:Type} {sz:Nat} {R:ER α} [hR:FrC sz R] {t e:Ty} {x lo hi:Operand} {v:Vl} {l r:List α} {bs:List Nat} {i j:Int}
end
end
section
variable {P:Program} {ops:Array Oper} {Q:Exit->Act->Wd->Prop} {a:Act} {w:Wd} {n:Nat} {L:List (Nat×Vl)} {rest:List Oper} {d:Nat} {ty:Ty} {pos:String} {af:Array Edge} {g:Option (Nat×Bool)}
theorem xSc {x:Operand} {t:Ty} {b o sz:Nat} {dd:Option Tmp} {cs:List Vl} {arr:Array Vl} {T:Ty} (qc:∀ w,(isAgg t).run P w= .ok true w) (qd:∀ w,(sizeOf t).run P w= .ok sz w) (F:Sk a n L) (he:ev L x=some (.pointer (some ⟨b,o,none⟩))) (h:lG w b arr T) (hl:cs.length=sz)
 (hv:∀ j,j<sz->arr[o+j]?=cs[j]?) :
 (execOp a.eval ⟨dd,.load t x,ty,pos,af,g⟩).run P w= .ok (.value (.agg cs.toArray)) w:=by
 subst hl
 unfold execOp
 simp only[F.ev he]
 have hl:=run_loadCells_list (P:=P) w ⟨b,o,none⟩ cs (λj v hj=>by
  have qe:j<cs.length:=(Ac.1 hj).1;have qa:=cJ b o j
  rw[qa,h.cell,hv j qe,hj])
 simp [Instr.loadAt,Instr.sureAddr,loadVar,qc,qd,hl]
theorem xGo {x y t t' dd b m c e0} (ht:P.underlying t=some (.slice e0)) (F:Sk a n L) (e:ev L x=some (.slice b m c)) (e':ev L y=some (.slice none 0 0)) {w'}:(execOp a.eval ⟨dd,.binOp .eql t x y t',ty,pos,af,g⟩).run P w'= .ok (.value (.bool b.isNone)) w':=by
 unfold execOp
 simp only[F.ev e,F.ev e'];obtain⟨k,hk⟩:∃ k,Op.maxDepth=k+1:=⟨Op.maxDepth - 1,rfl⟩
 cases b<;>simp [eqGuard,binOp,Op.equal,hk,Op.equalIn,run_underlying ht]
theorem xZj {α:Type} {sz:Nat} {R:ER α} {x y:Operand} {t t':Ty} {dd:Option Tmp} {v:Vl} {l:List α} {bs:List Nat} {wr:Wd} {e0:Nat} (ht:P.underlying t=some (.slice e0)) (F:Sk a n L) (e:ev L x=some v) (e':ev L y=some (.slice none 0 0)) (h:Rd (Sl sz R) wr v l bs) (hz:l=[]->v= .slice none 0 0) {w':Wd}:(execOp a.eval ⟨dd,.binOp .eql t x y t',ty,pos,af,g⟩).run P w'= .ok (.value (.bool l.isEmpty)) w':=by
 cases l with
 | nil=>
  rw[hz rfl] at e;exact xGo ht F e e'
 | cons y0 l=>
  obtain⟨a',c',rfl,h1,h2,h3,h4⟩:=h.r.open;obtain⟨b,o,bss,bi,rfl,_⟩:=h4 0 vK;exact xGo ht F e e'
theorem oCd {α:Type} {sz:Nat} {R:ER α} {x y:Operand} {t t':Ty} {v:Vl} {l:List α} {bs:List Nat} {e0:Nat} (ht:P.underlying t=some (.slice e0)) (F:Sk a n L) (hc:vR ops n L g d=true) (e:ev L x=some v) (e':ev L y=some (.slice none 0 0)) (h:Rd (Sl sz R) w v l bs) (hz:l=[]->v= .slice none 0 0) (k:∀ a',Sk a' n ((d,.bool l.isEmpty)::L)->wpList P ops Q rest a' w):wpList P ops Q (⟨some d,.binOp .eql t x y t',ty,pos,af,g⟩::rest) a w:=zT F hc (xZj ht F e e' h hz) k
end
section
variable {P:Program} {ops:Array Oper} {Q:Exit->Act->Wd->Prop} {a:Act} {w:Wd} {n:Nat} {L:List (Nat×Vl)} {rest:List Oper} {d:Nat} {ty:Ty} {pos:String} {af:Array Edge} {g:Option (Nat×Bool)}
end
section
variable {P:Program} {ops:Array Oper} {Q:Exit->Act->Wd->Prop} {N:Act->Wd->Prop} {a:Act} {w:Wd} {n:Nat} {L:List (Nat×Vl)} {rest:List Oper} {d:Nat} {ty:Ty} {pos:String} {af:Array Edge} {g:Option (Nat×Bool)}
theorem xWc {α:Type} {sz:Nat} {R:ER α} {x y:Operand} {t t':Ty} {v:Vl} {l:List α} {bs:List Nat} {e0:Nat} (ht:P.underlying t=some (.slice e0)) (F:Sk a n L) (hc:vR ops n L g d=true) (e:ev L x=some v) (e':ev L y=some (.slice none 0 0)) (h:Rd (Sl sz R) w v l bs) (k:∀ a' (b:Bool),(b=true->l=[])->Sk a' n ((d,.bool b)::L)->wpList P ops Q rest a' w):wpList P ops Q (⟨some d,.binOp .eql t x y t',ty,pos,af,g⟩::rest) a w:=by
 obtain⟨a',c',rfl,h1,h2,h3,h4⟩:=h.r.open;refine zT F hc (xGo ht F e e') (λa2 F'=>k a2 _ (λhn=>?_) F')
 cases l with
 | nil=>rfl
 | cons y0 l=>
  obtain⟨b,o,bss,bi,hb,_⟩:=h4 0 vK;rw[hb] at hn
  cases hn
theorem oLb {x y ts dd i j} (F:Sk a n L) (e:ev L x=some (.int .i64 i)) (e':ev L y=some (.int .i64 j)) {w'}:(execOp a.eval ⟨dd,.call ⟨.builtin .max,#[x,y],ts⟩,ty,pos,af,g⟩).run P w'= .ok (.value (.int .i64 (if i<j then j else i))) w':=by
 rw[BigFrame.execOp_builtin,BigFrame.builtin_max];simp only[Dp,Dg,Ew,F.ev e,F.ev e']
 simp [Builtin.max_,Builtin.max2]
 try (split<;>rfl)
theorem oKw {x y ts i j} (F:Sk a n L) (hc:vR ops n L g d=true) (e:ev L x=some (.int .i64 i)) (e':ev L y=some (.int .i64 j)) (k:∀ a',Sk a' n ((d,.int .i64 (if i<j then j else i))::L)->wpList P ops Q rest a' w):wpList P ops Q (⟨some d,.call ⟨.builtin .max,#[x,y],ts⟩,ty,pos,af,g⟩::rest) a w:=zT F hc (oLb F e e') k
theorem oMk {i j} (hi:xM i) (hj:xM j):xM (if i<j then j else i):=by split<;>assumption
def xZx (P:Program) (ops:Array Oper) (N:Act->Wd->Prop) (K:Wd->Wd->Prop) (f:Nat) (listed:Array Bool) (a:Act) (w:Wd):List Nat->Prop | []=>True | i::r=>(∃ oi,ops[i]?=some oi/\wpList P ops (Exit.then (λa' w'=>(K w w'∨xQs ops i=true)/\zE P ops N K f (listed.setIfInBounds i true) a' w') QF) [oi] a w)/\xZx P ops N K f listed a w r
theorem xOm {K f listed}:∀ {l:List Nat} {j:Nat},xZx P ops N K f listed a w l->j∈l->∃ oi,ops[j]?=some oi/\wpList P ops (Exit.then (λa' w'=>(K w w'∨xQs ops j=true)/\zE P ops N K f (listed.setIfInBounds j true) a' w') QF) [oi] a w
 | i::r,j,h,hj=>by
  rcases Av.1 hj with rfl | hj
  ·exact h.1
  ·exact xOm h.2 hj
theorem oIl {K f listed a w} (l:List Nat) (hr:Region.ready .any ops listed=l) (qa:l≠[]) (h:xZx P ops N K f listed a w l):zE P ops N K (f+1) listed a w:=by
 refine⟨λh0=>absurd (hr.symm.trans h0) qa,λj hj=>?_⟩;rw[hr] at hj;obtain⟨oi,hi,h⟩:=xOm h hj
 unfold wpOp
 simp only[hi]
 unfold wpList at h
 split
 ·rename_i hw
  rw[if_pos hw] at h
  rcases h with h | h
  ·refine .inl ?_
   have h2:=Oper.wp_mono (K':=λa' w'=>(K w w'∨xQs ops j=true)/\zE P ops N K f (listed.setIfInBounds j true) a' w') (λa w h=>h) h
   unfold Oper.wp at h2 ⊢
   generalize (execOp a.eval oi).run P w=r at *
   cases r with
   | ok n w'=>
    cases n<;>simp only[Oper.upon] at h2 ⊢ <;>
     first
      | exact h2
      | exact Calls.mono h2 (λe w'' he=>by cases e<;>first | exact he | exact he.elim | (obtain⟨_,_,h⟩:=he;exact h.elim))
   | halt x w'=>cases x<;>simp only[Oper.upon] at h2 ⊢<;>exact h2.elim
  ·obtain⟨_,_,_,h⟩:=h
   exact False.elim h
 ·rename_i hw
  rw[if_neg hw] at h;exact h
end
def nev {α:Type} (l:List α):Option Unit:=match l with | []=>none | _::_=>some ()
theorem oKj {α:Type} {l:List α} {u:Unit} {p:Prop} (h:nev l=some u) (e:l=[]):p:=by subst e;cases h
end
section
open Go.RowKit
variable {x:Operand}
def oAc (X:List Nat) (Φ:Vl->Wd->Prop) (w:Wd) (e:Ending) (w':Wd):Prop:=∃ v,e= .returned v/\B5 X w w'/\Φ v w'
section
variable {P:Program} {ops:Array Oper} {Q:Exit->Act->Wd->Prop} {a:Act} {w:Wd} {n:Nat} {L:List (Nat×Vl)} {rest:List Oper} {d:Nat} {ty:Ty} {pos:String} {af:Array Edge} {g:Option (Nat×Bool)}
theorem oBv {f xs at' vs X Φ} (F:Sk a n L) (hc:vR ops n L g d=true) (hf:∀ args w,(callFunc f args).run P w= .ok (.enter f args) w) (e:evs L xs=some vs) (cl:Calls P f vs.toArray w (oAc X Φ w)) (k:∀ a' v w',B5 X w w'->Φ v w'->Sk a' n ((d,v)::L)->wpList P ops Q rest a' w'):wpList P ops Q (⟨some d,.call ⟨.value (.func f),xs.toArray,at'⟩,ty,pos,af,g⟩::rest) a w:= oAn (Φ:=λv w'=>B5 X w w'/\Φ v w') F hc hf e cl (λe w' ⟨v,he,hb,hφ⟩=>⟨v,he,hb,hφ⟩) (λa' v w' h F'=>k a' v w' h.1 h.2 F')
end
def RTl (v:Vl) (n i:Nat) (p:Vl):Prop:=∃ ad c,v= .slice ad n c/\i<=n/\n<=c/\p= .slice (if c=i then ad else ad.map (·.add i)) (n - i) (c - i)
section
variable {P:Program} {ops:Array Oper} {Q:Exit->Act->Wd->Prop} {a:Act} {w:Wd} {n:Nat} {L:List (Nat×Vl)} {rest:List Oper} {d:Nat} {ty:Ty} {pos:String} {af:Array Edge} {g:Option (Nat×Bool)}
theorem Row.val {α:Type} {sz:Nat} {R:ER α} {E B:Nat} {w:Wd} {v:Vl} {l:List α} {rb ib:List Nat} (h:Row sz R E B w v l rb ib):∃ ad c,v= .slice ad l.length c/\l.length<=c:=by
 obtain⟨xs,bss,ho,_⟩:=h.row
 rcases ho.2 with ⟨rfl,hn⟩ | ⟨g,cap,cur,rfl,_,_,h4,_⟩
 ·exact⟨none,0,by rw[hn],xG⟩
 ·exact⟨_,cap,rfl,h4⟩
theorem oDx {α:Type} {R:ER α} {lo:Operand} {t E B:Nat} {v:Vl} {l r:List α} {rb ib:List Nat} {i:Int} (ht:P.underlying t=some (.slice E)) (qc:∀ w,(sizeOf E).run P w= .ok 1 w)
 (F:Sk a n L) (hc:vR ops n L g d=true) (hx:ev L x=some v) (qd:ev L lo=some (.int .i64 i)) (A:Row 1 R E B w v l rb ib) (hs:sl l i (l.length:Int)=some r)
 (k:∀ a' p,RTl v l.length i.toNat p->Sk a' n ((d,p)::L)->wpList P ops Q rest a' w):wpList P ops Q (⟨some d,.slice t x (some lo) none none,ty,pos,af,g⟩::rest) a w:=by
 obtain⟨h0,hij,_,rfl⟩:=xJp hs;obtain⟨i,rfl⟩:∃ m:Nat,i=m:=⟨i.toNat,xG⟩;obtain⟨ad,c,rfl,qa⟩:=A.val;have hr:=xJl (P:=P) (ad:=ad) (len:=l.length) (cap:=c) (i:=i) (j:=l.length) ht qc xG qa (some (.int .i64 (i:Int))) none (.inl rfl) (.inr ⟨rfl,rfl⟩) w;rw[Cj] at hr;refine zT F hc ?_ (λa' F'=>k a' _ ⟨ad,c,rfl,xG,qa,rfl⟩ (vV F'))
 unfold execOp
 simp [F.ev hx,F.ev qd,hr]
theorem xVd {op} (F:Sk a n L) (hc:gok ops L g=true) {v} {w'} (hr:(execOp a.eval ⟨none,op,ty,pos,af,g⟩).run P w= .ok (.value v) w') (k:wpList P ops Q rest a w'):wpList P ops Q (⟨none,op,ty,pos,af,g⟩::rest) a w:=by
 unfold wpList
 rw[if_pos (jO F (o:=⟨none,op,ty,pos,af,g⟩) hc)];refine .inl ?_
 unfold Oper.wp
 rw[hr];exact k
theorem oBt {t E B v p l rb i} (ht:P.underlying t=some (.slice E)) (hv:∀ w,(zeroValue E).run P w= .ok (.int .i64 0) w)
 (F:Sk a n L) (hc:gok ops L g=true) (hx:ev L x=some p) (A:Row 1 xF E B w v l rb []) (T:RTl v l.length i p)
 (k:∀ w',Row 1 xF E B w' v (l.take i++List.replicate (l.length - i) 0) rb []->B5 rb w w'->(∀ X,kH X w->Dj X rb->Dj X rb)->wpList P ops Q rest a w') :
 wpList P ops Q (⟨none,.call ⟨.builtin .clear,#[x],#[t]⟩,ty,pos,af,g⟩::rest) a w:=by
 obtain⟨ad,c,rfl,hi,hcap,rfl⟩:=T
 have qc:∀ (u:Vl) w',(Builtin.clear_ #[t] ty #[u]).run P w= .ok (.tuple #[]) w'->ev L x=some u->(execOp a.eval ⟨none,.call ⟨.builtin .clear,#[x],#[t]⟩,ty,pos,af,g⟩).run P w= .ok (.value (.tuple #[])) w':=by
  intro u w' h e;rw[BigFrame.execOp_builtin,BigFrame.builtin_clear];simp only[Dp,Dg,Ew,F.ev e]
  simp [h]
 by_cases qj:i=l.length
 ·subst qj
  refine xVd (w':=w) F hc (qc _ _ ?_ hx) (k w (vV A) (B5.refl _ _) (λ_ _ h=>h));rw[Em]
  split<;>cases ad<;>simp [Builtin.clear_,run_underlying ht]
 ·obtain⟨xs,bss,ho,hl,qk,he⟩:=A.row
  have hrb:=A.hrb
  rcases ho.2 with ⟨h1,h2⟩ | ⟨g2,cap,cur,h1,hg,qd,h4,h5,h6,h7⟩
  ·omega
  ·simp only[Value.slice.injEq] at h1
   obtain⟨rfl,_,rfl⟩:=h1;have ql:c≠i:=xG;rw[if_neg ql] at hx
   have qf:(⟨g2,0,none⟩:Addr).add i=⟨g2,i,none⟩:=by rw[cJ,Bn]
   simp only[Cw,qf] at hx;have hK:lG w g2 cur E:=qd;rw[Cj] at h6 h7;obtain⟨cur',q1,q2,q3,q4⟩:∃ cur':Array Vl,_:=wV g2 E (0,0) (List.replicate (l.length - i) (Value.int IntKind.i64 0)) i w cur qd (by simp;omega)
   have hxl:xs.length=l.length:=by have:=ho.1;omega
   refine xVd (w':=w.setCells g2 i (List.replicate (l.length - i) (Value.int IntKind.i64 0))) F hc (qc _ _ (Lib.run_clear_slice w t E ty (Value.int IntKind.i64 0) ht hv rfl rfl g2 i (l.length - i) (c - i) xG (λj hj=>?_) (λj hj=>?_)) hx) (k _ ?_ ?_ (λ_ _ h=>h))
   ·rw[hK.cell,Dc xG];rfl
   ·exact hK.frozen _
   ·have qa:(l.take i++List.replicate (l.length - i) (0:Int)).length=l.length:=by simp;omega
    have qe:∀ (j:Nat) (y:Int),(l.take i++List.replicate (l.length - i) (0:Int))[j]?=some y->cur'[j]?=some (Value.int IntKind.i64 y)/\xM y:=by
     intro j y hy;rw[List.getElem?_append] at hy
     split at hy
     ·rename_i hji
      rw[Bd] at hji;rw[Bf,if_pos xG] at hy;have qh:j<l.length:=xG
      have h8:=he j y [] hy (by
       have:j<bss.length:=xG;rw[Aa this];have h9:=Dx.1 qk _ (Bs this)
       rw[h9])
      refine⟨?_,h8.2.1⟩;rw[q4 j (Or.inl xG)];have qg:=h8.1;simp only[Cj,Cd] at qg;rw[<- h7,Bf,if_pos xG] at qg
      simpa using qg
     ·rename_i hji
      rw[Bd] at hji;have qm:=Af hy;have:=Cg qm;subst this;have qh:=(Ac.1 hy).1;simp only[Bv,Bd] at qh;refine⟨?_,kS⟩;have qi:=q3 (j - i) (by simp;omega);rw[show i+(j - i)=j by omega] at qi;rw[qi,Dm,if_pos xG]
    refine⟨⟨(l.take i++List.replicate (l.length - i) (0:Int)).map (λy=>Value.int .i64 y),List.replicate l.length [],⟨by rw[Bw,Cj],.inr ⟨g2,c,cur',by rw[qa],hg,q1,by rw[qa];exact h4,h5,by rw[q2,Cj];exact h6,?_⟩⟩,by rw[Bv,qa],vK,λj y bi hy qn=>?_⟩,hrb,kH.nil _,Dj.nil _⟩
    ·refine Cr (λj=>?_)
     rw[Bf,Bc,qa,Cj]
     split
     ·rename_i hj
      have:j<(l.take i++List.replicate (l.length - i) (0:Int)).length:=xG;have qo:=qe j _ (Aa this);rw[Du,qo.1,Aa this]
      rfl
     ·rename_i hj
      rw[Ce xG]
      rfl
    ·have hb:=Cg (Af qn)
     obtain⟨h13,qp⟩:=qe j y hy;refine⟨?_,qp,hb⟩
     show(List.map (λy=>Value.int IntKind.i64 y) _)[j*1+0]?=_
     rw[Cj,Cd,Bc,hy]
     rfl
   ·have:=xMz g2 i (List.replicate (l.length - i) (Value.int IntKind.i64 0)) w
    rw[hrb];exact this
theorem oCs {α:Type} {sz:Nat} {R:ER α} [hR:FrC sz R] {hi:Operand} {t E B:Nat} {v:Vl} {l r:List α} {rb ib:List Nat} {j:Int} (ht:P.underlying t=some (.slice E)) (qh:∀ w,(sizeOf E).run P w= .ok sz w)
 (F:Sk a n L) (hc:vR ops n L g d=true) (hx:ev L x=some v) (qi:ev L hi=some (.int .i64 j)) (A:Row sz R E B w v l rb ib) (hs:sl l 0 j=some r)
 (k:∀ a' v' ib',Row sz R E B w v' r rb ib'->List.Sublist ib' ib->Sk a' n ((d,v')::L)->wpList P ops Q rest a' w):wpList P ops Q (⟨some d,.slice t x none (some hi) none,ty,pos,af,g⟩::rest) a w:=by
 obtain⟨_,h0,hjl,rfl⟩:=xJp hs;obtain⟨j,rfl⟩:∃ m:Nat,j=m:=⟨j.toNat,xG⟩;have qd:j<=l.length:=xG;simp only[Ad,show(0:Int).toNat=0 from rfl,Ex] at k ⊢;obtain⟨xs,bss,ho,hl,qj,he⟩:=A.row;have hrb:=A.hrb
 have qc:∀ c∈(bss.take j).flatten,c∈ib:=λc hc=>by
  obtain⟨y,hy,qk⟩:=Bl.1 hc;rw[<- qj];exact Bl.2 ⟨y,Er hy,qk⟩
 have qa:(l.take j).length=j:=by simp;omega
 have qe:j*sz<=l.length*sz:=Ax _ qd
 rcases ho.2 with ⟨rfl,h2⟩ | ⟨g2,cap,cur,rfl,hg,qf,h4,h5,h6,h7⟩
 ·have ql:j=0:=xG
  subst ql;have hr:=xJl (P:=P) (ad:=none) (len:=0) (cap:=0) (i:=0) (j:=0) ht qh (Az _) (Az _) none (some (.int .i64 ((0:Nat):Int))) (.inr ⟨rfl,rfl⟩) (.inl rfl) w;refine zT (v:=.slice none 0 0) F hc ?_ (λa' F'=>k a' _ [] ?_ (List.nil_sublist _) F')
  ·unfold execOp
   simp [F.ev hx,F.ev qi] at hr ⊢
   simp [hr]
  ·have:=Row.nil sz R E B w
   rw[hrb]
   simpa [uA,Value.ownBlock] using this
 ·have hr:=xJl (P:=P) (ad:=some ⟨g2,0,none⟩) (len:=l.length) (cap:=cap) (i:=0) (j:=j) ht qh (Bi _) xG none (some (.int .i64 (j:Int))) (.inr ⟨rfl,rfl⟩) (.inl rfl) w
  have hv:(if cap=0 then some (⟨g2,0,none⟩:Addr) else (some (⟨g2,0,none⟩:Addr)).map (·.add (0*sz)))=some ⟨g2,0,none⟩:=by
   split
   ·rfl
   ·rw[Nat.zero_mul,Cw,cJ]
  rw[hv,Fg,Fg] at hr;refine zT (v:=.slice (some ⟨g2,0,none⟩) j cap) F hc ?_ (λa' F'=>k a' _ (bss.take j).flatten ⟨⟨xs.take (j*sz),bss.take j,⟨by rw[Bd,ho.1,qa];omega,.inr ⟨g2,cap,cur,by rw[qa],hg,qf,by rw[qa];omega,h5,h6,?_⟩⟩,by simp;omega,rfl,λq y bi hy qg=>?_⟩,?_,λc hc=>A.mem c (qc c hc),λc hc hm=>A.dj c hc (qc c hm)⟩ (by rw[<- qj];have e9:=congrArg List.flatten (Ei j bss);rw[Eg] at e9;rw[<- e9];exact List.sublist_append_left _ _) F')
  ·unfold execOp
   simp [F.ev hx,F.ev qi,hr]
  ·rw[qa,<- h7,List.take_take,Fa qe]
  ·rw[Bf] at hy qg
   split at hy
   ·rename_i hq
    rw[if_pos hq] at qg;have h8:=he q y bi hy qg;have qm:(q+1)*sz<=j*sz:=Ax _ hq;rw[Ct] at qm;refine hR.fr _ _ _ _ y bi h8 (λ_ _=>rfl) (λm hm=>?_);rw[Bf,if_pos xG]
   ·cases hy
  ·rw[hrb]
   simp [uA,Value.ownBlock]
end
theorem xHy {v:Vl} (h:v.oneCell'=true):v.cells = #[v]:=by cases v<;>first | rfl | simp [Value.oneCell'] at h
def xRb (cells:Array Vl):List (Nat×List Vl)->Array Vl | []=>cells | (o,vs)::r=>xRb (vs.zipIdx.foldl (λcs x=>cs.setIfInBounds (o+x.2) x.1) cells) r
def xUy (places:Array (Nat×Nat)) (n:Nat):List Nat->List Vl->List (Nat×List Vl)->Prop | [],[],[]=>True | i::is,v::vs,(o,c)::qs=>v.cells=c.toArray/\places[i]?=some (o,c.length)/\o+c.length<=n/\xUy places n is vs qs | _,_,_=>False
theorem xOp (o:Nat):∀ (vs:List (Vl×Nat)) (cs:Array Vl),(vs.foldl (λcs x=>cs.setIfInBounds (o+x.2) x.1) cs).size=cs.size
 | [],_=>rfl
 | v::r,cs=>by rw[List.foldl_cons,xOp o r];simp
theorem oBe {places n}:∀ {is:List Nat} {vs:List Vl} {qs:List (Nat×List Vl)} {cs:Array Vl},cs.size=n->xUy places n is vs qs->Instr.fill (places[·]?) cs (is.zip vs)=some (xRb cs qs)
 | [],[],[],_,_,_=>rfl
 | i::is,v::vs,(o,c)::qs,cs,hn,h=>by
  obtain⟨h1,h2,h3,h4⟩:=h;rw[List.zip_cons_cons]
  unfold Instr.fill xRb
  simp only[h2,h1,Fc];rw[if_neg (by simp;omega)]
  have e:c.toArray.zipIdx.foldl (λcs (x:Vl×Nat)=>cs.setIfInBounds (o+x.2) x.1) cs=c.zipIdx.foldl (λcs x=>cs.setIfInBounds (o+x.2) x.1) cs:=by
   simp
  rw[e];exact oBe (by rw[xOp];exact hn) h4
section
variable {P:Program} {ops:Array Oper} {Q:Exit->Act->Wd->Prop} {a:Act} {w:Wd} {n:Nat} {L:List (Nat×Vl)} {rest:List Oper} {d:Nat} {ty:Ty} {pos:String} {af:Array Edge} {g:Option (Nat×Bool)}
theorem oCb {t fs z places parts ps idx xs vs qs cs} (ht:P.underlying t=some (.struct fs)) (hz:∀ w,(zeroValue t).run P w= .ok z w)
 (qd:∀ w,(fs.mapM λf=>do pure (f.offset,<- sizeOf f.type):Sem (Array (Nat×Nat))).run P w= .ok places w) (F:Sk a n L) (hc:vR ops n L g d=true) (hp:parts.toList=ps) (h1:ps.map Prod.fst=idx) (h2:ps.map Prod.snd=xs) (hx:evs L xs=some vs)
 (hf:xUy places z.cells.size idx vs qs) (qe:xRb z.cells qs=cs) (k:∀ a',Sk a' n ((d,.agg cs)::L)->wpList P ops Q rest a' w):wpList P ops Q (⟨some d,.build t parts,ty,pos,af,g⟩::rest) a w:=by
 refine zT F hc ?_ k;have hv:=F.evs hx
 have qa:(parts.map λ(i,x)=>(i,a.eval x)).toList=idx.zip vs:=by
  rw[Array.toList_map,hp,<- h1,<- hv,<- h2];exact(xCw a.eval ps).symm
 have qc:=oBe (cs:=z.cells) rfl hf;rw[qe] at qc
 unfold execOp
 simp only[Instr.build,Sem.run_bind,hz,Result.andThen_ok,run_underlying ht];simp only[Sem.run_bind,qd,Result.andThen_ok];rw[qa,qc]
 rfl
end
section
variable {P:Program} {ops:Array Oper} {C:Wd->Prop} {K:Act->Prop} {a:Act} {w:Wd} {n:Nat} {L:List (Nat×Vl)} {d:Nat} {ty:Ty} {pos:String} {af:Array Edge} {g:Option (Nat×Bool)}
end
end
section
open Go.RowKit
variable {E:Ty}
structure Sm (N:Nat->Prop) (w w':Wd):Prop where
  blk:∀ c,N c->w'.heap[c]?=w.heap[c]?
theorem Sm.refl (N:Nat->Prop) (w:Wd):Sm N w w:=⟨λ_ _=>rfl⟩
theorem Sm.trans {N a b c} (h:Sm N a b) (k:Sm N b c):Sm N a c:=⟨λx hx=>(k.blk x hx).trans (h.blk x hx)⟩
theorem Sm.mono {M N a b} (h:Sm N a b) (hs:∀ c,M c->N c):Sm M a b:=⟨λx hx=>h.blk x (hs x hx)⟩
instance (N:Nat->Prop):KOk (Sm N):=⟨Sm.refl N,Sm.trans⟩
def All (w:Wd) (c:Nat):Prop:=c<w.heap.size
theorem Sm.all {w w'} (l:Below w.heap.size w w'):Sm (All w) w w':=⟨λc hc=>l.block c hc⟩
def Bo {α:Type} (N:Nat->Prop) (w:Wd) (V:VR α) (v:Vl) (x:α):Prop:=∃ bs,Rd V w v x bs/\∀ c∈bs,N c
section
variable {α:Type} {M N:Nat->Prop} {V:VR α} {w w':Wd} {v:Vl} {x:α}
theorem Bo.to [hV:VF V] (h:Bo N w V v x) (s:Sm N w w'):Bo N w' V v x:=by
 obtain⟨bs,h1,h2⟩:=h;refine⟨bs,⟨hV.same h1.r (λb hb=>s.blk b (h2 b hb)),λb hb=>?_⟩,h2⟩;have h3:=s.blk b (h2 b hb);rw[Dc (h1.m b hb)] at h3;exact(Cz.1 h3).1
theorem Bo.mono (h:Bo M w V v x) (hs:∀ c,M c->N c):Bo N w V v x:=let ⟨bs,h1,h2⟩:=h;⟨bs,h1,λc hc=>hs c (h2 c hc)⟩
theorem Bo.all (h:Bo N w V v x):Bo (All w) w V v x:=let ⟨bs,h1,_⟩:=h;⟨bs,h1,h1.m⟩
theorem Bo.of {bs} (h:Rd V w v x bs):Bo (All w) w V v x:=⟨bs,h,h.m⟩
end
structure As where
  N:Nat->Prop
  P:Wd->List Nat->Prop
  st:∀ {w w':Wd} {Y:List Nat},P w Y->(∀ c∈Y,w'.heap[c]?=w.heap[c]?)->(∀ c,N c->w'.heap[c]?=w.heap[c]?)->w.heap.size<=w'.heap.size->P w' Y
abbrev N0:Nat->Prop:=λ_=>False
def bx (b:Nat) (cs:List Vl) (T:Ty):As:=⟨N0,λw Y=>lG w b cs.toArray T/\b∈Y,λh h1 _ _=>⟨(h1 _ h.2).trans h.1,h.2⟩⟩
def rw(N:Nat->Prop) {α:Type} (sz:Nat) (R:ER α) [hR:FrC sz R] (E:Ty) (v:Vl) (xs:List α):As:= ⟨N,λw Y=>∃ rb ib,Row sz R E 0 w v xs rb ib/\(∀ c∈rb,c∈Y)/\∀ c∈ib,c∈Y∨N c,λh h1 h2 hs=>by
 obtain⟨rb,ib,h3,h4,h5⟩:=h
 exact⟨rb,ib,h3.keep (λc hc=>h1 c (h4 c hc)) (λc hc=>(h5 c hc).elim (h1 c) (h2 c)) hs,h4,h5⟩⟩
def ro (N:Nat->Prop) {α:Type} {V:VR α} [hV:VF V] (v:Vl) (x:α):As:= ⟨N,λw Y=>∃ bs,Rd V w v x bs/\∀ c∈bs,c∈Y∨N c,λh h1 h2 hs=>by
 obtain⟨bs,h3,h4⟩:=h
 exact⟨bs,⟨hV.same h3.r (λc hc=>(h4 c hc).elim (h1 c) (h2 c)),h3.m.le hs⟩,h4⟩⟩
def ow {α:Type} {V:VR α} [hV:VF V] (v:Vl) (x:α):As:= ⟨N0,λw Y=>∃ bs,Rd V w v x bs/\Own 0 bs w/\∀ c∈bs,c∈Y,λh h1 _ hs=>by
 obtain⟨bs,h3,h4,h5⟩:=h
 exact⟨bs,⟨hV.same h3.r (λc hc=>h1 c (h5 c hc)),h3.m.le hs⟩,h4.same (λc hc=>h1 c (h5 c hc)),h5⟩⟩
def rl {α:Type} (sz:Nat) (R:ER α) [hR:FrC sz R] (E:Ty) (v:Vl) (xs:List α):As:= ⟨N0,λw Y=>∃ rb ib,Row sz R E 0 w v xs rb ib/\Own 0 ib w/\(∀ c∈rb,c∈Y)/\∀ c∈ib,c∈Y,λh h1 _ hs=>by
 obtain⟨rb,ib,h3,h6,h4,h5⟩:=h
 exact⟨rb,ib,h3.keep (λc hc=>h1 c (h4 c hc)) (λc hc=>h1 c (h5 c hc)) hs,h6.same (λc hc=>h1 c (h5 c hc)),h4,h5⟩⟩
def pr (A B:As):As:=⟨λc=>A.N c∨B.N c,λw Y=>∃ Y1 Y2,A.P w Y1/\B.P w Y2/\Dj Y1 Y2/\(∀ c∈Y1,c∈Y)/\∀ c∈Y2,c∈Y,λh h1 h2 hs=>by
 obtain⟨Y1,Y2,h3,h4,h5,h6,h7⟩:=h
 exact⟨Y1,Y2,A.st h3 (λc hc=>h1 c (h6 c hc)) (λc hc=>h2 c (.inl hc)) hs,B.st h4 (λc hc=>h1 c (h7 c hc)) (λc hc=>h2 c (.inr hc)) hs,h5,h6,h7⟩⟩
structure Sep (X:List Nat) (N:Nat->Prop) (w0 w:Wd) (L:List As):Prop where
  fr:B5 X w0 w
  nb:∀ c,N c->c<w0.heap.size/\c ∉ X
  ex:∃ Y:Nat->List Nat,(∀ i A,L[i]?=some A->A.P w (Y i)/\(∀ c,A.N c->N c)/\∀ c∈Y i,c<w.heap.size/\(c∈X∨w0.heap.size<=c))/\∀ i j,i<L.length->j<L.length->i≠j->Dj (Y i) (Y j)
section
variable {X:List Nat} {N:Nat->Prop} {w0 w w':Wd} {L:List As} {A B:As}
theorem Sep.sm (H:Sep X N w0 w L):Sm N w0 w:=⟨λc hc=>H.fr.block c (H.nb c hc).1 (H.nb c hc).2⟩
theorem Sep.bl (H:Sep [] N w0 w L):Below w0.heap.size w0 w:=H.fr.below (Az _) (λ_ h=>nomatch h)
theorem Sep.start (h:∀ c,N c->c<w.heap.size):Sep [] N w w []:= ⟨B5.refl _ _,λc hc=>⟨h c hc,λh=>nomatch h⟩,λ_=>[],λi A h=>(by cases i<;>cases h),λi j h=>absurd h (Nat.not_lt_zero _)⟩
theorem Sep.own {i:Nat} {c:Nat} (hX:c∈X∨w0.heap.size<=c) (H:Sep X N w0 w L):¬ N c:=λhN=>by
 have h:=H.nb c hN
 rcases hX with h1 | h1
 ·exact h.2 h1
 ·omega
theorem Sep.turn (H:Sep X N w0 w L) (l:B5 [] w w'):Sep X N w0 w' L:=by
 obtain⟨Y,h1,h2⟩:=H.ex;have hb:∀ c,c<w.heap.size->w'.heap[c]?=w.heap[c]?:=λc hc=>l.block c hc (λh=>nomatch h);refine⟨H.fr.trans (l.mono (λ_ h=>nomatch h)),H.nb,Y,λi A hi=>?_,h2⟩;obtain⟨h3,h4,h5⟩:=h1 i A hi;exact⟨A.st h3 (λc hc=>hb c (h5 c hc).1) (λc hc=>hb c (Au (H.nb c (h4 c hc)).1 H.fr.size)) l.size,h4,λc hc=>⟨Au (h5 c hc).1 l.size,(h5 c hc).2⟩⟩
theorem Sep.go (H:Sep X N w0 w L) (l:Below w.heap.size w w'):Sep X N w0 w' L:=H.turn (B5.of_below l)
theorem Sep.drew (H:Sep X N w0 w L):Sep X N w0 w.drew L:=H.go (Below.refl _ _).drew
def fH (L:List As):List Nat->Option (List As)
 | []=>some []
 | i::r=>match L[i]?,fH L r with
  | some A,some M=>some (A::M)
  | _,_=>none
def xMp:List Nat->Bool | []=>true | i::r=>r.all (λj=>!(Nat.beq i j)) && xMp r
theorem xVv:∀ {is:List Nat} {M:List As},fH L is=some M->is.length=M.length/\∀ (k:Nat) A,M[k]?=some A->∃ i,is[k]?=some i/\L[i]?=some A
 | [],M,h=>by cases h;exact⟨rfl,λk A h=>by cases k<;>cases h⟩
 | i::r,M,h=>by
  unfold fH at h
  cases h1:L[i]? with
  | none=>simp [h1] at h
  | some A=>
   cases h2:fH L r with
   | none=>simp [h1,h2] at h
   | some M'=>
    simp only[h1,h2,Option.some.injEq] at h;subst h;obtain⟨h3,h4⟩:=xVv h2;refine⟨by simp [h3],λk B hk=>?_⟩
    cases k with
    | zero=>simp at hk;subst hk;exact⟨i,rfl,h1⟩
    | succ k=>simpa using h4 k B (vV hk)
theorem xNz:∀ {is:List Nat},xMp is=true->∀ (a b i j:Nat),is[a]?=some i->is[b]?=some j->a≠b->i≠j
 | [],_,a,_,_,_,h,_,_=>by cases a<;>cases h
 | x::r,hn,a,b,i,j,ha,hb,hab=>by
  unfold xMp at hn
  rw[Be] at hn
  have hx:∀ (k y:Nat),r[k]?=some y->x≠y:=λk y hk=>by
   have:=Cm.1 hn.1 y (Af hk);intro e;subst e
   simp at this
  cases a with
  | zero=>
   cases b with
   | zero=>exact absurd rfl hab
   | succ b=>simp at ha;subst ha;exact hx b j (vV hb)
  | succ a=>
   cases b with
   | zero=>simp at hb;subst hb;exact(hx a i (vV ha)).symm
   | succ b=>exact xNz hn.2 a b i j (vV ha) (vV hb) xG
theorem Sep.s (H:Sep X N w0 w L) (is:List Nat) {M} (h:fH L is=some M) (hn:xMp is=true):Sep X N w0 w M:=by
 obtain⟨Y,h1,h2⟩:=H.ex;obtain⟨h3,h4⟩:=xVv h;refine⟨H.fr,H.nb,λk=>Y (is.getD k 0),λk A hk=>?_,λa b ha hb qa=>?_⟩
 ·obtain⟨i,hi,hA⟩:=h4 k A hk
  have e:is.getD k 0=i:=by rw[Ap,hi];rfl
  dsimp only
  rw[e];exact h1 i A hA
 ·obtain⟨i,hi,hA⟩:=h4 a _ (Aa ha)
  obtain⟨j,hj,hB⟩:=h4 b _ (Aa hb)
  have e:is.getD a 0=i:=by rw[Ap,hi];rfl
  have e':is.getD b 0=j:=by rw[Ap,hj];rfl
  dsimp only
  rw[e,e'];exact h2 i j (Ac.1 hA).1 (Ac.1 hB).1 (xNz hn a b i j hi hj qa)
theorem Sep.push (H:Sep X N w0 w L) (l:Below w.heap.size w w') {Y0} (hP:A.P w' Y0) (hN:∀ c,A.N c->N c) (hY:∀ c∈Y0,w.heap.size<=c/\c<w'.heap.size):Sep X N w0 w' (A::L):=by
 have H':=H.go l;obtain⟨Y,h1,h2⟩:=H'.ex;obtain⟨Z,h5,h6⟩:=H.ex;refine⟨H'.fr,H'.nb,λi=>match i with | 0=>Y0 | i+1=>Z i,λi B hi=>?_,λi j hi hj qc=>?_⟩
 ·cases i with
  | zero=>
   simp at hi
   subst hi;exact⟨hP,hN,λc hc=>⟨(hY c hc).2,.inr (Cb H.fr.size (hY c hc).1)⟩⟩
  | succ i=>
   have qd:L[i]?=some B:=vV hi;obtain⟨h3,h4,h7⟩:=h5 i B qd;exact⟨B.st h3 (λc hc=>l.block c (h7 c hc).1) (λc hc=>l.block c (Au (H.nb c (h4 c hc)).1 H.fr.size)) l.size,h4,λc hc=>⟨Au (h7 c hc).1 l.size,(h7 c hc).2⟩⟩
 ·have old:∀ k,k<L.length->∀ c∈Z k,c<w.heap.size:=λk hk c hc=>((h5 k _ (Aa hk)).2.2 c hc).1
  cases i with
  | zero=>
   cases j with
   | zero=>exact absurd rfl qc
   | succ j=>exact λc hc qa=>by have:=(hY c hc).1;have:=old j (vV hj) c qa;omega
  | succ i=>
   cases j with
   | zero=>exact λc hc qa=>by have:=(hY c qa).1;have:=old i (vV hi) c hc;omega
   | succ j=>exact h6 i j (vV hi) (vV hj) xG
theorem Sep.hd (H:Sep X N w0 w (A::L)):∃ Y0,A.P w Y0/\(∀ c,A.N c->N c)/\(∀ c∈Y0,c<w.heap.size/\¬ N c) ∧
 ∀ {w':Wd} {Z:List Nat},(∀ c∈Z,c∈Y0)->B5 Z w w'->∀ {B:As} {Y1:List Nat},B.P w' Y1->(∀ c,B.N c->N c)->(∀ c∈Y1,(c∈Y0∨w.heap.size<=c)/\c<w'.heap.size)->Sep X N w0 w' (B::L):=by
 obtain⟨Y,h1,h2⟩:=H.ex;obtain⟨h3,h4,h5⟩:=h1 0 A rfl;refine⟨Y 0,h3,h4,λc hc=>⟨(h5 c hc).1,Sep.own (i:=0) (h5 c hc).2 H⟩,λ{w' Z} hZ l {B Y1} hP hN hY=>?_⟩;have hl:B5 (Y 0) w w':=l.mono hZ;refine⟨?_,H.nb,λi=>match i with | 0=>Y1 | i+1=>Y (i+1),λi C hi=>?_,λi j hi hj qa=>?_⟩
 ·refine⟨hl.os.trans H.fr.os,hl.tape.trans H.fr.tape,hl.output.trans H.fr.output,Cb H.fr.size hl.size,λk hk hn=>?_⟩
  rw[hl.block k (Au hk H.fr.size) (λhm=>by rcases(h5 k hm).2 with h | h;exact hn h;omega),H.fr.block k hk hn]
 ·cases i with
  | zero=>
   simp at hi
   subst hi;refine⟨hP,hN,λc hc=>⟨(hY c hc).2,?_⟩⟩
   rcases(hY c hc).1 with h | h
   ·exact(h5 c h).2
   ·exact .inr (Cb H.fr.size h)
  | succ i=>
   obtain⟨h6,h7,h8⟩:=h1 (i+1) C (vV hi)
   have qd:i+1<(A::L).length:=by simpa using (Ac.1 hi).1
   have hd:Dj (Y (i+1)) (Y 0):=h2 (i+1) 0 qd vK xG;refine⟨C.st h6 (λc hc=>hl.block c (h8 c hc).1 (hd c hc)) (λc hc=>?_) hl.size,h7,λc hc=>⟨Au (h8 c hc).1 hl.size,(h8 c hc).2⟩⟩;refine hl.block c (Au (H.nb c (h7 c hc)).1 H.fr.size) (λhm=>?_);exact Sep.own (i:=0) (h5 c hm).2 H (h7 c hc)
 ·have key:∀ k,k+1<(A::L).length->Dj Y1 (Y (k+1)):=λk hk c hc qc=>by
   rcases(hY c hc).1 with h | h
   ·exact h2 0 (k+1) vK hk xG c h qc
   ·have:=(h1 (k+1) _ (Aa hk)).2.2 c qc
    omega
  cases i with
  | zero=>
   cases j with
   | zero=>exact absurd rfl qa
   | succ j=>exact key j (vV hj)
  | succ i=>
   cases j with
   | zero=>exact(key i (vV hi)).symm
   | succ j=>exact h2 (i+1) (j+1) (vV hi) (vV hj) qa
theorem Sep.mg (H:Sep X N w0 w (A::B::L)):Sep X N w0 w (pr A B::L):=by
 obtain⟨Y,h1,h2⟩:=H.ex;obtain⟨h3,h4,h5⟩:=h1 0 A rfl;obtain⟨h6,h7,h8⟩:=h1 1 B rfl;refine⟨H.fr,H.nb,λi=>match i with | 0=>Y 0++Y 1 | i+1=>Y (i+2),λi C hi=>?_,λi j hi hj qa=>?_⟩
 ·cases i with
  | zero=>
   simp at hi
   subst hi;exact⟨⟨Y 0,Y 1,h3,h6,h2 0 1 vK vK xG,λc hc=>Bq _ hc,λc hc=>Bm _ hc⟩,λc hc=>hc.elim (h4 c) (h7 c),λc hc=>(Aj.1 hc).elim (h5 c) (h8 c)⟩
  | succ i=>exact h1 (i+2) C (vV hi)
 ·have key:∀ k,k+2<(A::B::L).length->Dj (Y 0++Y 1) (Y (k+2)):=λk hk=>Dj.app' (h2 0 (k+2) vK hk xG) (h2 1 (k+2) vK hk xG)
  cases i with
  | zero=>
   cases j with
   | zero=>exact absurd rfl qa
   | succ j=>exact key j (vV hj)
  | succ i=>
   cases j with
   | zero=>exact(key i (vV hi)).symm
   | succ j=>exact h2 (i+2) (j+2) (vV hi) (vV hj) xG
theorem Sep.um (H:Sep X N w0 w (pr A B::L)):Sep X N w0 w (A::B::L):=by
 obtain⟨Y,h1,h2⟩:=H.ex;obtain⟨⟨Y1,Y2,p1,p2,dj,y1,y2⟩,h4,h5⟩:=h1 0 _ rfl;refine⟨H.fr,H.nb,λi=>match i with | 0=>Y1 | 1=>Y2 | i+2=>Y (i+1),λi C hi=>?_,λi j hi hj qa=>?_⟩
 ·match i,hi with
  | 0,hi=>
   simp at hi
   subst hi;exact⟨p1,λc hc=>h4 c (.inl hc),λc hc=>h5 c (y1 c hc)⟩
  | 1,hi=>
   simp at hi
   subst hi;exact⟨p2,λc hc=>h4 c (.inr hc),λc hc=>h5 c (y2 c hc)⟩
  | i+2,hi=>exact h1 (i+1) C (vV hi)
 ·have k1:∀ k,k+2<(A::B::L).length->Dj Y1 (Y (k+1))/\Dj Y2 (Y (k+1)):=λk hk=>by
   have:=h2 0 (k+1) vK (vV hk) xG;exact⟨λc hc=>this c (y1 c hc),λc hc=>this c (y2 c hc)⟩
  match i,j,hi,hj,qa with
  | 0,0,_,_,h=>exact absurd rfl h
  | 0,1,_,_,_=>exact dj
  | 1,0,_,_,_=>exact dj.symm
  | 1,1,_,_,h=>exact absurd rfl h
  | 0,j+2,_,hj,_=>exact(k1 j hj).1
  | 1,j+2,_,hj,_=>exact(k1 j hj).2
  | i+2,0,hi,_,_=>exact(k1 i hi).1.symm
  | i+2,1,hi,_,_=>exact(k1 i hi).2.symm
  | i+2,j+2,hi,hj,h=>exact h2 (i+1) (j+1) (vV hi) (vV hj) xG
theorem Sep.ret {M K} (H:Sep X N w0 w L) (S:Sep [] M w w' K) (hN:∀ A∈K,∀ c,A.N c->N c):Sep X N w0 w' (K++L):=by
 obtain⟨Y,h1,h2⟩:=(H.go S.bl).ex;obtain⟨Y',qe,qf⟩:=H.ex;obtain⟨Z,h3,h4⟩:=S.ex
 have hZ:∀ (i:Nat),i<K.length->∀ c∈Z i,w.heap.size<=c/\c<w'.heap.size:=λi hi c hc=>by
  have:=(h3 i _ (Aa hi)).2.2 c hc;exact⟨this.2.resolve_left (λh=>nomatch h),this.1⟩
 refine⟨(H.go S.bl).fr,H.nb,λi=>if i<K.length then Z i else Y' (i - K.length),λi A hi=>?_,λi j hi hj qg=>?_⟩
 ·dsimp only
  by_cases hk:i<K.length
  ·rw[if_pos hk]
   rw[Bu hk] at hi;refine⟨(h3 i A hi).1,hN A (Af hi),λc hc=>⟨(hZ i hk c hc).2,.inr (Cb H.fr.size (hZ i hk c hc).1)⟩⟩
  ·rw[if_neg hk]
   rw[Bb xG] at hi;obtain⟨h5,h6,h7⟩:=qe _ A hi;have l:=S.bl;exact⟨A.st h5 (λc hc=>l.block c (h7 c hc).1) (λc hc=>l.block c (Au (H.nb c (h6 c hc)).1 H.fr.size)) l.size,h6,λc hc=>⟨Au (h7 c hc).1 l.size,(h7 c hc).2⟩⟩
 ·have old:∀ (k:Nat),k<L.length->∀ c∈Y' k,c<w.heap.size:=λk hk c hc=>((qe k _ (Aa hk)).2.2 c hc).1
  rw[Ar] at hi hj
  dsimp only
  by_cases qc:i<K.length
  ·by_cases qa:j<K.length
   ·rw[if_pos qc,if_pos qa];exact h4 i j qc qa qg
   ·rw[if_pos qc,if_neg qa]
    exact λc hc qd=>by have:=(hZ i qc c hc).1;have:=old _ xG c qd;omega
  ·by_cases qa:j<K.length
   ·rw[if_neg qc,if_pos qa]
    exact λc hc qd=>by have:=(hZ j qa c qd).1;have:=old _ xG c hc;omega
   ·rw[if_neg qc,if_neg qa];exact qf _ _ xG xG xG
def Rdg (N:Nat->Prop) (w:Wd) (A:As):Prop:=∃ Y,A.P w Y/\(∀ c∈Y,N c)/\∀ c,A.N c->N c
theorem Sep.g (H:Sep X N w0 w L) (i:Nat) (hi:L[i]?=some A):Rdg (All w) w A:=by
 obtain⟨Y,h1,_⟩:=H.ex;obtain⟨h3,h4,h5⟩:=h1 i A hi;exact⟨Y i,h3,λc hc=>(h5 c hc).1,λc hc=>Au (H.nb c (h4 c hc)).1 H.fr.size⟩
theorem Rdg.rd {M N:Nat->Prop} {α:Type} {sz:Nat} {R:ER α} [hR:FrC sz R] {v:Vl} {xs:List α} (h:Rdg N w (rw M sz R E v xs)):Bo N w (Sl sz R) v xs:=by
 obtain⟨Y,⟨rb,ib,h1,h2,h3⟩,h4,h5⟩:=h;exact⟨_,h1.rd,λc hc=>(Aj.1 hc).elim (λhc=>h4 c (h2 c hc)) (λhc=>(h3 c hc).elim (h4 c) (h5 c))⟩
theorem Rdg.rod {M N:Nat->Prop} {α:Type} {V:VR α} [hV:VF V] {v:Vl} {x:α} (h:Rdg N w (ro M (V:=V) v x)):Bo N w V v x:=by
 obtain⟨Y,⟨bs,h1,h2⟩,h4,h5⟩:=h;exact⟨bs,h1,λc hc=>(h2 c hc).elim (h4 c) (h5 c)⟩
theorem Rdg.od {N:Nat->Prop} {α:Type} {V:VR α} [hV:VF V] {v:Vl} {x:α} (h:Rdg N w (ow (V:=V) v x)):Bo N w V v x:=by
 obtain⟨Y,⟨bs,h1,_,h2⟩,h4,h5⟩:=h;exact⟨bs,h1,λc hc=>h4 c (h2 c hc)⟩
theorem Rdg.ld {N:Nat->Prop} {α:Type} {sz:Nat} {R:ER α} [hR:FrC sz R] {v:Vl} {xs:List α} (h:Rdg N w (rl sz R E v xs)):Bo N w (Sl sz R) v xs:=by
 obtain⟨Y,⟨rb,ib,h1,_,h2,h3⟩,h4,h5⟩:=h;exact⟨_,h1.rd,λc hc=>(Aj.1 hc).elim (λhc=>h4 c (h2 c hc)) (λhc=>h4 c (h3 c hc))⟩
def Bk (N:Nat->Prop) (w:Wd) (b:Nat) (cs:List Vl) (T:Ty):Prop:=lG w b cs.toArray T/\N b
theorem Rdg.bk {N b cs T} (h:Rdg N w (bx b cs T)):Bk N w b cs T:=let ⟨_,h1,h2,_⟩:=h;⟨h1.1,h2 _ h1.2⟩
theorem Sep.r {M:Nat->Prop} {α:Type} {sz:Nat} {R:ER α} [hR:FrC sz R] {v:Vl} {xs:List α} (H:Sep X N w0 w L) (i:Nat) (hi:L[i]?=some (rw M sz R E v xs)):Bo (All w) w (Sl sz R) v xs:=(H.g i hi).rd
theorem Sep.ro {M:Nat->Prop} {α:Type} {V:VR α} [hV:VF V] {v:Vl} {x:α} (H:Sep X N w0 w L) (i:Nat) (hi:L[i]?=some (Go.Proofs.YtomlfdagbmgmgaaGreat.ro M (V:=V) v x)):Bo (All w) w V v x:=(H.g i hi).rod
theorem Sep.o {α:Type} {V:VR α} [hV:VF V] {v:Vl} {x:α} (H:Sep X N w0 w L) (i:Nat) (hi:L[i]?=some (ow (V:=V) v x)):Bo (All w) w V v x:=(H.g i hi).od
theorem Sep.l {α:Type} {sz:Nat} {R:ER α} [hR:FrC sz R] {v:Vl} {xs:List α} (H:Sep X N w0 w L) (i:Nat) (hi:L[i]?=some (rl sz R E v xs)):Bo (All w) w (Sl sz R) v xs:=(H.g i hi).ld
theorem Sep.b {b cs T} (H:Sep X N w0 w L) (i:Nat) (hi:L[i]?=some (bx b cs T)):lG w b cs.toArray T:=(H.g i hi).bk.1
theorem Sep.a {α:Type} {V:VR α} [hV:VF V] {v:Vl} {x:α} (H:Sep X N w0 w L) (h:Bo N w0 V v x):Bo (All w) w V v x:=(h.to H.sm).all
theorem Sep.u {α:Type} {V:VR α} [hV:VF V] {v:Vl} {x:α} (H:Sep X N w0 w L) (h:Bo N w0 V v x):Bo N w V v x:=h.to H.sm
theorem Sep.dn {α:Type} {V:VR α} [hV:VF V] {v:Vl} {x:α} (H:Sep X N w0 w L) (h:Bo N w V v x):Bo N w0 V v x:=h.to ⟨λc hc=>(H.sm.blk c hc).symm⟩
def Lf (M:Nat->Prop) (u:Wd) (N:Nat->Prop) (w:Wd):Prop:=∀ {α:Type} {V:VR α} [VF V] {v:Vl} {x:α},Bo M u V v x->Bo N w V v x
theorem Sep.lend {K:List As} (H:Sep X N w0 w (K++L)):∃ (X1:List Nat),Sep X1 N w w K ∧
 ∀ {w':Wd} {K':List As},Sep X1 N w w' K'->Sep X N w0 w' (K'++L):=by
 obtain⟨Y,h1,h2⟩:=H.ex;have qf:∀ c,c∈(List.range K.length).flatMap Y↔∃ i,i<K.length/\c∈Y i:=λc=>vK
 have hK:∀ i A,K[i]?=some A->(K++L)[i]?=some A:=λi A h=>by rw[Bu (Ac.1 h).1];exact h
 have hL:∀ (i:Nat) A,L[i]?=some A->(K++L)[K.length+i]?=some A:=λi A h=>by rw[Bb xG];simpa using h
 have own:∀ i,i<K.length->∀ c∈Y i,c<w.heap.size/\(c∈X∨w0.heap.size<=c):=λi hi c hc=>(h1 i K[i] (hK i _ (Aa hi))).2.2 c hc;refine⟨(List.range K.length).flatMap Y,⟨B5.refl _ _,λc hc=>⟨Au (H.nb c hc).1 H.fr.size,λhm=>?_⟩,Y,λi A hi=>?_,λi j hi hj qg=>h2 i j (by rw[Ar];omega) (by rw[Ar];omega) qg⟩,λ{w' K'} S=>?_⟩
 ·obtain⟨i,hi,qd⟩:=(qf c).1 hm
  exact Sep.own (i:=0) (own i hi c qd).2 H hc
 ·have qh:=(Ac.1 hi).1
  obtain⟨h6,h7,h8⟩:=h1 i A (hK i A hi);exact⟨h6,h7,λc hc=>⟨(h8 c hc).1,.inl ((qf c).2 ⟨i,qh,hc⟩)⟩⟩
 ·obtain⟨Z,g1,g2⟩:=S.ex
  have qe:∀ c,c∈(List.range K.length).flatMap Y->c∈X∨w0.heap.size<=c:=λc hc=>by
   obtain⟨i,hi,qd⟩:=(qf c).1 hc;exact(own i hi c qd).2
  have old:∀ k,k<L.length->∀ c∈Y (K.length+k),c<w.heap.size/\c ∉ (List.range K.length).flatMap Y:=λk hk c hc=>⟨((h1 _ _ (hL k _ (Aa hk))).2.2 c hc).1,λhm=>by
   obtain⟨i,hi,qd⟩:=(qf c).1 hm
   exact h2 i (K.length+k) (by rw[Ar];omega) (by rw[Ar];omega) xG c qd hc⟩
  have hZ:∀ i,i<K'.length->∀ c∈Z i,c<w'.heap.size/\(c∈(List.range K.length).flatMap Y∨w.heap.size<=c):=λi hi c hc=>(g1 i _ (Aa hi)).2.2 c hc;refine⟨⟨S.fr.os.trans H.fr.os,S.fr.tape.trans H.fr.tape,S.fr.output.trans H.fr.output,Cb H.fr.size S.fr.size,λk hk hn=>?_⟩,H.nb,λi=>if i<K'.length then Z i else Y (K.length+(i - K'.length)),λi A hi=>?_,λi j hi hj qg=>?_⟩
  ·rw[S.fr.block k (Au hk H.fr.size) (λhm=>by rcases qe k hm with h | h;exact hn h;omega),H.fr.block k hk hn]
  ·dsimp only
   by_cases hk:i<K'.length
   ·rw[if_pos hk]
    rw[Bu hk] at hi;obtain⟨g3,g4,g5⟩:=g1 i A hi;refine⟨g3,g4,λc hc=>⟨(g5 c hc).1,?_⟩⟩
    rcases(g5 c hc).2 with h | h
    ·exact qe c h
    ·exact .inr (Cb H.fr.size h)
   ·rw[if_neg hk]
    rw[Bb xG] at hi;have qh:=(Ac.1 hi).1;obtain⟨h6,h7,h8⟩:=h1 _ A (hL _ A hi);exact⟨A.st h6 (λc hc=>S.fr.block c (h8 c hc).1 (old _ qh c hc).2) (λc hc=>S.sm.blk c (h7 c hc)) S.fr.size,h7,λc hc=>⟨Au (h8 c hc).1 S.fr.size,(h8 c hc).2⟩⟩
  ·rw[Ar] at hi hj
   have key:∀ a b,a<K'.length->b<L.length->Dj (Z a) (Y (K.length+b)):=λa b ha hb c hc qi=>by
    have h9:=old b hb c qi
    rcases(hZ a ha c hc).2 with h | h
    ·exact h9.2 h
    ·omega
   dsimp only
   by_cases qc:i<K'.length
   ·by_cases qa:j<K'.length
    ·rw[if_pos qc,if_pos qa];exact g2 i j qc qa qg
    ·rw[if_pos qc,if_neg qa];exact key _ _ qc xG
   ·by_cases qa:j<K'.length
    ·rw[if_neg qc,if_pos qa];exact(key _ _ qa xG).symm
    ·rw[if_neg qc,if_neg qa];exact h2 _ _ (by rw[Ar];omega) (by rw[Ar];omega) xG
end
end
section
open Go.RowKit
def sEq (a b:ByteArray):Bool:=a.toList==b.toList
section
variable {P:Program} {ops:Array Oper} {Q:Exit->Act->Wd->Prop} {a:Act} {w:Wd} {n:Nat} {L:List (Nat×Vl)} {rest:List Oper} {d:Nat} {dd:Option Tmp} {ty:Ty} {pos:String} {af:Array Edge} {g:Option (Nat×Bool)}
theorem oHp {x y t t' i j} (F:Sk a n L) (e:ev L x=some (.string i)) (e':ev L y=some (.string j)) {w'}:(execOp a.eval ⟨dd,.binOp .eql t x y t',ty,pos,af,g⟩).run P w'= .ok (.value (.bool (sEq i j))) w':=by
 unfold execOp
 simp only[F.ev e,F.ev e']
 simp [eqGuard,binOp,Op.stringOp,sEq]
theorem oIr {x y t t' i j} (F:Sk a n L) (e:ev L x=some (.string i)) (e':ev L y=some (.string j)) {w'}:(execOp a.eval ⟨dd,.binOp .neq t x y t',ty,pos,af,g⟩).run P w'= .ok (.value (.bool (!sEq i j))) w':=by
 unfold execOp
 simp only[F.ev e,F.ev e']
 simp [eqGuard,binOp,Op.stringOp,sEq]
end
end
section
open Go.RowKit
def pv (L:List (Nat×Vl)):Go.Op->Option Vl
 | .move x=>ev L x
 | .assign x=>ev L x
 | .binOp .lss _ x y _=>match ev L x,ev L y with | some (.int .i64 i),some (.int .i64 j)=>some (.bool (decide (i<j))) | _,_=>none
 | .binOp .leq _ x y _=>match ev L x,ev L y with | some (.int .i64 i),some (.int .i64 j)=>some (.bool (decide (i<=j))) | _,_=>none
 | .binOp .gtr _ x y _=>match ev L x,ev L y with | some (.int .i64 i),some (.int .i64 j)=>some (.bool (decide (j<i))) | _,_=>none
 | .binOp .geq _ x y _=>match ev L x,ev L y with | some (.int .i64 i),some (.int .i64 j)=>some (.bool (decide (j<=i))) | _,_=>none
 | .binOp .eql _ x y _=>match ev L x,ev L y with | some (.int .i64 i),some (.int .i64 j)=>some (.bool (i==j)) | some (.string i),some (.string j)=>some (.bool (sEq i j)) | _,_=>none
 | .binOp .neq _ x y _=>match ev L x,ev L y with | some (.int .i64 i),some (.int .i64 j)=>some (.bool (i != j)) | some (.string i),some (.string j)=>some (.bool (!sEq i j)) | _,_=>none
 | .nilCheck x=>match ev L x with | some (.pointer (some p))=>some (.pointer (some p)) | _=>none
 | .unOp .not _ x=>match ev L x with | some (.bool b)=>some (.bool (!b)) | _=>none
 | .pick x y z=>match ev L x with | some (.bool true)=>ev L y | some (.bool false)=>ev L z | _=>none
 | .extract x i=>match ev L x with | some (.tuple vs)=>vs[i]? | _=>none
 | _=>none
section
variable {P:Program} {ops:Array Oper} {Q Q':Exit->Act->Wd->Prop} {K:Act->Wd->Prop} {a:Act} {w:Wd} {n:Nat} {L L':List (Nat×Vl)} {l l':List Oper} {dd:Option Tmp} {ty:Ty} {pos:String} {af:Array Edge} {g:Option (Nat×Bool)}
theorem ev2 {x y:Operand} {v:Vl} {f:Int->Int->Vl} (h:(match ev L x,ev L y with | some (.int .i64 i),some (.int .i64 j)=>some (f i j) | _,_=>none)=some v):∃ i j,ev L x=some (.int .i64 i)/\ev L y=some (.int .i64 j)/\v=f i j:=by
 split at h
 ·rename_i i j h1 h2
  exact⟨i,j,h1,h2,(Option.some.inj h).symm⟩
 ·cases h
theorem oJh {op:Go.Op} {v:Vl} (F:Sk a n L) (h:pv L op=some v) {w':Wd}:(execOp a.eval ⟨dd,op,ty,pos,af,g⟩).run P w'= .ok (.value v) w':=by
 cases op with
 | move x=>exact yW F h
 | assign x=>exact xFc F h
 | binOp o t x y t'=>
  cases o with
  | lss=>obtain⟨i,j,h1,h2,rfl⟩:=ev2 (f:=λi j=>.bool (decide (i<j))) h;exact oGn F h1 h2
  | leq=>obtain⟨i,j,h1,h2,rfl⟩:=ev2 (f:=λi j=>.bool (decide (i<=j))) h;exact oKf F h1 h2
  | gtr=>obtain⟨i,j,h1,h2,rfl⟩:=ev2 (f:=λi j=>.bool (decide (j<i))) h;exact oKi F h1 h2
  | geq=>obtain⟨i,j,h1,h2,rfl⟩:=ev2 (f:=λi j=>.bool (decide (j<=i))) h;exact oKd F h1 h2
  | eql=>
   change (match ev L x,ev L y with | some (.int .i64 i),some (.int .i64 j)=>some (Value.bool (i==j)) | some (.string i),some (.string j)=>some (.bool (sEq i j)) | _,_=>none)=some v at h
   split at h
   ·rename_i h1 h2;obtain rfl:=Option.some.inj h;exact oKk F h1 h2
   ·rename_i h1 h2;obtain rfl:=Option.some.inj h;exact oHp F h1 h2
   ·cases h
  | neq=>
   change (match ev L x,ev L y with | some (.int .i64 i),some (.int .i64 j)=>some (Value.bool (i != j)) | some (.string i),some (.string j)=>some (.bool (!sEq i j)) | _,_=>none)=some v at h
   split at h
   ·rename_i h1 h2;obtain rfl:=Option.some.inj h;exact oMp F h1 h2
   ·rename_i h1 h2;obtain rfl:=Option.some.inj h;exact oIr F h1 h2
   ·cases h
  | _=>cases h
 | unOp o t x=>
  cases o with
  | not=>
   change (match ev L x with | some (.bool b)=>some (Value.bool (!b)) | _=>none)=some v at h
   split at h
   ·rename_i b h1
    obtain rfl:=Option.some.inj h;exact oGk F h1
   ·cases h
  | _=>cases h
 | nilCheck x=>
  change (match ev L x with | some (.pointer (some p))=>some (Value.pointer (some p)) | _=>none)=some v at h
  split at h
  ·rename_i p h1
   obtain rfl:=Option.some.inj h;exact xAe F h1
  ·cases h
 | pick x y z=>
  change (match ev L x with | some (.bool true)=>ev L y | some (.bool false)=>ev L z | _=>none)=some v at h
  split at h
  ·rename_i h1;exact xVp F h1 h
  ·rename_i h1;exact xPy F h1 h
  ·cases h
 | extract x i=>
  change (match ev L x with | some (.tuple vs)=>vs[i]? | _=>none)=some v at h
  split at h
  ·rename_i vs h1;exact xOo F h1 h
  ·cases h
 | _=>cases h
def mX (ops:Array Oper) (n:Nat):Nat->List (Nat×Vl)->List Oper->Option (List (Nat×Vl)×List Oper)
 | 0,L,l=>some (L,l)
 | k+1,L,l=>match l with
  | []=>none
  | ⟨some d,op,_,_,_,g⟩::l=>match vR ops n L g d with
   | true=>match pv L op with
    | some v=>mX ops n k ((d,v)::L) l
    | none=>none
   | false=>match gno ops L g && Nat.blt d n with
    | true=>mX ops n k ((d,undef)::L) l
    | false=>none
  | ⟨none,_,_,_,_,g⟩::l=>match gno ops L g with
   | true=>mX ops n k L l
   | false=>none
theorem xXk:∀ (k:Nat) {a:Act} {L:List (Nat×Vl)} {l:List Oper} (F:Sk a n L) (h:mX ops n k L l=some (L',l')) (c:∀ a',Sk a' n L'->wpList P ops Q l' a' w),wpList P ops Q l a w
 | 0,a,L,l,F,h,c=>by
  obtain⟨rfl,rfl⟩:=Prod.mk.inj (Option.some.inj h);exact c a F
 | k+1,a,L,[],F,h,c=>by cases h
 | k+1,a,L,⟨some d,op,ty,pos,af,g⟩::l,F,h,c=>by
  change (match vR ops n L g d with | true=>(match pv L op with | some v=>mX ops n k ((d,v)::L) l | none=>none) | false=>(match gno ops L g && Nat.blt d n with | true=>mX ops n k ((d,undef)::L) l | false=>none))=_ at h
  split at h
  ·rename_i h1
   split at h
   ·rename_i v h2
    exact zT F h1 (oJh F h2) (λa F=>xXk k F h c)
   ·cases h
  ·split at h
   ·rename_i h2
    rw[Be] at h2;exact o_no F h2.1 h2.2 (λa F=>xXk k F h c)
   ·cases h
 | k+1,a,L,⟨none,op,ty,pos,af,g⟩::l,F,h,c=>by
  change (match gno ops L g with | true=>mX ops n k L l | false=>none)=_ at h
  split at h
  ·rename_i h1
   exact oLs F h1 (xXk k F h c)
  ·cases h
theorem x_E (h:K a w):wpList P ops (Exit.then K Q) [] a w:=h
theorem x_R {id y} (h:wpList P l.toArray (Exit.then (y.wp P Q) Q) l a w):(Code.seq (.region id l.toArray false) y).wp P Q a w:=kQ (bL h)
theorem x_ER {id y} (h:wpList P l.toArray (Exit.then (y.wp P Q) Q) l a w):wpList P ops (Exit.then ((Code.seq (.region id l.toArray false) y).wp P Q) Q') [] a w:=x_R h
theorem Sk.su {M} (F:Sk a n L) (h:Go.Proofs.YtomlfdagbmgmgaaGreat.sub L M:=by repeat (first | exact sn | refine sc rfl ?_)):Sk a n M:=F.sub h
end
end
section
open Go.RowKit
def RP {α:Type} (sz:Nat) (R:ER α):ER α:=λw f x bs=>∃ p,f 0=some p/\Pt sz R w p x bs
instance {α:Type} {sz:Nat} {R:ER α} [h:FrC sz R]:FrC 1 (RP sz R):=⟨λw w' f g x bs ⟨p,h0,hp⟩ hs hg=>⟨p,(hg 0 xG).trans h0,VF.same hp hs⟩,λw f x bs h j hj=>by
 obtain rfl:j=0:=xG;obtain⟨p,h0,b,o,bi,rfl,_⟩:=h
 exact⟨_,h0,rfl⟩⟩
structure B6 where
  template:A6
  jobs:List A7
  clerks:Int
def vT:ER B6:=λw f x bs=>∃ v1 v2:Vl,∃ b1 b2:List Nat,f 0=some (.int .i64 x.template.size)/\xM x.template.size/\f 1=some v1/\Sl 2 oR w v1 x.template.rels b1/\f 2=some v2/\Sl 2 xJ w v2 x.jobs b2/\f 3=some (.int .i64 x.clerks)/\xM x.clerks/\bs=b1++b2
theorem vT.f0 {w y}:∀ f bi,vT w f y bi->∃ bj,xC w (λj=>f (0+j)) y.template bj/\∀ c∈bj,c∈bi:=λf bi h=>by
 obtain⟨v1,v2,b1,b2,h0,k0,h1,k1,h2,k2,h3,k3,qa⟩:=h;exact⟨b1,⟨v1,b1,vV h0,k0,vV h1,k1,rfl⟩,λc hc=>by rw[qa];simp [hc]⟩
theorem vT.f1 {w y}:∀ f bi,vT w f y bi->∃ bj,(zV 2 xJ) w (λj=>f (2+j)) y.jobs bj/\∀ c∈bj,c∈bi:=λf bi h=>by
 obtain⟨v1,v2,b1,b2,h0,k0,h1,k1,h2,k2,h3,k3,qa⟩:=h;exact⟨b2,⟨v2,vV h2,k2⟩,λc hc=>by rw[qa];simp [hc]⟩
theorem vT.f2 {w y}:∀ f bi,vT w f y bi->∃ bj,xF w (λj=>f (3+j)) y.clerks bj/\∀ c∈bj,c∈bi:=λf bi h=>by
 obtain⟨v1,v2,b1,b2,h0,k0,h1,k1,h2,k2,h3,k3,hbs⟩:=h;exact⟨[],⟨by simpa using h3,k3,rfl⟩,λc hc=>nomatch hc⟩
theorem vT.rd {w v x bs} (h:Rd (qR 4 vT) w v x bs):∃ v1 v2:Vl,∃ b1 b2:List Nat,v= .agg #[.int .i64 x.template.size,v1,v2,.int .i64 x.clerks]/\xM x.template.size/\Rd (Sl 2 oR) w v1 x.template.rels b1/\Rd (Sl 2 xJ) w v2 x.jobs b2/\xM x.clerks/\bs=b1++b2:=by
 obtain⟨⟨cs,hl,rfl,v1,v2,b1,b2,h0,k0,h1,k1,h2,k2,h3,k3,qa⟩,hm⟩:=h
 match cs,hl with
 | [c0,c1,c2,c3],_=>
  obtain rfl:=Option.some.inj h0;obtain rfl:=Option.some.inj h1;obtain rfl:=Option.some.inj h2;obtain rfl:=Option.some.inj h3;exact⟨_,_,_,_,rfl,k0,⟨k1,λc hc=>hm c (by rw[qa];simp [hc])⟩,⟨k2,λc hc=>hm c (by rw[qa];simp [hc])⟩,k3,qa⟩
theorem vT.mk2 {w f0 f1 f2 f3 v1 b1 v2 b2} (h0:xM f0) (h1:Rd (Sl 2 oR) w v1 f1 b1) (h2:Rd (Sl 2 xJ) w v2 f2 b2) (h3:xM f3):Rd (qR 4 vT) w (.agg #[.int .i64 f0,v1,v2,.int .i64 f3]) (B6.mk (A6.mk f0 f1) f2 f3) (b1++b2):= ⟨⟨[.int .i64 f0,v1,v2,.int .i64 f3],rfl,rfl,_,_,_,_,rfl,h0,rfl,h1.r,rfl,h2.r,rfl,h3,rfl⟩,(h1.m).append h2.m⟩
theorem vT.blk {w T b f0 f1 f2 f3 v1 b1 v2 b2} (K:lG w b #[.int .i64 f0,v1,v2,.int .i64 f3] T) (h0:xM f0) (h1:Rd (Sl 2 oR) w v1 f1 b1) (h2:Rd (Sl 2 xJ) w v2 f2 b2) (h3:xM f3):Rd (Pt 4 vT) w (.pointer (some ⟨b,0,none⟩)) (B6.mk (A6.mk f0 f1) f2 f3) (b::(b1++b2)):=by
 have hm:kH (b1++b2) w:=(h1.m).append h2.m;refine⟨⟨b,0,_,rfl,rfl,_,_,_,_,(K.cell (0+0)).trans rfl,h0,(K.cell (0+1)).trans rfl,h1.r,(K.cell (0+2)).trans rfl,h2.r,(K.cell (0+3)).trans rfl,h3,rfl⟩,λc hc=>?_⟩
 rcases Av.1 hc with rfl | hc
 ·exact K.lt
 ·exact hm c hc
structure B7 where
  size:Int
  arity:Int
  has:List Bool
def kU:ER B7:=λw f x bs=>∃ v2:Vl,∃ b2:List Nat,f 0=some (.int .i64 x.size)/\xM x.size/\f 1=some (.int .i64 x.arity)/\xM x.arity/\f 2=some v2/\Sl 1 aF w v2 x.has b2/\bs=b2
theorem kU.fr:Fr 3 kU:=by
 intro w w' f g x bs h hs hg;obtain⟨v2,b2,h0,k0,h1,k1,h2,k2,rfl⟩:=h;exact⟨v2,_,(hg 0 xG).trans h0,k0,(hg 1 xG).trans h1,k1,(hg 2 xG).trans h2,k2.same (FrC.fr (sz:=1) (R:=aF)) (λc hc=>hs c (by simp [hc])),rfl⟩
instance:FrC 3 kU:=⟨kU.fr,λw f x bs h=>by
 obtain⟨v2,b2,h0,k0,h1,k1,h2,k2,hbs⟩:=h
 exact(iD (iD (iD xEm h0 rfl) h1 rfl) h2 k2.one)⟩
theorem kU.f2 {w y}:∀ f bi,kU w f y bi->∃ bj,(zV 1 aF) w (λj=>f (2+j)) y.has bj/\∀ c∈bj,c∈bi:=λf bi h=>by
 obtain⟨v2,b2,h0,k0,h1,k1,h2,k2,qa⟩:=h;exact⟨b2,⟨v2,vV h2,k2⟩,λc hc=>by rw[qa];simp [hc]⟩
theorem kU.blk {w T b f0 f1 f2 v2 b2} (K:lG w b #[.int .i64 f0,.int .i64 f1,v2] T) (h0:xM f0) (h1:xM f1) (h2:Rd (Sl 1 aF) w v2 f2 b2):Rd (Pt 3 kU) w (.pointer (some ⟨b,0,none⟩)) (B7.mk f0 f1 f2) (b::(b2)):=by
 have hm:kH (b2) w:=h2.m;refine⟨⟨b,0,_,rfl,rfl,_,_,(K.cell (0+0)).trans rfl,h0,(K.cell (0+1)).trans rfl,h1,(K.cell (0+2)).trans rfl,h2.r,rfl⟩,λc hc=>?_⟩
 rcases Av.1 hc with rfl | hc
 ·exact K.lt
 ·exact hm c hc
structure B3 where
  prime:Int
  unknowns:Int
  list:List A8
def oZ:ER B3:=λw f x bs=>∃ v2:Vl,∃ b2:List Nat,f 0=some (.int .i64 x.prime)/\xM x.prime/\f 1=some (.int .i64 x.unknowns)/\xM x.unknowns/\f 2=some v2/\Sl 2 xL w v2 x.list b2/\bs=b2
theorem oZ.fr:Fr 3 oZ:=by
 intro w w' f g x bs h hs hg;obtain⟨v2,b2,h0,k0,h1,k1,h2,k2,rfl⟩:=h;exact⟨v2,_,(hg 0 xG).trans h0,k0,(hg 1 xG).trans h1,k1,(hg 2 xG).trans h2,k2.same xL.fr (λc hc=>hs c (by simp [hc])),rfl⟩
instance:FrC 3 oZ:=⟨oZ.fr,λw f x bs h=>by
 obtain⟨v2,b2,h0,k0,h1,k1,h2,k2,hbs⟩:=h
 exact(iD (iD (iD xEm h0 rfl) h1 rfl) h2 k2.one)⟩
theorem oZ.f0 {w y}:∀ f bi,oZ w f y bi->∃ bj,xF w (λj=>f (0+j)) y.prime bj/\∀ c∈bj,c∈bi:=λf bi h=>by
 obtain⟨v2,b2,h0,k0,h1,k1,h2,k2,hbs⟩:=h;exact⟨[],⟨by simpa using h0,k0,rfl⟩,λc hc=>nomatch hc⟩
theorem oZ.f1 {w y}:∀ f bi,oZ w f y bi->∃ bj,xF w (λj=>f (1+j)) y.unknowns bj/\∀ c∈bj,c∈bi:=λf bi h=>by
 obtain⟨v2,b2,h0,k0,h1,k1,h2,k2,hbs⟩:=h;exact⟨[],⟨by simpa using h1,k1,rfl⟩,λc hc=>nomatch hc⟩
theorem oZ.f2 {w y}:∀ f bi,oZ w f y bi->∃ bj,(zV 2 xL) w (λj=>f (2+j)) y.list bj/\∀ c∈bj,c∈bi:=λf bi h=>by
 obtain⟨v2,b2,h0,k0,h1,k1,h2,k2,qa⟩:=h;exact⟨b2,⟨v2,vV h2,k2⟩,λc hc=>by rw[qa];simp [hc]⟩
theorem oZ.rd {w v x bs} (h:Rd (qR 3 oZ) w v x bs):∃ v2:Vl,∃ b2:List Nat,v= .agg #[.int .i64 x.prime,.int .i64 x.unknowns,v2]/\xM x.prime/\xM x.unknowns/\Rd (Sl 2 xL) w v2 x.list b2/\bs=b2:=by
 obtain⟨⟨cs,hl,rfl,v2,b2,h0,k0,h1,k1,h2,k2,qa⟩,hm⟩:=h
 match cs,hl with
 | [c0,c1,c2],_=>
  obtain rfl:=Option.some.inj h0;obtain rfl:=Option.some.inj h1;obtain rfl:=Option.some.inj h2;exact⟨_,_,rfl,k0,k1,⟨k2,λc hc=>hm c (by rw[qa];simp [hc])⟩,qa⟩
theorem oZ.mk2 {w f0 f1 f2 v2 b2} (h0:xM f0) (h1:xM f1) (h2:Rd (Sl 2 xL) w v2 f2 b2):Rd (qR 3 oZ) w (.agg #[.int .i64 f0,.int .i64 f1,v2]) (B3.mk f0 f1 f2) (b2):= ⟨⟨[.int .i64 f0,.int .i64 f1,v2],rfl,rfl,_,_,rfl,h0,rfl,h1,rfl,h2.r,rfl⟩,h2.m⟩
theorem oZ.blk {w T b f0 f1 f2 v2 b2} (K:lG w b #[.int .i64 f0,.int .i64 f1,v2] T) (h0:xM f0) (h1:xM f1) (h2:Rd (Sl 2 xL) w v2 f2 b2):Rd (Pt 3 oZ) w (.pointer (some ⟨b,0,none⟩)) (B3.mk f0 f1 f2) (b::(b2)):=by
 have hm:kH (b2) w:=h2.m;refine⟨⟨b,0,_,rfl,rfl,_,_,(K.cell (0+0)).trans rfl,h0,(K.cell (0+1)).trans rfl,h1,(K.cell (0+2)).trans rfl,h2.r,rfl⟩,λc hc=>?_⟩
 rcases Av.1 hc with rfl | hc
 ·exact K.lt
 ·exact hm c hc
structure rowT where
  numbers:List Int
  bys:List Int
def zU:ER rowT:=λw f x bs=>∃ v0 v1:Vl,∃ b0 b1:List Nat,f 0=some v0/\Sl 1 xF w v0 x.numbers b0/\f 1=some v1/\Sl 1 xF w v1 x.bys b1/\bs=b0++b1
theorem zU.fr:Fr 2 zU:=by
 intro w w' f g x bs h hs hg;obtain⟨v0,v1,b0,b1,h0,k0,h1,k1,rfl⟩:=h;exact⟨v0,v1,_,_,(hg 0 xG).trans h0,k0.same xF.fr (λc hc=>hs c (by simp [hc])),(hg 1 xG).trans h1,k1.same xF.fr (λc hc=>hs c (by simp [hc])),rfl⟩
instance:FrC 2 zU:=⟨zU.fr,λw f x bs h=>by
 obtain⟨v0,v1,b0,b1,h0,k0,h1,k1,hbs⟩:=h
 exact(iD (iD xEm h0 k0.one) h1 k1.one)⟩
theorem zU.f0 {w y}:∀ f bi,zU w f y bi->∃ bj,(zV 1 xF) w (λj=>f (0+j)) y.numbers bj/\∀ c∈bj,c∈bi:=λf bi h=>by
 obtain⟨v0,v1,b0,b1,h0,k0,h1,k1,qa⟩:=h;exact⟨b0,⟨v0,vV h0,k0⟩,λc hc=>by rw[qa];simp [hc]⟩
theorem zU.rd {w v x bs} (h:Rd (qR 2 zU) w v x bs):∃ v0 v1:Vl,∃ b0 b1:List Nat,v= .agg #[v0,v1]/\Rd (Sl 1 xF) w v0 x.numbers b0/\Rd (Sl 1 xF) w v1 x.bys b1/\bs=b0++b1:=by
 obtain⟨⟨cs,hl,rfl,v0,v1,b0,b1,h0,k0,h1,k1,qa⟩,hm⟩:=h
 match cs,hl with
 | [c0,c1],_=>
  obtain rfl:=Option.some.inj h0;obtain rfl:=Option.some.inj h1;exact⟨_,_,_,_,rfl,⟨k0,λc hc=>hm c (by rw[qa];simp [hc])⟩,⟨k1,λc hc=>hm c (by rw[qa];simp [hc])⟩,qa⟩
theorem zU.mk2 {w f0 f1 v0 b0 v1 b1} (h0:Rd (Sl 1 xF) w v0 f0 b0) (h1:Rd (Sl 1 xF) w v1 f1 b1):Rd (qR 2 zU) w (.agg #[v0,v1]) (rowT.mk f0 f1) (b0++b1):= ⟨⟨[v0,v1],rfl,rfl,_,_,_,_,rfl,h0.r,rfl,h1.r,rfl⟩,(h0.m).append h1.m⟩
structure B2 where
  left:List Int
  right:Int
  bys:List Int
def qO:ER B2:=λw f x bs=>∃ v0 v2:Vl,∃ b0 b2:List Nat,f 0=some v0/\Sl 1 xF w v0 x.left b0/\f 1=some (.int .i64 x.right)/\xM x.right/\f 2=some v2/\Sl 1 xF w v2 x.bys b2/\bs=b0++b2
theorem qO.fr:Fr 3 qO:=by
 intro w w' f g x bs h hs hg;obtain⟨v0,v2,b0,b2,h0,k0,h1,k1,h2,k2,rfl⟩:=h;exact⟨v0,v2,_,_,(hg 0 xG).trans h0,k0.same xF.fr (λc hc=>hs c (by simp [hc])),(hg 1 xG).trans h1,k1,(hg 2 xG).trans h2,k2.same xF.fr (λc hc=>hs c (by simp [hc])),rfl⟩
instance:FrC 3 qO:=⟨qO.fr,λw f x bs h=>by
 obtain⟨v0,v2,b0,b2,h0,k0,h1,k1,h2,k2,hbs⟩:=h
 exact(iD (iD (iD xEm h0 k0.one) h1 rfl) h2 k2.one)⟩
theorem qO.f0 {w y}:∀ f bi,qO w f y bi->∃ bj,(zV 1 xF) w (λj=>f (0+j)) y.left bj/\∀ c∈bj,c∈bi:=λf bi h=>by
 obtain⟨v0,v2,b0,b2,h0,k0,h1,k1,h2,k2,qa⟩:=h;exact⟨b0,⟨v0,vV h0,k0⟩,λc hc=>by rw[qa];simp [hc]⟩
theorem qO.f1 {w y}:∀ f bi,qO w f y bi->∃ bj,xF w (λj=>f (1+j)) y.right bj/\∀ c∈bj,c∈bi:=λf bi h=>by
 obtain⟨v0,v2,b0,b2,h0,k0,h1,k1,h2,k2,hbs⟩:=h;exact⟨[],⟨by simpa using h1,k1,rfl⟩,λc hc=>nomatch hc⟩
theorem qO.rd {w v x bs} (h:Rd (qR 3 qO) w v x bs):∃ v0 v2:Vl,∃ b0 b2:List Nat,v= .agg #[v0,.int .i64 x.right,v2]/\Rd (Sl 1 xF) w v0 x.left b0/\xM x.right/\Rd (Sl 1 xF) w v2 x.bys b2/\bs=b0++b2:=by
 obtain⟨⟨cs,hl,rfl,v0,v2,b0,b2,h0,k0,h1,k1,h2,k2,qa⟩,hm⟩:=h
 match cs,hl with
 | [c0,c1,c2],_=>
  obtain rfl:=Option.some.inj h0;obtain rfl:=Option.some.inj h1;obtain rfl:=Option.some.inj h2;exact⟨_,_,_,_,rfl,⟨k0,λc hc=>hm c (by rw[qa];simp [hc])⟩,k1,⟨k2,λc hc=>hm c (by rw[qa];simp [hc])⟩,qa⟩
theorem qO.mk2 {w f0 f1 f2 v0 b0 v2 b2} (h0:Rd (Sl 1 xF) w v0 f0 b0) (h1:xM f1) (h2:Rd (Sl 1 xF) w v2 f2 b2):Rd (qR 3 qO) w (.agg #[v0,.int .i64 f1,v2]) (B2.mk f0 f1 f2) (b0++b2):= ⟨⟨[v0,.int .i64 f1,v2],rfl,rfl,_,_,_,_,rfl,h0.r,rfl,h1,rfl,h2.r,rfl⟩,(h0.m).append h2.m⟩
structure lookT where
  rel:Int
  cells:List Int
def kL:ER lookT:=λw f x bs=>∃ v1:Vl,∃ b1:List Nat,f 0=some (.int .i64 x.rel)/\xM x.rel/\f 1=some v1/\Sl 1 xF w v1 x.cells b1/\bs=b1
theorem kL.fr:Fr 2 kL:=by
 intro w w' f g x bs h hs hg;obtain⟨v1,b1,h0,k0,h1,k1,rfl⟩:=h;exact⟨v1,_,(hg 0 xG).trans h0,k0,(hg 1 xG).trans h1,k1.same xF.fr (λc hc=>hs c (by simp [hc])),rfl⟩
instance:FrC 2 kL:=⟨kL.fr,λw f x bs h=>by
 obtain⟨v1,b1,h0,k0,h1,k1,hbs⟩:=h
 exact(iD (iD xEm h0 rfl) h1 k1.one)⟩
theorem kL.rd {w v x bs} (h:Rd (qR 2 kL) w v x bs):∃ v1:Vl,∃ b1:List Nat,v= .agg #[.int .i64 x.rel,v1]/\xM x.rel/\Rd (Sl 1 xF) w v1 x.cells b1/\bs=b1:=by
 obtain⟨⟨cs,hl,rfl,v1,b1,h0,k0,h1,k1,qa⟩,hm⟩:=h
 match cs,hl with
 | [c0,c1],_=>
  obtain rfl:=Option.some.inj h0;obtain rfl:=Option.some.inj h1;exact⟨_,_,rfl,k0,⟨k1,λc hc=>hm c (by rw[qa];simp [hc])⟩,qa⟩
theorem kL.mk2 {w f0 f1 v1 b1} (h0:xM f0) (h1:Rd (Sl 1 xF) w v1 f1 b1):Rd (qR 2 kL) w (.agg #[.int .i64 f0,v1]) (lookT.mk f0 f1) (b1):= ⟨⟨[.int .i64 f0,v1],rfl,rfl,_,_,rfl,h0,rfl,h1.r,rfl⟩,h1.m⟩
structure B4 where
  rel:Int
  ats:List Int
def vG:ER B4:=λw f x bs=>∃ v1:Vl,∃ b1:List Nat,f 0=some (.int .i64 x.rel)/\xM x.rel/\f 1=some v1/\Sl 1 xF w v1 x.ats b1/\bs=b1
theorem vG.fr:Fr 2 vG:=by
 intro w w' f g x bs h hs hg;obtain⟨v1,b1,h0,k0,h1,k1,rfl⟩:=h;exact⟨v1,_,(hg 0 xG).trans h0,k0,(hg 1 xG).trans h1,k1.same xF.fr (λc hc=>hs c (by simp [hc])),rfl⟩
instance:FrC 2 vG:=⟨vG.fr,λw f x bs h=>by
 obtain⟨v1,b1,h0,k0,h1,k1,hbs⟩:=h
 exact(iD (iD xEm h0 rfl) h1 k1.one)⟩
theorem vG.f0 {w y}:∀ f bi,vG w f y bi->∃ bj,xF w (λj=>f (0+j)) y.rel bj/\∀ c∈bj,c∈bi:=λf bi h=>by
 obtain⟨v1,b1,h0,k0,h1,k1,hbs⟩:=h;exact⟨[],⟨by simpa using h0,k0,rfl⟩,λc hc=>nomatch hc⟩
theorem vG.f1 {w y}:∀ f bi,vG w f y bi->∃ bj,(zV 1 xF) w (λj=>f (1+j)) y.ats bj/\∀ c∈bj,c∈bi:=λf bi h=>by
 obtain⟨v1,b1,h0,k0,h1,k1,qa⟩:=h;exact⟨b1,⟨v1,vV h1,k1⟩,λc hc=>by rw[qa];simp [hc]⟩
theorem vG.mk2 {w f0 f1 v1 b1} (h0:xM f0) (h1:Rd (Sl 1 xF) w v1 f1 b1):Rd (qR 2 vG) w (.agg #[.int .i64 f0,v1]) (B4.mk f0 f1) (b1):= ⟨⟨[.int .i64 f0,v1],rfl,rfl,_,_,rfl,h0,rfl,h1.r,rfl⟩,h1.m⟩
structure A3 where
  a:Int
  b:Int
  c:Int
section
variable {P:Program} {ops:Array Oper} {Q:Exit->Act->Wd->Prop} {C:Wd->Prop} {K:Act->Prop} {a:Act} {w:Wd} {n:Nat} {L:List (Nat×Vl)} {rest:List Oper} {d:Nat} {dd:Option Tmp} {ty:Ty} {pos:String} {af:Array Edge} {g:Option (Nat×Bool)}
end
end
section
open Go.RowKit
variable {x:Operand} {α:Type} {y:α} {i:Int} {R:ER α}
theorem n0 {N:Nat->Prop}:∀ c,N0 c->N c:=λ_ h=>h.elim
theorem n1 {N:Nat->Prop}:∀ c,N c->N c:=λ_ h=>h
def Ns (N:Nat->Prop):List As->Prop | []=>True | A::r=>(∀ c,A.N c->N c)/\Ns N r
theorem Ns.all {N}:∀ {K:List As},Ns N K->∀ A∈K,∀ c,A.N c->N c | [],_,_,h,_,_=>nomatch h | B::r,h,A,hA,c,hc=>(Av.1 hA).elim (λe=>h.1 c (e ▸ hc)) (λe=>Ns.all h.2 A e c hc)
theorem rw_m {N sz} [hR:FrC sz R] {E} {v} {xs} {w} {rb ib} (h:Row sz R E 0 w v xs rb ib) (hi:∀ c∈ib,N c):(rw N sz R E v xs).P w rb:=⟨rb,ib,h,λ_ hc=>hc,λc hc=>.inr (hi c hc)⟩
section
variable {P:Program} {a:Act} {w w1:Wd} {n:Nat} {L:List (Nat×Vl)} {d:Option Tmp} {ty:Ty} {pos:String} {af:Array Edge} {g:Option (Nat×Bool)} {M:Nat->Prop}
theorem xQi {sz iy t v l e} (ht:P.underlying t=some (.slice e)) (qa:∀ w,(sizeOf e).run P w= .ok sz w) (F:Sk a n L) (he:ev L x=some v) (hi:ev L iy=some (.int .i64 i)) (h:Bo M w1 (Sl sz R) v l) (qc:ix l i=some y):∃ p,(∀ w',(execOp a.eval ⟨d,.indexAddr t x iy,ty,pos,af,g⟩).run P w'= .ok (.value p) w')/\Bo M w1 (Pt sz R) p y:=by
 obtain⟨bs,h1,h2⟩:=h;obtain⟨p,bi,hr,h3,h4⟩:=xVt (d:=d) (ty:=ty) (pos:=pos) (af:=af) (g:=g) ht qa F he hi h1 qc;exact⟨p,hr,bi,h3,λc hc=>h2 c (h4 c hc)⟩
theorem xQt {β:Type} {sz s':Nat} {R':ER β} {t:Ty} {kk:Nat} {p:Vl} {z:β} {off:Nat} (hp:∀ (a:Addr) w,(Instr.fieldAt t (.pointer (some a)) kk).run P w= .ok (.pointer (some (a.add off))) w) (F:Sk a n L) (he:ev L x=some p) (h:Bo M w1 (Pt sz R) p y) (hf:∀ f bi,R w1 f y bi->∃ bj,R' w1 (λj=>f (off+j)) z bj/\∀ c∈bj,c∈bi):∃ p',(∀ w',(execOp a.eval ⟨d,.fieldAddr t x kk,ty,pos,af,g⟩).run P w'= .ok (.value p') w')/\Bo M w1 (Pt s' R') p' z:=by
 obtain⟨bs,h1,h2⟩:=h;obtain⟨p',bj,hr,h3,h4⟩:=oEc (d:=d) (ty:=ty) (pos:=pos) (af:=af) (g:=g) (s':=s') hp F he h1 hf;exact⟨p',hr,bj,h3,λc hc=>h2 c (h4 c hc)⟩
theorem oAd {t p y} (qa:∀ w,(isAgg t).run P w= .ok false w) (F:Sk a n L) (he:ev L x=some p) (h:Bo M w1 (Pt 1 xF) p y):xM y/\∀ w',Sm M w1 w'->(execOp a.eval ⟨d,.load t x,ty,pos,af,g⟩).run P w'= .ok (.value (.int .i64 y)) w':= ⟨let ⟨_,h1,_⟩:=h;h1.i64,λw' s=>let ⟨_,h1,_⟩:=h.to s;oFl qa F he h1⟩
theorem xTx {t p y} (qa:∀ w,(isAgg t).run P w= .ok false w) (F:Sk a n L) (he:ev L x=some p) (h:Bo M w1 (Pt 1 aF) p y) :
 ∀ w',Sm M w1 w'->(execOp a.eval ⟨d,.load t x,ty,pos,af,g⟩).run P w'= .ok (.value (.bool y)) w':=λw' s=>let ⟨_,h1,_⟩:=h.to s;oEp qa F he h1
theorem oIb {sz t p y} (qa:∀ w,(isAgg t).run P w= .ok false w) (F:Sk a n L) (he:ev L x=some p) (h:Bo M w1 (Pt 1 (zV sz R)) p y):∃ v,Bo M w1 (Sl sz R) v y/\∀ w',Sm M w1 w'->(execOp a.eval ⟨d,.load t x,ty,pos,af,g⟩).run P w'= .ok (.value v) w':=by
 obtain⟨bs,⟨⟨b,o,bi,rfl,rfl,v,h0,hr⟩,hm⟩,hN⟩:=h;refine⟨v,⟨bi,⟨hr,λc hc=>hm c (by simp [hc])⟩,λc hc=>hN c (by simp [hc])⟩,λw' s=>nW qa F he ?_⟩;rw[pZ (s.blk b (hN b vK))]
 simpa using h0
theorem oKq {sz t p} (qa:∀ w,(isAgg t).run P w= .ok false w) (F:Sk a n L) (he:ev L x=some p) (h:Bo M w1 (Pt 1 (RP sz R)) p y):∃ v,Bo M w1 (Pt sz R) v y/\∀ w',Sm M w1 w'->(execOp a.eval ⟨d,.load t x,ty,pos,af,g⟩).run P w'= .ok (.value v) w':=by
 obtain⟨bs,⟨⟨b,o,bi,rfl,rfl,v,h0,hr⟩,hm⟩,hN⟩:=h;refine⟨v,⟨bi,⟨hr,λc hc=>hm c (by simp [hc])⟩,λc hc=>hN c (by simp [hc])⟩,λw' s=>nW qa F he ?_⟩;rw[pZ (s.blk b (hN b vK))]
 simpa using h0
theorem oBw {sz} [hR:FrC sz R] {t} {p} (qd:∀ w,(isAgg t).run P w= .ok true w) (qe:∀ w,(sizeOf t).run P w= .ok sz w) (F:Sk a n L) (he:ev L x=some p) (h:Bo M w1 (Pt sz R) p y) :
 ∃ v,Bo M w1 (qR sz R) v y/\∀ w',Sm M w1 w'->(execOp a.eval ⟨d,.load t x,ty,pos,af,g⟩).run P w'= .ok (.value v) w':=by
 obtain⟨bs,⟨⟨b,o,bi,rfl,rfl,hr⟩,hm⟩,hN⟩:=h;have ht:=hR.tot _ _ _ _ hr;refine⟨.agg ((List.range sz).map (λj=>(w1.cell? ⟨b,o+j,none⟩).getD undef)).toArray,⟨bi,⟨qR.of_cells hR.fr hr _ vK (λj hj=>?_),λc hc=>hm c (by simp [hc])⟩,λc hc=>hN c (by simp [hc])⟩,λw' s=>?_⟩
 ·rw[Bc,Ef hj]
  obtain⟨u,hu,_⟩:=ht j hj;rw[Cw,hu]
  rfl
 ·unfold execOp
  simp only[F.ev he]
  have hl:=run_loadCells_list (P:=P) w' ⟨b,o,none⟩ ((List.range sz).map (λj=>(w1.cell? ⟨b,o+j,none⟩).getD undef)) (λj v hj=>by
   rw[Bc] at hj
   have qc:j<sz:=by
    cases h:(List.range sz)[j]? with
    | none=>simp [h] at hj
    | some k=>simpa using (Ac.1 h).1
   rw[Ef qc] at hj;obtain⟨u,hu,_⟩:=ht j qc;have qa:=cJ b o j;rw[qa,pZ (s.blk b (hN b vK)),hu];rw[Cw,hu] at hj
   exact hj)
  rw[Bw,List.length_range] at hl
  simp [Instr.loadAt,Instr.sureAddr,loadVar,qd,qe,hl]
theorem Bo.slen {sz v l} (h:Bo M w1 (Sl sz R) v l):xM (l.length:Int):=let ⟨_,h1,_⟩:=h;h1.r.len64
theorem Bo.snil {sz}:Bo M w1 (Sl sz R) (.slice none 0 0) []:=⟨[],Rd.nil sz R w1,λ_ h=>nomatch h⟩
theorem oBl {sz p} (F:Sk a n L) (e:ev L x=some p) (h:Bo M w1 (Pt sz R) p y) (w':Wd):(execOp a.eval ⟨d,.nilCheck x,ty,pos,af,g⟩).run P w'= .ok (.value p) w':=by
 obtain⟨_,⟨⟨b,o,bi,rfl,_⟩,_⟩,_⟩:=h;exact xAe F e
theorem oBn {sz t v l e} (ht:P.underlying t=some (.slice e)) (F:Sk a n L) (he:ev L x=some v) (h:Bo M w1 (Sl sz R) v l) (w':Wd) :
 (execOp a.eval ⟨d,.call ⟨.builtin .len,#[x],#[t]⟩,ty,pos,af,g⟩).run P w'= .ok (.value (.int .i64 l.length)) w':=let ⟨_,h1,_⟩:=h;oMj ht F he h1.r w'
theorem oGq {sz} [hR:FrC sz R] {t e} {v} {l r} {j} {lo hi} (ht:P.underlying t=some (.slice e)) (qd:∀ w,(sizeOf e).run P w= .ok sz w) (F:Sk a n L) (he:ev L x=some v)
 (qa:match lo with | some y=>ev L y=some (.int .i64 i) | none=>i=0) (qc:match hi with | some y=>ev L y=some (.int .i64 j) | none=>j=l.length) (h:Bo M w1 (Sl sz R) v l) (hs:sl l i j=some r) :
 ∃ v',Bo M w1 (Sl sz R) v' r/\∀ w',(execOp a.eval ⟨d,.slice t x lo hi none,ty,pos,af,g⟩).run P w'= .ok (.value v') w':=by
 obtain⟨bs,h1,h2⟩:=h;obtain⟨v',bi,h3,h4,h5⟩:=oKu ht qd h1 hs;refine⟨v',⟨bi,h3,λc hc=>h2 c (h4 c hc)⟩,λw'=>?_⟩
 cases lo with
 | none=>
  cases hi with
  | none=>
   have:=h5 none none (.inr ⟨rfl,qa⟩) (.inr ⟨rfl,qc⟩) w'
   unfold execOp
   simp only[F.ev he,Option.map_none]
   simp [this]
  | some y=>
   have:=h5 none (some (.int .i64 j)) (.inr ⟨rfl,qa⟩) (.inl rfl) w'
   unfold execOp
   simp only[F.ev he,Option.map_none,Cw,F.ev qc]
   simp [this]
 | some z=>
  cases hi with
  | none=>
   have:=h5 (some (.int .i64 i)) none (.inl rfl) (.inr ⟨rfl,qc⟩) w'
   unfold execOp
   simp only[F.ev he,Option.map_none,Cw,F.ev qa]
   simp [this]
  | some y=>
   have:=h5 (some (.int .i64 i)) (some (.int .i64 j)) (.inl rfl) (.inl rfl) w'
   unfold execOp
   simp only[F.ev he,Cw,F.ev qa,F.ev qc]
   simp [this]
end
section
variable {P:Program} {ops:Array Oper} {Q:Exit->Act->Wd->Prop} {a:Act} {w w0 w1:Wd} {n:Nat} {L:List (Nat×Vl)} {rest:List Oper} {d:Nat} {ty:Ty} {pos:String} {af:Array Edge} {g:Option (Nat×Bool)} {M N:Nat->Prop} {X:List Nat} {D:List As}
theorem oI {sz iy t v l e} (ht:P.underlying t=some (.slice e)) (qa:∀ w,(sizeOf e).run P w= .ok sz w)
 (F:Sk a n L) (hc:vR ops n L g d=true) (he:ev L x=some v) (hi:ev L iy=some (.int .i64 i)) (h:Bo M w1 (Sl sz R) v l) (qc:ix l i=some y)
 (k:∀ a' p,Bo M w1 (Pt sz R) p y->Sk a' n ((d,p)::L)->wpList P ops Q rest a' w):wpList P ops Q (⟨some d,.indexAddr t x iy,ty,pos,af,g⟩::rest) a w:=
 let ⟨p,hr,hp⟩:=xQi ht qa F he hi h qc;zT F hc (hr w) (λa' F'=>k a' p hp F')
theorem oF {β:Type} {sz s':Nat} {R':ER β} {t:Ty} {kk:Nat} {p:Vl} {z:β} {off:Nat} (hp:∀ (a:Addr) w,(Instr.fieldAt t (.pointer (some a)) kk).run P w= .ok (.pointer (some (a.add off))) w)
 (F:Sk a n L) (hc:vR ops n L g d=true) (he:ev L x=some p) (h:Bo M w1 (Pt sz R) p y) (hf:∀ f bi,R w1 f y bi->∃ bj,R' w1 (λj=>f (off+j)) z bj/\∀ c∈bj,c∈bi)
 (k:∀ a' p',Bo M w1 (Pt s' R') p' z->Sk a' n ((d,p')::L)->wpList P ops Q rest a' w):wpList P ops Q (⟨some d,.fieldAddr t x kk,ty,pos,af,g⟩::rest) a w:=
 let ⟨p',hr,h'⟩:=xQt (s':=s') hp F he h hf;zT F hc (hr w) (λa' F'=>k a' p' h' F')
theorem olI {t p y} (qa:∀ w,(isAgg t).run P w= .ok false w) (F:Sk a n L) (hc:vR ops n L g d=true) (he:ev L x=some p) (s:Sm M w1 w) (h:Bo M w1 (Pt 1 xF) p y)
 (k:∀ a',xM y->Sk a' n ((d,.int .i64 y)::L)->wpList P ops Q rest a' w):wpList P ops Q (⟨some d,.load t x,ty,pos,af,g⟩::rest) a w:=
 let ⟨i,hr⟩:=oAd qa F he h;zT F hc (hr w s) (λa' F'=>k a' i F')
theorem olB {t p y} (qa:∀ w,(isAgg t).run P w= .ok false w) (F:Sk a n L) (hc:vR ops n L g d=true) (he:ev L x=some p) (s:Sm M w1 w) (h:Bo M w1 (Pt 1 aF) p y) (k:∀ a',Sk a' n ((d,.bool y)::L)->wpList P ops Q rest a' w):wpList P ops Q (⟨some d,.load t x,ty,pos,af,g⟩::rest) a w:=zT F hc (xTx qa F he h w s) k
theorem olS {sz t p y} (qa:∀ w,(isAgg t).run P w= .ok false w) (F:Sk a n L) (hc:vR ops n L g d=true) (he:ev L x=some p) (s:Sm M w1 w) (h:Bo M w1 (Pt 1 (zV sz R)) p y)
 (k:∀ a' v,Bo M w1 (Sl sz R) v y->Sk a' n ((d,v)::L)->wpList P ops Q rest a' w):wpList P ops Q (⟨some d,.load t x,ty,pos,af,g⟩::rest) a w:=
 let ⟨v,hv,hr⟩:=oIb qa F he h;zT F hc (hr w s) (λa' F'=>k a' v hv F')
theorem olA {sz} [hR:FrC sz R] {t} {p} (qa:∀ w,(isAgg t).run P w= .ok true w) (qc:∀ w,(sizeOf t).run P w= .ok sz w) (F:Sk a n L) (hc:vR ops n L g d=true) (he:ev L x=some p) (s:Sm M w1 w) (h:Bo M w1 (Pt sz R) p y)
 (k:∀ a' v,Bo M w1 (qR sz R) v y->Sk a' n ((d,v)::L)->wpList P ops Q rest a' w):wpList P ops Q (⟨some d,.load t x,ty,pos,af,g⟩::rest) a w:=
 let ⟨v,hv,hr⟩:=oBw qa qc F he h;zT F hc (hr w s) (λa' F'=>k a' v hv F')
theorem oL {sz t v l e} (ht:P.underlying t=some (.slice e)) (F:Sk a n L) (hc:vR ops n L g d=true) (he:ev L x=some v) (h:Bo M w1 (Sl sz R) v l) (k:∀ a',xM (l.length:Int)->Sk a' n ((d,.int .i64 l.length)::L)->wpList P ops Q rest a' w):wpList P ops Q (⟨some d,.call ⟨.builtin .len,#[x],#[t]⟩,ty,pos,af,g⟩::rest) a w:=zT F hc (oBn ht F he h w) (λa' F'=>k a' h.slen F')
theorem oC {sz} [hR:FrC sz R] {t e} {v} {l r} {j} {lo hi} (ht:P.underlying t=some (.slice e)) (qa:∀ w,(sizeOf e).run P w= .ok sz w) (F:Sk a n L) (hc:vR ops n L g d=true) (he:ev L x=some v)
 (qc:match lo with | some y=>ev L y=some (.int .i64 i) | none=>i=0) (qd:match hi with | some y=>ev L y=some (.int .i64 j) | none=>j=l.length) (h:Bo M w1 (Sl sz R) v l) (hs:sl l i j=some r)
 (k:∀ a' v',Bo M w1 (Sl sz R) v' r->Sk a' n ((d,v')::L)->wpList P ops Q rest a' w):wpList P ops Q (⟨some d,.slice t x lo hi none,ty,pos,af,g⟩::rest) a w:=
 let ⟨v',hv,hr⟩:=oGq ht qa F he qc qd h hs;zT F hc (hr w) (λa' F'=>k a' v' hv F')
theorem oN {sz p} (F:Sk a n L) (hc:vR ops n L g d=true) (e:ev L x=some p) (h:Bo M w1 (Pt sz R) p y)
 (k:∀ a',Sk a' n ((d,p)::L)->wpList P ops Q rest a' w):wpList P ops Q (⟨some d,.nilCheck x,ty,pos,af,g⟩::rest) a w:=
 have hr:=oBl (d:=some d) (ty:=ty) (pos:=pos) (af:=af) (g:=g) F e h;zT F hc (hr w) k
theorem oA {T:Ty} {z:Vl} {cs:List Vl} (hz:∀ w,(zeroValue T).run P w= .ok z w) (F:Sk a n L) (hc:vR ops n L g d=true) (ha:z.cells=cs.toArray) (H:Sep X N w0 w D) (k:∀ a' w' b,Sep X N w0 w' (bx b cs T::D)->Sk a' n ((d,.pointer (some ⟨b,0,none⟩))::L)->wpList P ops Q rest a' w'):wpList P ops Q (⟨some d,.alloc T,ty,pos,af,g⟩::rest) a w:= oFh hz F hc ha (λa' w' b K l hb F'=>k a' w' b (H.push l (A:=bx b cs T) (Y0:=[b]) ⟨K,vK⟩ n0 (λc hc=>by rw[Ay] at hc;subst hc;exact⟨hb,K.lt⟩)) F')
theorem oX {T:Ty} {v:Vl} {cs:List Vl} (F:Sk a n L) (hc:vR ops n L g d=true) (he:ev L x=some v) (ha:v.cells=cs.toArray) (H:Sep X N w0 w D) (k:∀ a' w' b,Sep X N w0 w' (bx b cs T::D)->Sk a' n ((d,.pointer (some ⟨b,0,none⟩))::L)->wpList P ops Q rest a' w'):wpList P ops Q (⟨some d,.box T x,ty,pos,af,g⟩::rest) a w:= oMl F hc he ha (λa' w' b K l hb F'=>k a' w' b (H.push l (A:=bx b cs T) (Y0:=[b]) ⟨K,vK⟩ n0 (λc hc=>by rw[Ay] at hc;subst hc;exact⟨hb,K.lt⟩)) F')
theorem oB {t:Ty} {b o:Nat} {v:Vl} {cs:List Vl} {T:Ty} (qa:∀ w,(isAgg t).run P w= .ok false w) (F:Sk a n L) (hc:vR ops n L g d=true) (he:ev L x=some (.pointer (some ⟨b,o,none⟩))) (h:lG w b cs.toArray T) (hv:cs[o]?=some v) (k:∀ a',Sk a' n ((d,v)::L)->wpList P ops Q rest a' w):wpList P ops Q (⟨some d,.load t x,ty,pos,af,g⟩::rest) a w:=oEe qa F hc he h (vV hv) k
theorem oBA {t:Ty} {b o sz:Nat} {cs vs:List Vl} {T:Ty} (qa:∀ w,(isAgg t).run P w= .ok true w) (qc:∀ w,(sizeOf t).run P w= .ok sz w) (F:Sk a n L) (hc:vR ops n L g d=true) (he:ev L x=some (.pointer (some ⟨b,o,none⟩))) (h:lG w b cs.toArray T) (hv:(cs.drop o).take sz=vs) (hl:vs.length=sz) (k:∀ a',Sk a' n ((d,.agg vs.toArray)::L)->wpList P ops Q rest a' w):wpList P ops Q (⟨some d,.load t x,ty,pos,af,g⟩::rest) a w:= oAx qa qc F hc he h hl (λj hj=>by subst hv;simp [Bf,hj]) k
theorem oW {y:Operand} {t:Ty} {b o:Nat} {v:Vl} {cs cs':List Vl} {T:Ty} (qa:∀ w,(sizeOf t).run P w= .ok 1 w) (F:Sk a n L) (hc:gok ops L g=true) (he:ev L x=some (.pointer (some ⟨b,o,none⟩))) (qc:ev L y=some v) (H:Sep X N w0 w (bx b cs T::D)) (hv:v.oneCell'=true) (ho:Nat.blt o cs.length=true) (qd:cs.set o v=cs')
 (k:∀ w',Sep X N w0 w' (bx b cs' T::D)->wpList P ops Q rest a w'):wpList P ops Q (⟨none,.store t x y,ty,pos,af,g⟩::rest) a w:=by
 obtain⟨Y,⟨hK,hb⟩,_,hY,tr⟩:=H.hd;have qe:o<cs.length:=Ba ho;refine xFt (arr':=cs'.toArray) qa F hc he qc hK hv (vV qe) (by subst qd;simp) (λw' K l=>k w' (tr (Z:=[b]) (λc hc=>by rw[Ay] at hc;rw[hc];exact hb) l (Y1:=[b]) ⟨K,vK⟩ n0 (λc hc=>?_)));rw[Ay] at hc;subst hc;exact⟨.inl hb,K.lt⟩
theorem oWA {y:Operand} {t:Ty} {b o:Nat} {vs cs cs':List Vl} {T:Ty} (qa:∀ w,(sizeOf t).run P w= .ok vs.length w) (F:Sk a n L) (hc:gok ops L g=true) (he:ev L x=some (.pointer (some ⟨b,o,none⟩))) (qc:ev L y=some (.agg vs.toArray)) (H:Sep X N w0 w (bx b cs T::D)) (hv:∀ v∈vs,v.oneCell'=true) (ho:Nat.ble (o+vs.length) cs.length=true) (qd:cs.take o++vs++cs.drop (o+vs.length)=cs')
 (k:∀ w',Sep X N w0 w' (bx b cs' T::D)->wpList P ops Q rest a w'):wpList P ops Q (⟨none,.store t x y,ty,pos,af,g⟩::rest) a w:=by
 obtain⟨Y,⟨hK,hb⟩,_,hY,tr⟩:=H.hd;have qe:o+vs.length<=cs.length:=Ba ho;refine xOf (arr':=cs'.toArray) qa F hc he qc hK hv (vV qe) (by subst qd;simp) (λw' K l=>k w' (tr (Z:=[b]) (λc hc=>by rw[Ay] at hc;rw[hc];exact hb) l (Y1:=[b]) ⟨K,vK⟩ n0 (λc hc=>?_)));rw[Ay] at hc;subst hc;exact⟨.inl hb,K.lt⟩
theorem Row.push {sz:Nat} [hR:FrC sz R] {E:Ty} {v:Vl} {xs:List α} {rb:List Nat} {w':Wd} (H:Sep X N w0 w D) (l:Below w.heap.size w w') (r:Row sz R E w.heap.size w' v xs rb []):Sep X N w0 w' (rl sz R E v xs::D):= H.push l (A:=rl sz R E v xs) (Y0:=rb) ⟨rb,[],r.base (Bi _),Own.nil _ _,λ_ hc=>hc,λ_ h=>nomatch h⟩ n0 (λc hc=>⟨(r.blk c hc).1,r.memR c hc⟩)
theorem oR0 {sz} [hR:FrC sz R] {t e} (ht:P.underlying t=some (.slice e)) (qa:∀ w,(sizeOf e).run P w= .ok sz w) (F:Sk a n L) (hc:vR ops n L g d=true) (H:Sep X N w0 w D) (k:∀ a' w' v,Sep X N w0 w' (rl sz R e v []::D)->Sk a' n ((d,v)::L)->wpList P ops Q rest a' w'):wpList P ops Q (⟨some d,.buildSlice t 0 #[],ty,pos,af,g⟩::rest) a w:= oGy (R:=R) ht qa F hc (λa' w' v rb r l F'=>k a' w' v (r.push H l) F')
theorem oRM {sz} [hR:FrC sz R] {y} {t E} {z} {bytes} {zero} {l} (ht:P.underlying t=some (.slice E)) (qa:(P.info? E).map (λi=>(i.zero,i.size,i.bytes))=some (some z,sz,bytes)) (qc:z.cells.size=sz) (qd:0<sz) (qe:bytes<=1024) (qf:∀ w,R w (λj=>z.cells[j]?) zero []) (F:Sk a n L) (hc:vR ops n L g d=true) (hx:ev L x=some (.int .i64 i)) (hy:ev L y=some (.int .i64 i)) (hl:nJ zero i=some l) (H:Sep X N w0 w D) (k:∀ a' w' v,Sep X N w0 w' (rl sz R E v l::D)->Sk a' n ((d,v)::L)->wpList P ops Q rest a' w'):wpList P ops Q (⟨some d,.makeSlice t x y,ty,pos,af,g⟩::rest) a w:= oJf (R:=R) ht qa qc qd qe qf F hc hx hy hl (λa' w' v rb r l F'=>k a' w' v (r.push H l) F')
theorem oRI {t e z parts m xs l} (ht:P.underlying t=some (.slice e)) (qa:∀ w,(sizeOf e).run P w= .ok 1 w) (hz:∀ w,(zeroValue e).run P w= .ok z w) (qc:z.cells.size=1) (F:Sk a n L) (hc:vR ops n L g d=true) (hp:parts.toList=(List.range' 0 xs.length).zip xs) (hm:m=l.length) (qd:Nat.ble l.length 1000=true) (qe:Nat.blt 0 l.length=true) (hx:evs L xs=some (l.map (Value.int .i64))) (hI:∀ y∈l,xM y) (H:Sep X N w0 w D) (k:∀ a' w' v,Sep X N w0 w' (rl 1 xF e v l::D)->Sk a' n ((d,v)::L)->wpList P ops Q rest a' w'):wpList P ops Q (⟨some d,.buildSlice t m parts,ty,pos,af,g⟩::rest) a w:= oJk ht qa hz qc F hc hp hm (Ba qd) (Ba qe) hx hI (λa' w' v rb r l F'=>k a' w' v (r.push H l) F')
end
end
section
open Go.RowKit
variable {α:Type} {R:ER α} {x:Operand} {y:α}
def Eo (N:Nat->Prop) (w:Wd) (sz:Nat) (R:ER α) (v:Vl) (x:α):Prop:=∃ bs,El sz R w v x bs/\∀ c∈bs,N c
section
variable {N:Nat->Prop} {w:Wd}
theorem Eo.int {x} (h:xM x):Eo N w 1 xF (.int .i64 x) x:=⟨[],El.int h,λ_ h=>nomatch h⟩
theorem Eo.bool {x}:Eo N w 1 aF (.bool x) x:=⟨[],El.bool,λ_ h=>nomatch h⟩
theorem Eo.sl {sz v l} (h:Bo N w (Sl sz R) v l):Eo N w 1 (zV sz R) v l:=let ⟨bs,h1,h2⟩:=h;⟨bs,El.sl h1,h2⟩
theorem Eo.agg {sz} [hR:FrC sz R] {v} {x} (h:Bo N w (qR sz R) v x):Eo N w sz R v x:=let ⟨bs,h1,h2⟩:=h;⟨bs,El.agg h1,h2⟩
theorem Rdg.l {A B} (h:Rdg N w (pr A B)):Rdg N w A:=let ⟨Y,⟨Y1,Y2,h1,h2,_,h4,h5⟩,h6,h7⟩:=h;⟨Y1,h1,λc hc=>h6 c (h4 c hc),λc hc=>h7 c (.inl hc)⟩
theorem Rdg.r {A B} (h:Rdg N w (pr A B)):Rdg N w B:=let ⟨Y,⟨Y1,Y2,h1,h2,_,h4,h5⟩,h6,h7⟩:=h;⟨Y2,h2,λc hc=>h6 c (h5 c hc),λc hc=>h7 c (.inr hc)⟩
end
class Flat {α:Type} (R:ER α):Prop where
  nil:∀ w f x bs,R w f x bs->bs=[]
instance:Flat xF:=⟨λ_ _ _ _ h=>h.2.2⟩
instance:Flat aF:=⟨λ_ _ _ _ h=>h.2⟩
section
variable {P:Program} {ops:Array Oper} {Q:Exit->Act->Wd->Prop} {a:Act} {w w0 w1:Wd} {n:Nat} {L:List (Nat×Vl)} {rest:List Oper} {d:Nat} {ty:Ty} {pos:String} {af:Array Edge} {g:Option (Nat×Bool)} {M N N1:Nat->Prop} {X:List Nat} {D:List As} {A B:As}
theorem oR1 {sz} [hR:FrC sz R] {t e} {z} {v} (ht:P.underlying t=some (.slice e)) (qa:∀ w,(sizeOf e).run P w= .ok sz w) (hz:∀ w,(zeroValue e).run P w= .ok z w) (qc:z.cells.size=sz) (hb:(Nat.blt 0 sz && Nat.ble sz 1000)=true) (F:Sk a n L) (hc:vR ops n L g d=true) (hx:ev L x=some v) (H:Sep X N w0 w D) (h1:∀ c,N1 c->N c) (h:Eo N1 w sz R v y) (k:∀ a' w' v',Sep X N w0 w' (rw N1 sz R e v' [y]::D)->Sk a' n ((d,v')::L)->wpList P ops Q rest a' w'):wpList P ops Q (⟨some d,.buildSlice t 1 #[(0,x)],ty,pos,af,g⟩::rest) a w:=by
 rw[Be] at hb;obtain⟨bs,h2,h3⟩:=h;exact xPi ht qa hz qc (Ba hb.1) (Ba hb.2) F hc hx h2 (λa' w' v' rb r l F'=>k a' w' v' (H.push l (A:=rw N1 sz R e v' [y]) (Y0:=rb) (rw_m (r.base (Bi _)) h3) h1 (λc hc=>⟨(r.blk c hc).1,r.memR c hc⟩)) F')
theorem oR1c {sz} [hR:FrC sz R] {t e} {z} {v} (ht:P.underlying t=some (.slice e)) (qa:∀ w,(sizeOf e).run P w= .ok sz w) (hz:∀ w,(zeroValue e).run P w= .ok z w) (qc:z.cells.size=sz) (hb:(Nat.blt 0 sz && Nat.ble sz 1000)=true) (F:Sk a n L) (hc:vR ops n L g d=true) (hx:ev L x=some v) (H:Sep X N w0 w (A::D)) (h1:∀ c,N1 c->N c) (hA:∀ c,A.N c->N1 c) (h:∀ {N':Nat->Prop},(∀ c,N1 c->N' c)->Rdg N' w A->Eo N' w sz R v y) (k:∀ a' w' v',Sep X N w0 w' (rw N1 sz R e v' [y]::D)->Sk a' n ((d,v')::L)->wpList P ops Q rest a' w'):wpList P ops Q (⟨some d,.buildSlice t 1 #[(0,x)],ty,pos,af,g⟩::rest) a w:=by
 rw[Be] at hb;obtain⟨Y,hP,_,hY,tr⟩:=H.hd;obtain⟨bs,h2,h3⟩:=h (N':=λc=>c∈Y∨N1 c) (λc hc=>.inr hc) ⟨Y,hP,λc hc=>.inl hc,λc hc=>.inr (hA c hc)⟩;refine xPi ht qa hz qc (Ba hb.1) (Ba hb.2) F hc hx h2 (λa' w' v' rb r l F'=>k a' w' v' (tr (Z:=[]) (λ_ h=>nomatch h) (B5.of_below l) (B:=rw N1 sz R e v' [y]) (Y1:=Y++rb) ⟨rb,bs,r.base (Bi _),λc hc=>Bm _ hc,λc hc=>(h3 c hc).imp (λh=>Bq _ h) id⟩ h1 (λc hc=>?_)) F')
 rcases Aj.1 hc with hc | hc
 ·exact⟨.inl hc,Au (hY c hc).1 l.size⟩
 ·exact⟨.inr (r.blk c hc).1,r.memR c hc⟩
theorem xUo {rb rb' Y:List Nat} {w w':Wd} (hrb:∀ c∈rb,c∈Y) (hn:∀ X,kH X w->Dj X rb->Dj X rb') {c:Nat} (hc:c∈rb'):c∈Y∨w.heap.size<=c:=by
 by_cases h1:c∈Y
 ·exact .inl h1
 ·by_cases h2:w.heap.size<=c
  ·exact .inr h2
  ·exact absurd hc (hn [c] (λb hb=>by rw[Ay] at hb;subst hb;omega) (λb hb hm=>by rw[Ay] at hb;subst hb;exact h1 (hrb b hm)) c vK)
theorem oP {sz:Nat} [hR:FrC sz R] {y:Operand} {t E E':Ty} {z:Vl} {bytes:Nat} {v u:Vl} {l m r:List α} (ht:P.underlying t=some (.slice E)) (qa:(P.info? E).map (λi=>(i.zero,i.size,i.bytes))=some (some z,sz,bytes)) (qd:z.cells.size=sz) (hb:(Nat.blt 0 sz && (Nat.ble bytes 1024 && Nat.blt 0 bytes))=true)
 (F:Sk a n L) (hc:vR ops n L g d=true) (hx:ev L x=some v) (hy:ev L y=some u) (H:Sep X N w0 w (rw N1 sz R E v l::rw N1 sz R E' u m::D)) (qe:ap l m=some r)
 (k:∀ a' w' v',Sep X N w0 w' (rw N1 sz R E v' r::D)->Sk a' n ((d,v')::L)->wpList P ops Q rest a' w'):wpList P ops Q (⟨some d,.call ⟨.builtin .append,#[x,y],#[t,t]⟩,ty,pos,af,g⟩::rest) a w:=by
 simp only[Be] at hb;obtain⟨Y,⟨Y1,Y2,⟨rb,ib,r1,r2,r3⟩,⟨rb2,ib2,s1,s2,s3⟩,dj,y1,y2⟩,hN,hY,tr⟩:=H.mg.hd;have qc:∀ c,N1 c->N c:=λc hc=>hN c (.inl hc);refine xKz ht qa qd (Ba hb.1) (Ba hb.2.1) (Ba hb.2.2) F hc hx hy r1 s1.src (Bi _) (λc hc qf=>?_) qe (λa' w' v' rb' q o hn F'=>k a' w' v' (tr (Z:=rb) (λc hc=>y1 c (r2 c hc)) o (B:=rw N1 sz R E v' r) (Y1:=Y++rb') ⟨rb',ib++ib2,q,λc hc=>Bm _ hc,λc hc=>?_⟩ qc (λc hc=>?_)) F')
 ·rcases s3 c qf with h | h
  ·exact dj c (r2 c hc) h
  ·exact(hY c (y1 c (r2 c hc))).2 (qc c h)
 ·rcases Aj.1 hc with hc | hc
  ·exact(r3 c hc).imp (λh=>Bq _ (y1 c h)) id
  ·exact(s3 c hc).imp (λh=>Bq _ (y2 c h)) id
 ·rcases Aj.1 hc with hc | hc
  ·exact⟨.inl hc,Au (hY c hc).1 o.size⟩
  ·exact⟨xUo (w':=w') (λc hc=>y1 c (r2 c hc)) hn hc,q.memR c hc⟩
theorem oPf {sz:Nat} [hR:FrC sz R] [hf:Flat R] {y:Operand} {t E:Ty} {z:Vl} {bytes:Nat} {v u:Vl} {l m r:List α} (ht:P.underlying t=some (.slice E)) (qa:(P.info? E).map (λi=>(i.zero,i.size,i.bytes))=some (some z,sz,bytes)) (qc:z.cells.size=sz) (hb:(Nat.blt 0 sz && (Nat.ble bytes 1024 && Nat.blt 0 bytes))=true) (F:Sk a n L) (hc:vR ops n L g d=true) (hx:ev L x=some v) (hy:ev L y=some u) (H:Sep X N w0 w (rw N1 sz R E v l::D)) (hs:Bo M w (Sl sz R) u m) (qd:ap l m=some r) (k:∀ a' w' v',Sep X N w0 w' (rw N1 sz R E v' r::D)->Sk a' n ((d,v')::L)->wpList P ops Q rest a' w'):wpList P ops Q (⟨some d,.call ⟨.builtin .append,#[x,y],#[t,t]⟩,ty,pos,af,g⟩::rest) a w:=by
 simp only[Be] at hb;obtain⟨Y,⟨rb,ib,r1,r2,r3⟩,hN,hY,tr⟩:=H.hd;obtain⟨bs,h1,h2⟩:=hs;obtain⟨ib2,s1,s2⟩:=Rd.src (Ba hb.1) h1;obtain rfl:ib2=[]:=xYa s1 hf.nil;refine xKz ht qa qc (Ba hb.1) (Ba hb.2.1) (Ba hb.2.2) F hc hx hy r1 s1 (Bi _) (Dj.nil _) qd (λa' w' v' rb' q o hn F'=>k a' w' v' (tr (Z:=rb) r2 o (B:=rw N1 sz R E v' r) (Y1:=Y++rb') ⟨rb',ib++[],q,λc hc=>Bm _ hc,λc hc=>?_⟩ hN (λc hc=>?_)) F')
 ·rw[Ch] at hc
  exact(r3 c hc).imp (λh=>Bq _ h) id
 ·rcases Aj.1 hc with hc | hc
  ·exact⟨.inl hc,Au (hY c hc).1 o.size⟩
  ·exact⟨xUo (w':=w') r2 hn hc,q.memR c hc⟩
theorem Sep.hN (H:Sep X N w0 w D):∀ c,N c->c<w.heap.size:=λc hc=>Au (H.nb c hc).1 H.fr.size
theorem Sep.nl (H:Sep X N w0 w D) (sz:Nat) (R:ER α) [hR:FrC sz R] (E:Ty):Sep X N w0 w (rl sz R E (.slice none 0 0) []::D):= H.push (Below.refl _ _) (A:=rl sz R E (.slice none 0 0) []) (Y0:=[]) ⟨[],[],Row.nil sz R E 0 w,Own.nil _ _,(λ_ h=>nomatch h),(λ_ h=>nomatch h)⟩ n0 (λ_ h=>nomatch h)
theorem Sep.lw {sz} [hR:FrC sz R] {E} {v} {l} (H:Sep X N w0 w (rl sz R E v l::D)):Sep X N w0 w (rw N0 sz R E v l::D):=by
 obtain⟨Y,⟨rb,ib,r1,_,r2,r3⟩,hN,hY,tr⟩:=H.hd;exact tr (Z:=[]) (λ_ h=>nomatch h) (B5.refl _ _) (B:=rw N0 sz R E v l) (Y1:=Y) ⟨rb,ib,r1,r2,λc hc=>.inl (r3 c hc)⟩ n0 (λc hc=>⟨.inl hc,(hY c hc).1⟩)
theorem xBu {sz} [hf:Flat R] {E} {B} {v} {l} {rb ib} (r:Row sz R E B w v l rb ib):ib=[]:=by
 obtain⟨xs,bss,ho,hl,qa,he⟩:=r.row;rw[<- qa,Dx];intro bi hb;obtain⟨i,hi,rfl⟩:=Bx hb;exact hf.nil _ _ _ _ (he i _ _ (Aa (by rw[<- hl];exact hi)) (Aa hi))
theorem Sep.tl {sz} [hR:FrC sz R] [hf:Flat R] {E} {v} {l} (H:Sep X N w0 w (rw N1 sz R E v l::D)):Sep X N w0 w (rl sz R E v l::D):=by
 obtain⟨Y,⟨rb,ib,r1,r2,r3⟩,hN,hY,tr⟩:=H.hd;obtain rfl:=xBu r1;exact tr (Z:=[]) (λ_ h=>nomatch h) (B5.refl _ _) (B:=rl sz R E v l) (Y1:=Y) ⟨rb,[],r1,Own.nil _ _,r2,λ_ h=>nomatch h⟩ n0 (λc hc=>⟨.inl hc,(hY c hc).1⟩)
theorem Sep.os {sz} [hR:FrC sz R] {E} {v} {l} (H:Sep X N w0 w (rl sz R E v l::D)):Sep X N w0 w (ow (V:=Sl sz R) v l::D):=by
 obtain⟨Y,⟨rb,ib,r1,ho,r2,r3⟩,hN,hY,tr⟩:=H.hd;exact tr (Z:=[]) (λ_ h=>nomatch h) (B5.refl _ _) (B:=ow (V:=Sl sz R) v l) (Y1:=Y) ⟨rb++ib,r1.rd,r1.own ho,λc hc=>(Aj.1 hc).elim (r2 c) (r3 c)⟩ n0 (λc hc=>⟨.inl hc,(hY c hc).1⟩)
theorem Sep.dt {V:VR α} [hV:VF V] {v:Vl} {x:α} (H:Sep X N w0 w (A::D)) (h:∀ {Y:List Nat},A.P w Y->(∀ c∈Y,c<w.heap.size)->∃ bs,Rd V w v x bs/\Own 0 bs w/\∀ c∈bs,c∈Y):Sep X N w0 w (ow (V:=V) v x::D):=by
 obtain⟨Y,hP,hN,hY,tr⟩:=H.hd;exact tr (Z:=[]) (λ_ h=>nomatch h) (B5.refl _ _) (B:=ow (V:=V) v x) (Y1:=Y) (h hP (λc hc=>(hY c hc).1)) n0 (λc hc=>⟨.inl hc,(hY c hc).1⟩)
theorem oR1z {sz} [hR:FrC sz R] {t e} {z} {v} (ht:P.underlying t=some (.slice e)) (qa:∀ w,(sizeOf e).run P w= .ok sz w) (hz:∀ w,(zeroValue e).run P w= .ok z w) (qc:z.cells.size=sz) (hb:(Nat.blt 0 sz && Nat.ble sz 1000)=true) (F:Sk a n L) (hc:vR ops n L g d=true) (hx:ev L x=some v) (H:Sep X N w0 w D) (h:Eo N0 w sz R v y) (k:∀ a' w' v',Sep X N w0 w' (rl sz R e v' [y]::D)->Sk a' n ((d,v')::L)->wpList P ops Q rest a' w'):wpList P ops Q (⟨some d,.buildSlice t 1 #[(0,x)],ty,pos,af,g⟩::rest) a w:=by
 rw[Be] at hb;obtain⟨bs,h2,h3⟩:=h;obtain rfl:bs=[]:=List.eq_nil_iff_forall_not_mem.2 h3;exact xPi ht qa hz qc (Ba hb.1) (Ba hb.2) F hc hx h2 (λa' w' v' rb r l F'=>k a' w' v' (Row.push H l r) F')
theorem oR1L {sz} [hR:FrC sz R] {V} [hV:VF V] {t e} {z} {v} (ht:P.underlying t=some (.slice e)) (qa:∀ w,(sizeOf e).run P w= .ok sz w) (hz:∀ w,(zeroValue e).run P w= .ok z w) (qc:z.cells.size=sz) (hb:(Nat.blt 0 sz && Nat.ble sz 1000)=true) (F:Sk a n L) (hc:vR ops n L g d=true) (hx:ev L x=some v) (H:Sep X N w0 w (ow (V:=V) v y::D)) (h:∀ {bs},Rd V w v y bs->El sz R w v y bs) (k:∀ a' w' v',Sep X N w0 w' (rl sz R e v' [y]::D)->Sk a' n ((d,v')::L)->wpList P ops Q rest a' w'):wpList P ops Q (⟨some d,.buildSlice t 1 #[(0,x)],ty,pos,af,g⟩::rest) a w:=by
 rw[Be] at hb;obtain⟨Y,⟨bs,p1,p2,p3⟩,_,hY,tr⟩:=H.hd;refine xPi ht qa hz qc (Ba hb.1) (Ba hb.2) F hc hx (h p1) (λa' w' v' rb r l F'=>k a' w' v' (tr (Z:=[]) (λ_ h=>nomatch h) (B5.of_below l) (B:=rl sz R e v' [y]) (Y1:=Y++rb) ⟨rb,bs,r.base (Bi _),p2.go l,λc hc=>Bm _ hc,λc hc=>Bq _ (p3 c hc)⟩ n0 (λc hc=>?_)) F')
 rcases Aj.1 hc with hc | hc
 ·exact⟨.inl hc,Au (hY c hc).1 l.size⟩
 ·exact⟨.inr (r.blk c hc).1,r.memR c hc⟩
theorem oPL {sz:Nat} [hR:FrC sz R] {y:Operand} {t E E':Ty} {z:Vl} {bytes:Nat} {v u:Vl} {l m r:List α} (ht:P.underlying t=some (.slice E)) (qa:(P.info? E).map (λi=>(i.zero,i.size,i.bytes))=some (some z,sz,bytes)) (qd:z.cells.size=sz) (hb:(Nat.blt 0 sz && (Nat.ble bytes 1024 && Nat.blt 0 bytes))=true)
 (F:Sk a n L) (hc:vR ops n L g d=true) (hx:ev L x=some v) (hy:ev L y=some u) (H:Sep X N w0 w (rl sz R E v l::rl sz R E' u m::D)) (qe:ap l m=some r)
 (k:∀ a' w' v',Sep X N w0 w' (rl sz R E v' r::D)->Sk a' n ((d,v')::L)->wpList P ops Q rest a' w'):wpList P ops Q (⟨some d,.call ⟨.builtin .append,#[x,y],#[t,t]⟩,ty,pos,af,g⟩::rest) a w:=by
 simp only[Be] at hb;obtain⟨Y,⟨Y1,Y2,⟨rb,ib,r1,ro,r2,r3⟩,⟨rb2,ib2,s1,so,s2,s3⟩,dj,y1,y2⟩,hN,hY,tr⟩:=H.mg.hd;have d1:Dj rb ib2:=λc hc qc=>dj c (r2 c hc) (s3 c qc);refine xKz ht qa qd (Ba hb.1) (Ba hb.2.1) (Ba hb.2.2) F hc hx hy r1 s1.src (Bi _) d1 qe (λa' w' v' rb' q o hn F'=>k a' w' v' (tr (Z:=rb) (λc hc=>y1 c (r2 c hc)) o (B:=rl sz R E v' r) (Y1:=Y++rb') ⟨rb',ib++ib2,q,(ro.goO o r1.dj.symm).append (so.goO o d1.symm) (λc hc qc=>dj c (r3 c hc) (s3 c qc)),λc hc=>Bm _ hc,λc hc=>Bq _ ?_⟩ n0 (λc hc=>?_)) F')
 ·rcases Aj.1 hc with hc | hc
  ·exact y1 c (r3 c hc)
  ·exact y2 c (s3 c hc)
 ·rcases Aj.1 hc with hc | hc
  ·exact⟨.inl hc,Au (hY c hc).1 o.size⟩
  ·exact⟨xUo (w':=w') (λc hc=>y1 c (r2 c hc)) hn hc,q.memR c hc⟩
theorem oRl {sz} [hR:FrC sz R] {iy} {t E} {v} {l} {i} (ht:P.underlying t=some (.slice E)) (qa:∀ w,(sizeOf E).run P w= .ok sz w) (F:Sk a n L) (hc:vR ops n L g d=true) (he:ev L x=some v) (hi:ev L iy=some (.int .i64 i)) (H:Sep X N w0 w D) (j:Nat) (hj:D[j]?=some (rl sz R E v l)) (qc:ix l i=some y) (k:∀ a' p,Bo (All w) w (Pt sz R) p y->RPt v sz i.toNat p->Sk a' n ((d,p)::L)->wpList P ops Q rest a' w):wpList P ops Q (⟨some d,.indexAddr t x iy,ty,pos,af,g⟩::rest) a w:=by
 obtain⟨Y,⟨rb,ib,r1,_,r2,r3⟩,hY,hN⟩:=H.g j hj;exact xSs ht qa F hc he hi r1 qc (λa' p bi h1 h2 hp F'=>k a' p (Bo.of h1) hp F')
theorem Sep.wk {sz} [hR:FrC sz R] {E} {v} {l} (H:Sep X N w0 w (rw N0 sz R E v l::D)):Sep X N w0 w (rw N sz R E v l::D):=by
 obtain⟨Y,⟨rb,ib,r1,r2,r3⟩,hN,hY,tr⟩:=H.hd;exact tr (Z:=[]) (λ_ h=>nomatch h) (B5.refl _ _) (B:=rw N sz R E v l) (Y1:=Y) ⟨rb,ib,r1,r2,λc hc=>.inl ((r3 c hc).resolve_right id)⟩ n1 (λc hc=>⟨.inl hc,(hY c hc).1⟩)
theorem oRi {sz} [hR:FrC sz R] {iy} {t E} {v} {l} {i} (ht:P.underlying t=some (.slice E)) (qa:∀ w,(sizeOf E).run P w= .ok sz w) (F:Sk a n L) (hc:vR ops n L g d=true) (he:ev L x=some v) (hi:ev L iy=some (.int .i64 i)) (H:Sep X N w0 w D) (j:Nat) (hj:D[j]?=some (rw N1 sz R E v l)) (qc:ix l i=some y) (k:∀ a' p,Bo (All w) w (Pt sz R) p y->RPt v sz i.toNat p->Sk a' n ((d,p)::L)->wpList P ops Q rest a' w):wpList P ops Q (⟨some d,.indexAddr t x iy,ty,pos,af,g⟩::rest) a w:=by
 obtain⟨Y,⟨rb,ib,r1,r2,r3⟩,hY,hN⟩:=H.g j hj;exact xSs ht qa F hc he hi r1 qc (λa' p bi h1 h2 hp F'=>k a' p (Bo.of h1) hp F')
theorem oS [hR:FrC 1 R] {y} {t E} {v p u} {l l'} {i} {z} (qa:∀ w,(sizeOf t).run P w= .ok 1 w) (F:Sk a n L) (hc:gok ops L g=true) (hx:ev L x=some p) (hy:ev L y=some u) (H:Sep X N w0 w (rw N1 1 R E v l::D)) (hp:RPt v 1 i p) (hi:i<l.length) (hz:Eo N1 w 1 R u z) (hone:u.oneCell'=true) (hl:l.set i z=l') (k:∀ w',Sep X N w0 w' (rw N1 1 R E v l'::D)->wpList P ops Q rest a w'):wpList P ops Q (⟨none,.store t x y,ty,pos,af,g⟩::rest) a w:=by
 obtain⟨Y,⟨rb,ib,r1,r2,r3⟩,hN,hY,tr⟩:=H.hd;obtain⟨bs,h1,h2⟩:=hz;subst hl;refine xFg qa F hc hx hy r1 hp hi h1 hone (λc hc qc=>(hY c (r2 c hc)).2 (hN c (h2 c qc))) (λw' ib' q o hs _=>k w' (tr (Z:=rb) r2 o (B:=rw N1 1 R E v (l.set i z)) (Y1:=Y) ⟨rb,ib',q,r2,λc hc=>?_⟩ hN (λc hc=>⟨.inl hc,Au (hY c hc).1 o.size⟩)))
 rcases hs c hc with h | h
 ·exact r3 c h
 ·exact .inr (h2 c h)
theorem oSc [hR:FrC 1 R] {y} {t E} {v p u} {l l'} {i} {z} (qc:∀ w,(sizeOf t).run P w= .ok 1 w)
 (F:Sk a n L) (hc:gok ops L g=true) (hx:ev L x=some p) (hy:ev L y=some u) (H:Sep X N w0 w (rw N1 1 R E v l::A::D)) (hp:RPt v 1 i p) (hi:i<l.length) (hA:∀ c,A.N c->N1 c) (hz:∀ {N':Nat->Prop},(∀ c,N1 c->N' c)->Rdg N' w A->Eo N' w 1 R u z) (hone:u.oneCell'=true) (hl:l.set i z=l')
 (k:∀ w',Sep X N w0 w' (rw N1 1 R E v l'::D)->wpList P ops Q rest a w'):wpList P ops Q (⟨none,.store t x y,ty,pos,af,g⟩::rest) a w:=by
 obtain⟨Y,⟨Y1,Y2,⟨rb,ib,r1,r2,r3⟩,hP,dj,y1,y2⟩,hN,hY,tr⟩:=H.mg.hd;have qa:∀ c,N1 c->N c:=λc hc=>hN c (.inl hc);obtain⟨bs,h1,h2⟩:=hz (N':=λc=>c∈Y2∨N1 c) (λc hc=>.inr hc) ⟨Y2,hP,λc hc=>.inl hc,λc hc=>.inr (hA c hc)⟩;subst hl;refine xFg qc F hc hx hy r1 hp hi h1 hone (λc hc qd=>?_) (λw' ib' q o hs _=>k w' (tr (Z:=rb) (λc hc=>y1 c (r2 c hc)) o (B:=rw N1 1 R E v (l.set i z)) (Y1:=Y) ⟨rb,ib',q,λc hc=>y1 c (r2 c hc),λc hc=>?_⟩ qa (λc hc=>⟨.inl hc,Au (hY c hc).1 o.size⟩)))
 ·rcases h2 c qd with h | h
  ·exact dj c (r2 c hc) h
  ·exact(hY c (y1 c (r2 c hc))).2 (qa c h)
 ·rcases hs c hc with h | h
  ·exact(r3 c h).imp (y1 c) id
  ·exact(h2 c h).imp (y2 c) id
theorem oT {sz} [hR:FrC sz R] {hi} {t E} {v} {l r} {j} (ht:P.underlying t=some (.slice E)) (qa:∀ w,(sizeOf E).run P w= .ok sz w) (F:Sk a n L) (hc:vR ops n L g d=true) (hx:ev L x=some v) (qc:ev L hi=some (.int .i64 j)) (H:Sep X N w0 w (rw N1 sz R E v l::D)) (hs:sl l 0 j=some r) (k:∀ a' v',Sep X N w0 w (rw N1 sz R E v' r::D)->Sk a' n ((d,v')::L)->wpList P ops Q rest a' w):wpList P ops Q (⟨some d,.slice t x none (some hi) none,ty,pos,af,g⟩::rest) a w:=by
 obtain⟨Y,⟨rb,ib,r1,r2,r3⟩,hN,hY,tr⟩:=H.hd;exact oCs ht qa F hc hx qc r1 hs (λa' v' ib' q hs F'=>k a' v' (tr (Z:=[]) (λ_ h=>nomatch h) (B5.refl _ _) (B:=rw N1 sz R E v' r) (Y1:=Y) ⟨rb,ib',q,r2,λc hc=>r3 c (hs.subset hc)⟩ hN (λc hc=>⟨.inl hc,(hY c hc).1⟩)) F')
theorem oSl {sz:Nat} [hR:FrC sz R] {y:Operand} {t E E2:Ty} {v p u:Vl} {xss l':List (List α)} {i:Nat} {l:List α} (qd:∀ w,(sizeOf t).run P w= .ok 1 w)
 (F:Sk a n L) (hc:gok ops L g=true) (hx:ev L x=some p) (hy:ev L y=some u) (H:Sep X N w0 w (rl 1 (zV sz R) E v xss::rl sz R E2 u l::D)) (hp:RPt v 1 i p) (hi:i<xss.length) (hl:xss.set i l=l')
 (k:∀ w',Sep X N w0 w' (rl 1 (zV sz R) E v l'::D)->wpList P ops Q rest a w'):wpList P ops Q (⟨none,.store t x y,ty,pos,af,g⟩::rest) a w:=by
 obtain⟨Y,⟨Y1,Y2,⟨rb,ib,r1,ro,r2,r3⟩,⟨rb2,ib2,s1,so,s2,s3⟩,dj,y1,y2⟩,hN,hY,tr⟩:=H.mg.hd;subst hl;have hm:∀ c,c∈rb2++ib2->c∈Y2:=λc hc=>(Aj.1 hc).elim (s2 c) (s3 c);have qa:=s1.own so
 have hone:u.oneCell'=true:=by obtain⟨ad,c,rfl,_⟩:=s1.val;rfl
 refine xFg qd F hc hx hy r1 hp hi (El.sl s1.rd) hone (λc hc qc=>dj c (r2 c hc) (hm c qc)) (λw' ib' q o hs hn=>k w' (tr (Z:=rb) (λc hc=>y1 c (r2 c hc)) o (B:=rl 1 (zV sz R) E v (xss.set i l)) (Y1:=Y) ⟨rb,ib',q,⟨hn ro.1 qa.1 (λc hc qc=>dj c (r3 c hc) (hm c qc)),λc hc=>?_⟩,λc hc=>y1 c (r2 c hc),λc hc=>(hs c hc).elim (λh=>y1 c (r3 c h)) (λh=>y2 c (hm c h))⟩ n0 (λc hc=>⟨.inl hc,Au (hY c hc).1 o.size⟩)))
 have hk:∀ c,c∈ib∨c∈rb2++ib2->c<w.heap.size/\c ∉ rb/\0<=c/\∃ cur e,w.heap[c]?=some (.cells cur e (0,0)):=λc hc=>by
  rcases hc with h | h
  ·exact⟨r1.mem c h,λh'=>r1.dj c h' h,ro.2 c h⟩
  ·exact⟨qa.inMem c h,λh'=>dj c (r2 c h') (hm c h),qa.2 c h⟩
 obtain⟨h1,h2,h3,h4⟩:=hk c (hs c hc);exact⟨h3,by rw[o.block c h1 h2];exact h4⟩
def Gv (Φ:Vl->Wd->Prop) (e:Ending) (w':Wd):Prop:=∃ v,e= .returned v/\Φ v w'
theorem oG {f xs at' vs Φ} (F:Sk a n L) (hc:vR ops n L g d=true) (hf:∀ args w,(callFunc f args).run P w= .ok (.enter f args) w) (e:evs L xs=some vs) (cl:Calls P f vs.toArray w (Gv Φ)) (k:∀ a' v w',Φ v w'->Sk a' n ((d,v)::L)->wpList P ops Q rest a' w'):wpList P ops Q (⟨some d,.call ⟨.value (.func f),xs.toArray,at'⟩,ty,pos,af,g⟩::rest) a w:= oAn (Φ:=Φ) F hc hf e cl (λe w' h=>h) k
theorem oGV {c f lb xs at' vs Φ} (F:Sk a n L) (hc:vR ops n L g d=true) (qa:ev L c=some (.func (.func f) #[] lb.toArray)) (hf:∀ args w,(callFunc f args).run P w= .ok (.enter f args) w) (e:evs L xs=some vs) (cl:Calls P f (vs++lb).toArray w (Gv Φ)) (k:∀ a' v w',Φ v w'->Sk a' n ((d,v)::L)->wpList P ops Q rest a' w'):wpList P ops Q (⟨some d,.call ⟨.value c,xs.toArray,at'⟩,ty,pos,af,g⟩::rest) a w:= oFu (Φ:=Φ) F hc qa hf e cl (λe w' h=>h) k
theorem xD {Q:Exit->Act->Wd->Prop} {id:Nat} {l:List Oper} (H:Sep X N w0 w D) (hm:P.follows .mixedOrders=true)
 (h:∀ w',Sep X N w0 w' D->zE P l.toArray (λa w=>Q .normal a w) (Sm N) l.length (Array.replicate l.length false) a w'):(Code.region id l.toArray true).wp P Q a w:=by
 refine wp_region_any hm ?_;have:=xDl (Q:=Q) (λ_ _ h=>h) _ _ _ _ (h w.drew H.drew);rw[<- Fc] at this;exact this
theorem Sep.k {X' D' w'} (H:Sep X N w0 w D) (H':Sep X' N w0 w' D'):Sm N w w':=⟨λc hc=>(H'.sm.blk c hc).trans (H.sm.blk c hc).symm⟩
theorem xE {Nn f listed} (H:Sep X N w0 w D) (i:Nat) {oi} (hi:ops[i]?=some oi) (hr:Region.ready .any ops listed=[i]) (h:wpList P ops (Exit.then (λa' w'=>(∃ D',Sep X N w0 w' D')/\zE P ops Nn (Sm N) f (listed.setIfInBounds i true) a' w') QF) [oi] a w):zE P ops Nn (Sm N) (f+1) listed a w:= b_e i hi hr (rP (λe a w q=>by
 cases e<;>first | exact q | (obtain⟨⟨D',H'⟩,q⟩:=q;exact⟨.inl (H.k H'),q⟩)) h)
theorem xEs {R:Act->Wd->Prop} {Fn:Prop} {l:List Oper} (H:Sep X N w0 w D) (h:wpList P ops (Exit.then (λa' w'=>(∃ D',Sep X N w0 w' D')/\R a' w') QF) l a w):wpList P ops (Exit.then (λa' w'=>(Sm N w w'∨Fn)/\R a' w') QF) l a w:= rP (λe a w q=>by
 cases e<;>first | exact q | (obtain⟨⟨D',H'⟩,q⟩:=q;exact⟨.inl (H.k H'),q⟩)) h
theorem wG {C K K'} (hK:∀ a,K a->K' a):∀ {l:List Oper} {a:Act},wpQuiet P ops C K l a->wpQuiet P ops C K' l a
 | [],a,h=>hK a h
 | o::r,a,h=>by
  unfold wpQuiet at h ⊢
  split
  ·rename_i hw
   rw[if_pos hw] at h;obtain⟨v,h1,h2⟩:=h;exact⟨v,h1,wG hK h2⟩
  ·rename_i hw
   rw[if_neg hw] at h;exact wG hK h
theorem xQ {Q id l} (H:Sep X N w0 w D) (hm:P.follows .mixedOrders=true) (qa:Region.lexB .any l.toArray=true) (h:wpQuiet P l.toArray (λw'=>Below w.heap.size w w') (λa'=>∀ w',Sep X N w0 w' D->Q .normal a' w') l a):(Code.region id l.toArray true).wp P Q a w:= oIu hm qa (wG (λa' h w' l=>h w' (H.go l)) h)
theorem xDa {Q:Exit->Act->World->Prop} {id:Nat} {l:List Oper} (H:Sep X N w0 w D) (h:∀ w',Sep X N w0 w' D->zE P l.toArray (λa w=>Q .normal a w) (Sm N) l.length (Array.replicate l.length false) a w') (hm:P.follows .mixedOrders=true:=by kernel_rfl):(Code.region id l.toArray true).wp P Q a w:=xD H hm h
theorem xEa {Nn:Act->World->Prop} {f:Nat} {listed:Array Bool} (H:Sep X N w0 w D) (i:Nat) {oi:Oper} (hi:ops[i]?=some oi) (h:wpList P ops (Exit.then (λa' w'=>(∃ D',Sep X N w0 w' D')/\zE P ops Nn (Sm N) f (listed.setIfInBounds i true) a' w') QF) [oi] a w) (hr:Region.ready .any ops listed=[i]:=by kernel_rfl):zE P ops Nn (Sm N) (f+1) listed a w:=xE H i hi hr h
theorem xQa {Q:Exit->Act->World->Prop} {id:Nat} {l:List Oper} (H:Sep X N w0 w D) (h:wpQuiet P l.toArray (λw'=>Below w.heap.size w w') (λa'=>∀ w',Sep X N w0 w' D->Q .normal a' w') l a) (hm:P.follows .mixedOrders=true:=by kernel_rfl) (qa:Region.lexB .any l.toArray=true:=by kernel_rfl):(Code.region id l.toArray true).wp P Q a w:=xQ H hm qa h
end
end
section
open Go.RowKit
variable {N:Nat->Prop} {v1:Vl} {T:Ty} {w0:Wd} {D:List As} {X:List Nat} {v2:Vl} {E1:Ty} {v0:Vl} {E0:Ty}
theorem c1I {w b x} (K:Bk N w b [.int .i64 x] T) (h:xM x):Bo N w (Pt 1 xF) (.pointer (some ⟨b,0,none⟩)) x:=⟨_,oHg K.1 h,λc hc=>by rw[Ay] at hc;subst hc;exact K.2⟩
theorem c1S {α:Type} {sz:Nat} {R:ER α} {w:Wd} {b:Nat} {v:Vl} {x:List α} (K:Bk N w b [v] T) (h:Bo N w (Sl sz R) v x):Bo N w (Pt 1 (zV sz R)) (.pointer (some ⟨b,0,none⟩)) x:=let ⟨_,h1,h2⟩:=h;⟨_,oIa K.1 h1,λc hc=>by
 rcases Av.1 hc with rfl | hc
 ·exact K.2
 ·exact h2 c hc⟩
theorem Bo.one {α:Type} {sz:Nat} {R:ER α} {w:Wd} {v:Vl} {x:List α} (h:Bo N w (Sl sz R) v x):v.oneCell'=true:=let ⟨_,h1,_⟩:=h;h1.r.one
theorem Bo.pone {α:Type} {sz:Nat} {R:ER α} {w:Wd} {v:Vl} {x:α} (h:Bo N w (Pt sz R) v x):v.oneCell'=true:=by
 obtain⟨_,⟨⟨b,o,bi,rfl,_⟩,_⟩,_⟩:=h
 rfl
theorem oR.o {w v x} (h:Bo N w (qR 2 oR) v x):∃ v1:Vl,v= .agg #[.int .i64 x.arity,v1]/\xM x.arity/\Bo N w (Sl 1 tX) v1 x.tuples:=by
 obtain⟨bs,h1,h2⟩:=h;obtain⟨v1,b1,e,k0,k1,eb⟩:=oR.rd h1;exact⟨v1,e,k0,⟨b1,k1,λc hc=>h2 c (by rw[eb];simp [hc])⟩⟩
theorem oR.m {w f0 f1} (h0:xM f0) (h1:Bo N w (Sl 1 tX) v1 f1):Bo N w (qR 2 oR) (.agg #[.int .i64 f0,v1]) (Rel.mk f0 f1):=by
 obtain⟨b1,k1,m1⟩:=h1;exact⟨_,oR.mk2 h0 k1,m1⟩
theorem oR.w {w f0 f1} (h0:xM f0) (H:Sep X N w0 w (rl 1 tX E1 v1 f1::D)):Sep X N w0 w (ow (V:=qR 2 oR) (.agg #[.int .i64 f0,v1]) (Rel.mk f0 f1)::D):= H.dt (λ{Y} hP hm=>by
 obtain⟨b1,c1,r1,o1,x1,y1⟩:=hP
 exact⟨_,oR.mk2 h0 r1.rd,(r1.own o1),(λc hc=>(Aj.1 hc).elim (x1 c) (y1 c))⟩)
theorem xC.o {w v x} (h:Bo N w (qR 2 xC) v x):∃ v1:Vl,v= .agg #[.int .i64 x.size,v1]/\xM x.size/\Bo N w (Sl 2 oR) v1 x.rels:=by
 obtain⟨bs,h1,h2⟩:=h;obtain⟨v1,b1,e,k0,k1,eb⟩:=xC.rd h1;exact⟨v1,e,k0,⟨b1,k1,λc hc=>h2 c (by rw[eb];simp [hc])⟩⟩
theorem xC.m {w f0 f1} (h0:xM f0) (h1:Bo N w (Sl 2 oR) v1 f1):Bo N w (qR 2 xC) (.agg #[.int .i64 f0,v1]) (A6.mk f0 f1):=by
 obtain⟨b1,k1,m1⟩:=h1;exact⟨_,xC.mk2 h0 k1,m1⟩
theorem xC.b {w b f0 f1} (K:Bk N w b [.int .i64 f0,v1] T) (h0:xM f0) (h1:Bo N w (Sl 2 oR) v1 f1):Bo N w (Pt 2 xC) (.pointer (some ⟨b,0,none⟩)) (A6.mk f0 f1):=by
 obtain⟨b1,k1,m1⟩:=h1;refine⟨_,xC.blk K.1 h0 k1,λc hc=>?_⟩
 rcases Av.1 hc with rfl | hc
 ·exact K.2
 ·exact(m1) c hc
theorem vX.o {w v x} (h:Bo N w (qR 2 vX) v x):∃ v1:Vl,v= .agg #[.int .i64 x.arity,v1]/\xM x.arity/\Bo N w (Sl 1 xF) v1 x.table:=by
 obtain⟨bs,h1,h2⟩:=h;obtain⟨v1,b1,e,k0,k1,eb⟩:=vX.rd h1;exact⟨v1,e,k0,⟨b1,k1,λc hc=>h2 c (by rw[eb];simp [hc])⟩⟩
theorem vX.m {w f0 f1} (h0:xM f0) (h1:Bo N w (Sl 1 xF) v1 f1):Bo N w (qR 2 vX) (.agg #[.int .i64 f0,v1]) (Op.mk f0 f1):=by
 obtain⟨b1,k1,m1⟩:=h1;exact⟨_,vX.mk2 h0 k1,m1⟩
theorem vX.b {w b f0 f1} (K:Bk N w b [.int .i64 f0,v1] T) (h0:xM f0) (h1:Bo N w (Sl 1 xF) v1 f1):Bo N w (Pt 2 vX) (.pointer (some ⟨b,0,none⟩)) (Op.mk f0 f1):=by
 obtain⟨b1,k1,m1⟩:=h1;refine⟨_,vX.blk K.1 h0 k1,λc hc=>?_⟩
 rcases Av.1 hc with rfl | hc
 ·exact K.2
 ·exact(m1) c hc
theorem vH.o {w v x} (h:Bo N w (qR 2 vH) v x):∃ v1:Vl,v= .agg #[.int .i64 x.rel,v1]/\xM x.rel/\Bo N w (Sl 1 xF) v1 x.scope:=by
 obtain⟨bs,h1,h2⟩:=h;obtain⟨v1,b1,e,k0,k1,eb⟩:=vH.rd h1;exact⟨v1,e,k0,⟨b1,k1,λc hc=>h2 c (by rw[eb];simp [hc])⟩⟩
theorem vH.m {w f0 f1} (h0:xM f0) (h1:Bo N w (Sl 1 xF) v1 f1):Bo N w (qR 2 vH) (.agg #[.int .i64 f0,v1]) (Con.mk f0 f1):=by
 obtain⟨b1,k1,m1⟩:=h1;exact⟨_,vH.mk2 h0 k1,m1⟩
theorem vH.b {w b f0 f1} (K:Bk N w b [.int .i64 f0,v1] T) (h0:xM f0) (h1:Bo N w (Sl 1 xF) v1 f1):Bo N w (Pt 2 vH) (.pointer (some ⟨b,0,none⟩)) (Con.mk f0 f1):=by
 obtain⟨b1,k1,m1⟩:=h1;refine⟨_,vH.blk K.1 h0 k1,λc hc=>?_⟩
 rcases Av.1 hc with rfl | hc
 ·exact K.2
 ·exact(m1) c hc
theorem vH.w {w:Wd} {f0:Int} {f1:List Int} (h0:xM f0) (H:Sep X N w0 w (rl 1 xF E1 v1 f1::D)):Sep X N w0 w (ow (V:=qR 2 vH) (.agg #[.int .i64 f0,v1]) (Con.mk f0 f1)::D):= H.dt (λ{Y} hP hm=>by
 obtain⟨b1,c1,r1,o1,x1,y1⟩:=hP
 exact⟨_,vH.mk2 h0 r1.rd,(r1.own o1),(λc hc=>(Aj.1 hc).elim (x1 c) (y1 c))⟩)
theorem xJ.o {w v x} (h:Bo N w (qR 2 xJ) v x):∃ v1:Vl,v= .agg #[.int .i64 x.vars,v1]/\xM x.vars/\Bo N w (Sl 2 vH) v1 x.cons:=by
 obtain⟨bs,h1,h2⟩:=h;obtain⟨v1,b1,e,k0,k1,eb⟩:=xJ.rd h1;exact⟨v1,e,k0,⟨b1,k1,λc hc=>h2 c (by rw[eb];simp [hc])⟩⟩
theorem xJ.m {w f0 f1} (h0:xM f0) (h1:Bo N w (Sl 2 vH) v1 f1):Bo N w (qR 2 xJ) (.agg #[.int .i64 f0,v1]) (A7.mk f0 f1):=by
 obtain⟨b1,k1,m1⟩:=h1;exact⟨_,xJ.mk2 h0 k1,m1⟩
theorem xJ.b {w b f0 f1} (K:Bk N w b [.int .i64 f0,v1] T) (h0:xM f0) (h1:Bo N w (Sl 2 vH) v1 f1):Bo N w (Pt 2 xJ) (.pointer (some ⟨b,0,none⟩)) (A7.mk f0 f1):=by
 obtain⟨b1,k1,m1⟩:=h1;refine⟨_,xJ.blk K.1 h0 k1,λc hc=>?_⟩
 rcases Av.1 hc with rfl | hc
 ·exact K.2
 ·exact(m1) c hc
theorem xJ.w {w:Wd} {f0:Int} {f1:List Con} (h0:xM f0) (H:Sep X N w0 w (rl 2 vH E1 v1 f1::D)):Sep X N w0 w (ow (V:=qR 2 xJ) (.agg #[.int .i64 f0,v1]) (A7.mk f0 f1)::D):= H.dt (λ{Y} hP hm=>by
 obtain⟨b1,c1,r1,o1,x1,y1⟩:=hP
 exact⟨_,xJ.mk2 h0 r1.rd,(r1.own o1),(λc hc=>(Aj.1 hc).elim (x1 c) (y1 c))⟩)
theorem xS.o {w:Wd} {v:Vl} {x:B1} (h:Bo N w (qR 3 xS) v x):v= .agg #[.int .i64 x.var,.int .i64 x.value,.int .i64 x.con]/\xM x.var/\xM x.value/\xM x.con:=by
 obtain⟨bs,h1,h2⟩:=h;obtain⟨e,k0,k1,k2,eb⟩:=xS.rd h1;exact⟨e,k0,k1,k2⟩
theorem xS.m {w f0 f1 f2}  (h0:xM f0) (h1:xM f1) (h2:xM f2):Bo N w (qR 3 xS) (.agg #[.int .i64 f0,.int .i64 f1,.int .i64 f2]) (B1.mk f0 f1 f2):=by
 exact⟨_,xS.mk2 h0 h1 h2,λc hc=>nomatch hc⟩
theorem xO.o {w v x} (h:Bo N w (qR 3 xO) v x):v= .agg #[.int .i64 x.i,.int .i64 x.j,.int .i64 x.through]/\xM x.i/\xM x.j/\xM x.through:=by
 obtain⟨bs,h1,h2⟩:=h;obtain⟨e,k0,k1,k2,eb⟩:=xO.rd h1;exact⟨e,k0,k1,k2⟩
theorem xO.m {w f0 f1 f2}  (h0:xM f0) (h1:xM f1) (h2:xM f2):Bo N w (qR 3 xO) (.agg #[.int .i64 f0,.int .i64 f1,.int .i64 f2]) (B0.mk f0 f1 f2):=by
 exact⟨_,xO.mk2 h0 h1 h2,λc hc=>nomatch hc⟩
theorem xO.b {w b f0 f1 f2}  (K:Bk N w b [.int .i64 f0,.int .i64 f1,.int .i64 f2] T) (h0:xM f0) (h1:xM f1) (h2:xM f2):Bo N w (Pt 3 xO) (.pointer (some ⟨b,0,none⟩)) (B0.mk f0 f1 f2):=by
 refine⟨_,xO.blk K.1 h0 h1 h2,λc hc=>?_⟩
 rcases Av.1 hc with rfl | hc
 ·exact K.2
 ·exact(λc hc=>nomatch hc) c hc
theorem oK.o {w:Wd} {v:Vl} {x:A9} (h:Bo N w (qR 5 oK) v x):∃ v1 v2 v3 v4:Vl,v= .agg #[.int .i64 x.kind,v1,v2,v3,v4]/\xM x.kind/\Bo N w (Sl 1 xF) v1 x.values/\Bo N w (Sl 3 xS) v2 x.arcs/\Bo N w (Sl 3 xO) v3 x.pairs/\Bo N w (Sl 1 xF) v4 x.numbers:=by
 obtain⟨bs,h1,h2⟩:=h;obtain⟨v1,v2,v3,v4,b1,b2,b3,b4,e,k0,k1,k2,k3,k4,eb⟩:=oK.rd h1;exact⟨v1,v2,v3,v4,e,k0,⟨b1,k1,λc hc=>h2 c (by rw[eb];simp [hc])⟩,⟨b2,k2,λc hc=>h2 c (by rw[eb];simp [hc])⟩,⟨b3,k3,λc hc=>h2 c (by rw[eb];simp [hc])⟩,⟨b4,k4,λc hc=>h2 c (by rw[eb];simp [hc])⟩⟩
theorem oK.m {w f0 f1 f2 f3 f4 v3 v4} (h0:xM f0) (h1:Bo N w (Sl 1 xF) v1 f1) (h2:Bo N w (Sl 3 xS) v2 f2) (h3:Bo N w (Sl 3 xO) v3 f3) (h4:Bo N w (Sl 1 xF) v4 f4):Bo N w (qR 5 oK) (.agg #[.int .i64 f0,v1,v2,v3,v4]) (A9.mk f0 f1 f2 f3 f4):=by
 obtain⟨b1,k1,m1⟩:=h1;obtain⟨b2,k2,m2⟩:=h2;obtain⟨b3,k3,m3⟩:=h3;obtain⟨b4,k4,m4⟩:=h4;exact⟨_,oK.mk2 h0 k1 k2 k3 k4,(λc hc=>(Aj.1 hc).elim ((λc hc=>(Aj.1 hc).elim ((λc hc=>(Aj.1 hc).elim (m1 c) (m2 c)) c) (m3 c)) c) (m4 c))⟩
theorem xL.o {w v x} (h:Bo N w (qR 2 xL) v x):∃ v0:Vl,v= .agg #[v0,.int .i64 x.right]/\Bo N w (Sl 1 xF) v0 x.left/\xM x.right:=by
 obtain⟨bs,h1,h2⟩:=h;obtain⟨v0,b0,e,k0,k1,eb⟩:=xL.rd h1;exact⟨v0,e,⟨b0,k0,λc hc=>h2 c (by rw[eb];simp [hc])⟩,k1⟩
theorem xL.m {w f0 f1} (h0:Bo N w (Sl 1 xF) v0 f0) (h1:xM f1):Bo N w (qR 2 xL) (.agg #[v0,.int .i64 f1]) (A8.mk f0 f1):=by
 obtain⟨b0,k0,m0⟩:=h0;exact⟨_,xL.mk2 k0 h1,m0⟩
theorem xL.b {w b f0 f1} (K:Bk N w b [v0,.int .i64 f1] T) (h0:Bo N w (Sl 1 xF) v0 f0) (h1:xM f1):Bo N w (Pt 2 xL) (.pointer (some ⟨b,0,none⟩)) (A8.mk f0 f1):=by
 obtain⟨b0,k0,m0⟩:=h0;refine⟨_,xL.blk K.1 k0 h1,λc hc=>?_⟩
 rcases Av.1 hc with rfl | hc
 ·exact K.2
 ·exact(m0) c hc
theorem xL.w {w f0 f1} (h1:xM f1) (H:Sep X N w0 w (rl 1 xF E0 v0 f0::D)):Sep X N w0 w (ow (V:=qR 2 xL) (.agg #[v0,.int .i64 f1]) (A8.mk f0 f1)::D):= H.dt (λ{Y} hP hm=>by
 obtain⟨b0,c0,r0,o0,x0,y0⟩:=hP
 exact⟨_,xL.mk2 r0.rd h1,(r0.own o0),(λc hc=>(Aj.1 hc).elim (x0 c) (y0 c))⟩)
theorem vT.o {w v x} (h:Bo N w (qR 4 vT) v x):∃ v1 v2:Vl,v= .agg #[.int .i64 x.template.size,v1,v2,.int .i64 x.clerks]/\xM x.template.size/\Bo N w (Sl 2 oR) v1 x.template.rels/\Bo N w (Sl 2 xJ) v2 x.jobs/\xM x.clerks:=by
 obtain⟨bs,h1,h2⟩:=h;obtain⟨v1,v2,b1,b2,e,k0,k1,k2,k3,eb⟩:=vT.rd h1;exact⟨v1,v2,e,k0,⟨b1,k1,λc hc=>h2 c (by rw[eb];simp [hc])⟩,⟨b2,k2,λc hc=>h2 c (by rw[eb];simp [hc])⟩,k3⟩
theorem vT.m {w f0 f1 f2 f3} (h0:xM f0) (h1:Bo N w (Sl 2 oR) v1 f1) (h2:Bo N w (Sl 2 xJ) v2 f2) (h3:xM f3):Bo N w (qR 4 vT) (.agg #[.int .i64 f0,v1,v2,.int .i64 f3]) (B6.mk (A6.mk f0 f1) f2 f3):=by
 obtain⟨b1,k1,m1⟩:=h1;obtain⟨b2,k2,m2⟩:=h2;exact⟨_,vT.mk2 h0 k1 k2 h3,(λc hc=>(Aj.1 hc).elim (m1 c) (m2 c))⟩
theorem vT.b {w b f0 f1 f2 f3} (K:Bk N w b [.int .i64 f0,v1,v2,.int .i64 f3] T) (h0:xM f0) (h1:Bo N w (Sl 2 oR) v1 f1) (h2:Bo N w (Sl 2 xJ) v2 f2) (h3:xM f3):Bo N w (Pt 4 vT) (.pointer (some ⟨b,0,none⟩)) (B6.mk (A6.mk f0 f1) f2 f3):=by
 obtain⟨b1,k1,m1⟩:=h1;obtain⟨b2,k2,m2⟩:=h2;refine⟨_,vT.blk K.1 h0 k1 k2 h3,λc hc=>?_⟩
 rcases Av.1 hc with rfl | hc
 ·exact K.2
 ·exact((λc hc=>(Aj.1 hc).elim (m1 c) (m2 c))) c hc
theorem kU.b {w b f0 f1 f2} (K:Bk N w b [.int .i64 f0,.int .i64 f1,v2] T) (h0:xM f0) (h1:xM f1) (h2:Bo N w (Sl 1 aF) v2 f2):Bo N w (Pt 3 kU) (.pointer (some ⟨b,0,none⟩)) (B7.mk f0 f1 f2):=by
 obtain⟨b2,k2,m2⟩:=h2;refine⟨_,kU.blk K.1 h0 h1 k2,λc hc=>?_⟩
 rcases Av.1 hc with rfl | hc
 ·exact K.2
 ·exact(m2) c hc
theorem oZ.o {w v x} (h:Bo N w (qR 3 oZ) v x):∃ v2:Vl,v= .agg #[.int .i64 x.prime,.int .i64 x.unknowns,v2]/\xM x.prime/\xM x.unknowns/\Bo N w (Sl 2 xL) v2 x.list:=by
 obtain⟨bs,h1,h2⟩:=h;obtain⟨v2,b2,e,k0,k1,k2,eb⟩:=oZ.rd h1;exact⟨v2,e,k0,k1,⟨b2,k2,λc hc=>h2 c (by rw[eb];simp [hc])⟩⟩
theorem oZ.m {w f0 f1 f2} (h0:xM f0) (h1:xM f1) (h2:Bo N w (Sl 2 xL) v2 f2):Bo N w (qR 3 oZ) (.agg #[.int .i64 f0,.int .i64 f1,v2]) (B3.mk f0 f1 f2):=by
 obtain⟨b2,k2,m2⟩:=h2;exact⟨_,oZ.mk2 h0 h1 k2,m2⟩
theorem oZ.b {w b f0 f1 f2} (K:Bk N w b [.int .i64 f0,.int .i64 f1,v2] T) (h0:xM f0) (h1:xM f1) (h2:Bo N w (Sl 2 xL) v2 f2):Bo N w (Pt 3 oZ) (.pointer (some ⟨b,0,none⟩)) (B3.mk f0 f1 f2):=by
 obtain⟨b2,k2,m2⟩:=h2;refine⟨_,oZ.blk K.1 h0 h1 k2,λc hc=>?_⟩
 rcases Av.1 hc with rfl | hc
 ·exact K.2
 ·exact(m2) c hc
theorem zU.o {w v x} (h:Bo N w (qR 2 zU) v x):∃ v0 v1:Vl,v= .agg #[v0,v1]/\Bo N w (Sl 1 xF) v0 x.numbers/\Bo N w (Sl 1 xF) v1 x.bys:=by
 obtain⟨bs,h1,h2⟩:=h;obtain⟨v0,v1,b0,b1,e,k0,k1,eb⟩:=zU.rd h1;exact⟨v0,v1,e,⟨b0,k0,λc hc=>h2 c (by rw[eb];simp [hc])⟩,⟨b1,k1,λc hc=>h2 c (by rw[eb];simp [hc])⟩⟩
theorem zU.m {w f0 f1} (h0:Bo N w (Sl 1 xF) v0 f0) (h1:Bo N w (Sl 1 xF) v1 f1):Bo N w (qR 2 zU) (.agg #[v0,v1]) (rowT.mk f0 f1):=by
 obtain⟨b0,k0,m0⟩:=h0;obtain⟨b1,k1,m1⟩:=h1;exact⟨_,zU.mk2 k0 k1,(λc hc=>(Aj.1 hc).elim (m0 c) (m1 c))⟩
theorem zU.w {w f0 f1}  (H:Sep X N w0 w (rl 1 xF E0 v0 f0::rl 1 xF E1 v1 f1::D)):Sep X N w0 w (ow (V:=qR 2 zU) (.agg #[v0,v1]) (rowT.mk f0 f1)::D):= H.mg.dt (λ{Y} hP hm=>by
 obtain⟨Y1a,Y1b,⟨b0,c0,r0,o0,x0,y0⟩,⟨b1,c1,r1,o1,x1,y1⟩,d1,z1a,z1b⟩:=hP
 exact⟨_,zU.mk2 r0.rd r1.rd,((r0.own o0).append (r1.own o1) (λc h1 h2=>d1 c ((λc hc=>(Aj.1 hc).elim (x0 c) (y0 c)) c h1) ((λc hc=>(Aj.1 hc).elim (x1 c) (y1 c)) c h2))),(λc hc=>(Aj.1 hc).elim (λh=>z1a c ((λc hc=>(Aj.1 hc).elim (x0 c) (y0 c)) c h)) (λh=>z1b c ((λc hc=>(Aj.1 hc).elim (x1 c) (y1 c)) c h)))⟩)
theorem qO.w {w f0 f1 f2 E2} (h1:xM f1) (H:Sep X N w0 w (rl 1 xF E0 v0 f0::rl 1 xF E2 v2 f2::D)):Sep X N w0 w (ow (V:=qR 3 qO) (.agg #[v0,.int .i64 f1,v2]) (B2.mk f0 f1 f2)::D):= H.mg.dt (λ{Y} hP hm=>by
 obtain⟨Y2a,Y2b,⟨b0,c0,r0,o0,x0,y0⟩,⟨b2,c2,r2,o2,x2,y2⟩,d2,z2a,z2b⟩:=hP
 exact⟨_,qO.mk2 r0.rd h1 r2.rd,((r0.own o0).append (r2.own o2) (λc h1 h2=>d2 c ((λc hc=>(Aj.1 hc).elim (x0 c) (y0 c)) c h1) ((λc hc=>(Aj.1 hc).elim (x2 c) (y2 c)) c h2))),(λc hc=>(Aj.1 hc).elim (λh=>z2a c ((λc hc=>(Aj.1 hc).elim (x0 c) (y0 c)) c h)) (λh=>z2b c ((λc hc=>(Aj.1 hc).elim (x2 c) (y2 c)) c h)))⟩)
theorem kL.o {w v x} (h:Bo N w (qR 2 kL) v x):∃ v1:Vl,v= .agg #[.int .i64 x.rel,v1]/\xM x.rel/\Bo N w (Sl 1 xF) v1 x.cells:=by
 obtain⟨bs,h1,h2⟩:=h;obtain⟨v1,b1,e,k0,k1,eb⟩:=kL.rd h1;exact⟨v1,e,k0,⟨b1,k1,λc hc=>h2 c (by rw[eb];simp [hc])⟩⟩
theorem kL.w {w f0 f1} (h0:xM f0) (H:Sep X N w0 w (rl 1 xF E1 v1 f1::D)):Sep X N w0 w (ow (V:=qR 2 kL) (.agg #[.int .i64 f0,v1]) (lookT.mk f0 f1)::D):= H.dt (λ{Y} hP hm=>by
 obtain⟨b1,c1,r1,o1,x1,y1⟩:=hP
 exact⟨_,kL.mk2 h0 r1.rd,(r1.own o1),(λc hc=>(Aj.1 hc).elim (x1 c) (y1 c))⟩)
theorem vG.w {w f0 f1} (h0:xM f0) (H:Sep X N w0 w (rl 1 xF E1 v1 f1::D)):Sep X N w0 w (ow (V:=qR 2 vG) (.agg #[.int .i64 f0,v1]) (B4.mk f0 f1)::D):= H.dt (λ{Y} hP hm=>by
 obtain⟨b1,c1,r1,o1,x1,y1⟩:=hP
 exact⟨_,vG.mk2 h0 r1.rd,(r1.own o1),(λc hc=>(Aj.1 hc).elim (x1 c) (y1 c))⟩)
end
section
open Go.RowKit
variable {x:Operand} {α:Type} {R:ER α} {y:α}
theorem Sep.q {X N w0 w D} (H:Sep X N w0 w D):∀ w',Below w.heap.size w w'->Sm N w0 w':=λ_ l=>(H.go l).sm
theorem Sep.v {X N w0 w D} (H:Sep X N w0 w D):∀ w',Sm N w w'->Sm N w0 w':=λ_ s=>H.sm.trans s
theorem Sep.qb {X N w0 w D b cs T} (H:Sep X N w0 w D) (i:Nat) (hi:D[i]?=some (bx b cs T)):∀ w',Below w.heap.size w w'->lG w' b cs.toArray T:=λ_ l=>(H.go l).b i hi
theorem Bk.v {N w1 w b cs T} (h:Bk N w1 b cs T) (s:Sm N w1 w):∀ w',Sm N w w'->lG w' b cs.toArray T:=λ_ l=>((s.trans l).blk b h.2).trans h.1
theorem Bk.o {N w1 w b cs T} (h:Bk N w1 b cs T) (s:Sm N w1 w):lG w b cs.toArray T:=(s.blk b h.2).trans h.1
theorem Bo.w {V:VR α} [VF V] {w w':Wd} {v:Vl} {x:α} (h:Bo (All w) w V v x) (l:Below w.heap.size w w'):Bo (All w') w' V v x:=(h.to (Sm.all l)).all
theorem aA {w}:∀ c,All w c->c<w.heap.size:=λ_ h=>h
section
variable {P:Program} {ops:Array Oper} {C:Wd->Prop} {K:Act->Prop} {a:Act} {w w0 w1:Wd} {n:Nat} {L:List (Nat×Vl)} {rest:List Oper} {d:Nat} {ty:Ty} {pos:String} {af:Array Edge} {g:Option (Nat×Bool)} {M N:Nat->Prop} {X:List Nat} {D:List As}
theorem qI {sz iy t v l e i} (ht:P.underlying t=some (.slice e)) (qa:∀ w,(sizeOf e).run P w= .ok sz w)
 (F:Sk a n L) (hc:vR ops n L g d=true) (he:ev L x=some v) (hi:ev L iy=some (.int .i64 i)) (h:Bo M w1 (Sl sz R) v l) (qc:ix l i=some y)
 (k:∀ a' p,Bo M w1 (Pt sz R) p y->Sk a' n ((d,p)::L)->wpQuiet P ops C K rest a'):wpQuiet P ops C K (⟨some d,.indexAddr t x iy,ty,pos,af,g⟩::rest) a:=
 let ⟨p,hr,hp⟩:=xQi ht qa F he hi h qc;nE F hc (λw' _=>hr w') (λa' F'=>k a' p hp F')
theorem qF {β:Type} {sz s':Nat} {R':ER β} {t:Ty} {kk:Nat} {p:Vl} {z:β} {off:Nat} (hp:∀ (a:Addr) w,(Instr.fieldAt t (.pointer (some a)) kk).run P w= .ok (.pointer (some (a.add off))) w)
 (F:Sk a n L) (hc:vR ops n L g d=true) (he:ev L x=some p) (h:Bo M w1 (Pt sz R) p y) (hf:∀ f bi,R w1 f y bi->∃ bj,R' w1 (λj=>f (off+j)) z bj/\∀ c∈bj,c∈bi)
 (k:∀ a' p',Bo M w1 (Pt s' R') p' z->Sk a' n ((d,p')::L)->wpQuiet P ops C K rest a'):wpQuiet P ops C K (⟨some d,.fieldAddr t x kk,ty,pos,af,g⟩::rest) a:=
 let ⟨p',hr,h'⟩:=xQt (s':=s') hp F he h hf;nE F hc (λw' _=>hr w') (λa' F'=>k a' p' h' F')
theorem qlI {t p y} (qa:∀ w,(isAgg t).run P w= .ok false w) (F:Sk a n L) (hc:vR ops n L g d=true) (he:ev L x=some p) (s:∀ w',C w'->Sm M w1 w') (h:Bo M w1 (Pt 1 xF) p y)
 (k:∀ a',xM y->Sk a' n ((d,.int .i64 y)::L)->wpQuiet P ops C K rest a'):wpQuiet P ops C K (⟨some d,.load t x,ty,pos,af,g⟩::rest) a:=
 let ⟨i,hr⟩:=oAd qa F he h;nE F hc (λw' l=>hr w' (s w' l)) (λa' F'=>k a' i F')
theorem qlB {t p y} (qa:∀ w,(isAgg t).run P w= .ok false w) (F:Sk a n L) (hc:vR ops n L g d=true) (he:ev L x=some p) (s:∀ w',C w'->Sm M w1 w') (h:Bo M w1 (Pt 1 aF) p y) (k:∀ a',Sk a' n ((d,.bool y)::L)->wpQuiet P ops C K rest a'):wpQuiet P ops C K (⟨some d,.load t x,ty,pos,af,g⟩::rest) a:=nE F hc (λw' l=>xTx qa F he h w' (s w' l)) k
theorem qlS {sz t p y} (qa:∀ w,(isAgg t).run P w= .ok false w) (F:Sk a n L) (hc:vR ops n L g d=true) (he:ev L x=some p) (s:∀ w',C w'->Sm M w1 w') (h:Bo M w1 (Pt 1 (zV sz R)) p y)
 (k:∀ a' v,Bo M w1 (Sl sz R) v y->Sk a' n ((d,v)::L)->wpQuiet P ops C K rest a'):wpQuiet P ops C K (⟨some d,.load t x,ty,pos,af,g⟩::rest) a:=
 let ⟨v,hv,hr⟩:=oIb qa F he h;nE F hc (λw' l=>hr w' (s w' l)) (λa' F'=>k a' v hv F')
theorem qlA {sz} [hR:FrC sz R] {t} {p} (qa:∀ w,(isAgg t).run P w= .ok true w) (qc:∀ w,(sizeOf t).run P w= .ok sz w) (F:Sk a n L) (hc:vR ops n L g d=true) (he:ev L x=some p) (s:∀ w',C w'->Sm M w1 w') (h:Bo M w1 (Pt sz R) p y)
 (k:∀ a' v,Bo M w1 (qR sz R) v y->Sk a' n ((d,v)::L)->wpQuiet P ops C K rest a'):wpQuiet P ops C K (⟨some d,.load t x,ty,pos,af,g⟩::rest) a:=
 let ⟨v,hv,hr⟩:=oBw qa qc F he h;nE F hc (λw' l=>hr w' (s w' l)) (λa' F'=>k a' v hv F')
theorem qL {sz t v l e} (ht:P.underlying t=some (.slice e)) (F:Sk a n L) (hc:vR ops n L g d=true) (he:ev L x=some v) (h:Bo M w1 (Sl sz R) v l) (k:∀ a',xM (l.length:Int)->Sk a' n ((d,.int .i64 l.length)::L)->wpQuiet P ops C K rest a'):wpQuiet P ops C K (⟨some d,.call ⟨.builtin .len,#[x],#[t]⟩,ty,pos,af,g⟩::rest) a:=nE F hc (λw' _=>oBn ht F he h w') (λa' F'=>k a' h.slen F')
theorem qN {sz p} (F:Sk a n L) (hc:vR ops n L g d=true) (e:ev L x=some p) (h:Bo M w1 (Pt sz R) p y)
 (k:∀ a',Sk a' n ((d,p)::L)->wpQuiet P ops C K rest a'):wpQuiet P ops C K (⟨some d,.nilCheck x,ty,pos,af,g⟩::rest) a:=
 have hr:=oBl (d:=some d) (ty:=ty) (pos:=pos) (af:=af) (g:=g) F e h;nE F hc (λw' _=>hr w') k
theorem qB {t:Ty} {b o:Nat} {v:Vl} {cs:List Vl} {T:Ty} (qa:∀ w,(isAgg t).run P w= .ok false w) (F:Sk a n L) (hc:vR ops n L g d=true) (he:ev L x=some (.pointer (some ⟨b,o,none⟩))) (h:∀ w',C w'->lG w' b cs.toArray T) (hv:cs[o]?=some v) (k:∀ a',Sk a' n ((d,v)::L)->wpQuiet P ops C K rest a'):wpQuiet P ops C K (⟨some d,.load t x,ty,pos,af,g⟩::rest) a:=nE F hc (λw' l=>nW qa F he (((h w' l).cell o).trans (vV hv))) k
theorem qBA {t:Ty} {b o sz:Nat} {cs vs:List Vl} {T:Ty} (qa:∀ w,(isAgg t).run P w= .ok true w) (qc:∀ w,(sizeOf t).run P w= .ok sz w) (F:Sk a n L) (hc:vR ops n L g d=true) (he:ev L x=some (.pointer (some ⟨b,o,none⟩))) (h:∀ w',C w'->lG w' b cs.toArray T) (hv:(cs.drop o).take sz=vs) (hl:vs.length=sz) (k:∀ a',Sk a' n ((d,.agg vs.toArray)::L)->wpQuiet P ops C K rest a'):wpQuiet P ops C K (⟨some d,.load t x,ty,pos,af,g⟩::rest) a:= nE F hc (λw' l=>xSc qa qc F he (h w' l) hl (λj hj=>by subst hv;simp [Bf,hj])) k
end
section
variable {P:Program} {ops:Array Oper} {C:Wd->Prop} {K:Act->Prop} {a:Act} {w w0 w1:Wd} {n:Nat} {L:List (Nat×Vl)} {rest:List Oper} {d:Nat} {ty:Ty} {pos:String} {af:Array Edge} {g:Option (Nat×Bool)} {M N:Nat->Prop} {X:List Nat} {D:List As}
theorem vI {sz iy t v l e i} (ht:P.underlying t=some (.slice e)) (qa:∀ w,(sizeOf e).run P w= .ok sz w)
 (F:Sk a n L) (hc:vR ops n L g d=true) (he:ev L x=some v) (hi:ev L iy=some (.int .i64 i)) (h:Bo M w1 (Sl sz R) v l) (qc:ix l i=some y)
 (k:∀ a' p,Bo M w1 (Pt sz R) p y->Sk a' n ((d,p)::L)->K a'):wpV P ops C K ⟨some d,.indexAddr t x iy,ty,pos,af,g⟩ a:=
 let ⟨p,hr,hp⟩:=xQi ht qa F he hi h qc;fV F hc (λw' _=>hr w') (λa' F'=>k a' p hp F')
theorem vF {β:Type} {sz s':Nat} {R':ER β} {t:Ty} {kk:Nat} {p:Vl} {z:β} {off:Nat} (hp:∀ (a:Addr) w,(Instr.fieldAt t (.pointer (some a)) kk).run P w= .ok (.pointer (some (a.add off))) w)
 (F:Sk a n L) (hc:vR ops n L g d=true) (he:ev L x=some p) (h:Bo M w1 (Pt sz R) p y) (hf:∀ f bi,R w1 f y bi->∃ bj,R' w1 (λj=>f (off+j)) z bj/\∀ c∈bj,c∈bi)
 (k:∀ a' p',Bo M w1 (Pt s' R') p' z->Sk a' n ((d,p')::L)->K a'):wpV P ops C K ⟨some d,.fieldAddr t x kk,ty,pos,af,g⟩ a:=
 let ⟨p',hr,h'⟩:=xQt (s':=s') hp F he h hf;fV F hc (λw' _=>hr w') (λa' F'=>k a' p' h' F')
theorem vlI {t p y} (qa:∀ w,(isAgg t).run P w= .ok false w) (F:Sk a n L) (hc:vR ops n L g d=true) (he:ev L x=some p) (s:∀ w',C w'->Sm M w1 w') (h:Bo M w1 (Pt 1 xF) p y)
 (k:∀ a',xM y->Sk a' n ((d,.int .i64 y)::L)->K a'):wpV P ops C K ⟨some d,.load t x,ty,pos,af,g⟩ a:=
 let ⟨i,hr⟩:=oAd qa F he h;fV F hc (λw' l=>hr w' (s w' l)) (λa' F'=>k a' i F')
theorem vlB {t p y} (qa:∀ w,(isAgg t).run P w= .ok false w) (F:Sk a n L) (hc:vR ops n L g d=true) (he:ev L x=some p) (s:∀ w',C w'->Sm M w1 w') (h:Bo M w1 (Pt 1 aF) p y) (k:∀ a',Sk a' n ((d,.bool y)::L)->K a'):wpV P ops C K ⟨some d,.load t x,ty,pos,af,g⟩ a:=fV F hc (λw' l=>xTx qa F he h w' (s w' l)) k
theorem vlS {sz t p y} (qa:∀ w,(isAgg t).run P w= .ok false w) (F:Sk a n L) (hc:vR ops n L g d=true) (he:ev L x=some p) (s:∀ w',C w'->Sm M w1 w') (h:Bo M w1 (Pt 1 (zV sz R)) p y)
 (k:∀ a' v,Bo M w1 (Sl sz R) v y->Sk a' n ((d,v)::L)->K a'):wpV P ops C K ⟨some d,.load t x,ty,pos,af,g⟩ a:=
 let ⟨v,hv,hr⟩:=oIb qa F he h;fV F hc (λw' l=>hr w' (s w' l)) (λa' F'=>k a' v hv F')
theorem vlP {sz t p} (qa:∀ w,(isAgg t).run P w= .ok false w) (F:Sk a n L) (hc:vR ops n L g d=true) (he:ev L x=some p) (s:∀ w',C w'->Sm M w1 w') (h:Bo M w1 (Pt 1 (RP sz R)) p y)
 (k:∀ a' v,Bo M w1 (Pt sz R) v y->Sk a' n ((d,v)::L)->K a'):wpV P ops C K ⟨some d,.load t x,ty,pos,af,g⟩ a:=
 let ⟨v,hv,hr⟩:=oKq qa F he h;fV F hc (λw' l=>hr w' (s w' l)) (λa' F'=>k a' v hv F')
theorem vlA {sz} [hR:FrC sz R] {t} {p} (qa:∀ w,(isAgg t).run P w= .ok true w) (qc:∀ w,(sizeOf t).run P w= .ok sz w) (F:Sk a n L) (hc:vR ops n L g d=true) (he:ev L x=some p) (s:∀ w',C w'->Sm M w1 w') (h:Bo M w1 (Pt sz R) p y)
 (k:∀ a' v,Bo M w1 (qR sz R) v y->Sk a' n ((d,v)::L)->K a'):wpV P ops C K ⟨some d,.load t x,ty,pos,af,g⟩ a:=
 let ⟨v,hv,hr⟩:=oBw qa qc F he h;fV F hc (λw' l=>hr w' (s w' l)) (λa' F'=>k a' v hv F')
theorem vL {sz t v l e} (ht:P.underlying t=some (.slice e)) (F:Sk a n L) (hc:vR ops n L g d=true) (he:ev L x=some v) (h:Bo M w1 (Sl sz R) v l) (k:∀ a',xM (l.length:Int)->Sk a' n ((d,.int .i64 l.length)::L)->K a'):wpV P ops C K ⟨some d,.call ⟨.builtin .len,#[x],#[t]⟩,ty,pos,af,g⟩ a:=fV F hc (λw' _=>oBn ht F he h w') (λa' F'=>k a' h.slen F')
theorem vC {sz} [hR:FrC sz R] {t e} {v} {l r} {i j} {lo hi} (ht:P.underlying t=some (.slice e)) (qa:∀ w,(sizeOf e).run P w= .ok sz w) (F:Sk a n L) (hc:vR ops n L g d=true) (he:ev L x=some v)
 (qc:match lo with | some y=>ev L y=some (.int .i64 i) | none=>i=0) (qd:match hi with | some y=>ev L y=some (.int .i64 j) | none=>j=l.length) (h:Bo M w1 (Sl sz R) v l) (hs:sl l i j=some r)
 (k:∀ a' v',Bo M w1 (Sl sz R) v' r->Sk a' n ((d,v')::L)->K a'):wpV P ops C K ⟨some d,.slice t x lo hi none,ty,pos,af,g⟩ a:=
 let ⟨v',hv,hr⟩:=oGq ht qa F he qc qd h hs;fV F hc (λw' _=>hr w') (λa' F'=>k a' v' hv F')
theorem vN {sz p} (F:Sk a n L) (hc:vR ops n L g d=true) (e:ev L x=some p) (h:Bo M w1 (Pt sz R) p y)
 (k:∀ a',Sk a' n ((d,p)::L)->K a'):wpV P ops C K ⟨some d,.nilCheck x,ty,pos,af,g⟩ a:=
 have hr:=oBl (d:=some d) (ty:=ty) (pos:=pos) (af:=af) (g:=g) F e h;fV F hc (λw' _=>hr w') k
theorem vB {t:Ty} {b o:Nat} {v:Vl} {cs:List Vl} {T:Ty} (qa:∀ w,(isAgg t).run P w= .ok false w) (F:Sk a n L) (hc:vR ops n L g d=true) (he:ev L x=some (.pointer (some ⟨b,o,none⟩))) (h:∀ w',C w'->lG w' b cs.toArray T) (hv:cs[o]?=some v) (k:∀ a',Sk a' n ((d,v)::L)->K a'):wpV P ops C K ⟨some d,.load t x,ty,pos,af,g⟩ a:=fV F hc (λw' l=>nW qa F he (((h w' l).cell o).trans (vV hv))) k
theorem vBA {t:Ty} {b o sz:Nat} {cs vs:List Vl} {T:Ty} (qa:∀ w,(isAgg t).run P w= .ok true w) (qc:∀ w,(sizeOf t).run P w= .ok sz w) (F:Sk a n L) (hc:vR ops n L g d=true) (he:ev L x=some (.pointer (some ⟨b,o,none⟩))) (h:∀ w',C w'->lG w' b cs.toArray T) (hv:(cs.drop o).take sz=vs) (hl:vs.length=sz) (k:∀ a',Sk a' n ((d,.agg vs.toArray)::L)->K a'):wpV P ops C K ⟨some d,.load t x,ty,pos,af,g⟩ a:= fV F hc (λw' l=>xSc qa qc F he (h w' l) hl (λj hj=>by subst hv;simp [Bf,hj])) k
end
end
section
open Go.RowKit
variable {z:Int} {x:Operand}
def nn (x:Int):Option Int:=if 0<=x then some x else none
theorem wD {x} (h:nn x=some z):0<=x/\z=x:=by
 unfold nn at h
 split at h
 ·exact⟨by assumption,(Option.some.inj h).symm⟩
 ·cases h
theorem oGd {x} (h:0<=x):nn x=some x:=if_pos h
theorem xYx (h:xM z) (h0:0<=z):xM (z / 2):=by
 have h1:z<=9223372036854775807:=h.2
 show -9223372036854775808<=z / 2/\z / 2<=9223372036854775807
 omega
section
variable {X:List Nat} {N M:Nat->Prop} {w0 w w':Wd} {L:List As}
theorem Bk.to {N w1 w b cs T} (h:Bk N w1 b cs T) (s:Sm N w1 w):Bk N w b cs T:=⟨(s.blk b h.2).trans h.1,h.2⟩
def BkV (b:Nat) (cs:List Vl) (T:Ty):VR Unit:=λw _ _ bs=>lG w b cs.toArray T/\bs=[b]
instance {b:Nat} {cs:List Vl} {T:Ty}:VF (BkV b cs T):=⟨λh hs=>⟨(hs b (by rw[h.2];simp)).trans h.1,h.2⟩⟩
theorem Bk.lf {M N u w b cs T} (h:Bk M u b cs T) (e:Lf M u N w):Bk N w b cs T:=by
 obtain⟨bs,⟨⟨h1,rfl⟩,_⟩,h2⟩:=e (V:=BkV b cs T) (v:=.bool true) (x:=()) ⟨[b],⟨⟨h.1,rfl⟩,λc hc=>by rw[Ay] at hc;subst hc;exact h.1.lt⟩,λc hc=>by rw[Ay] at hc;subst hc;exact h.2⟩;exact⟨h1,h2 b vK⟩
theorem Sep.rob {α:Type} {V:VR α} [hV:VF V] {v:Vl} {x:α} (H:Sep X N w0 w L) (h:Bo N w0 V v x):Sep X N w0 w (Go.Proofs.YtomlfdagbmgmgaaGreat.ro N (V:=V) v x::L):=by
 obtain⟨bs,h1,h2⟩:=H.u h;exact H.push (Below.refl _ _) (A:=Go.Proofs.YtomlfdagbmgmgaaGreat.ro N (V:=V) v x) (Y0:=[]) ⟨bs,h1,λc hc=>.inr (h2 c hc)⟩ n1 (λ_ h=>nomatch h)
theorem Sep.rwo {α:Type} {sz:Nat} {R:ER α} [hR:FrC sz R] {E:Ty} {v:Vl} {l:List α} (H:Sep X N w0 w (rw M sz R E v l::L)):Sep X N w0 w (Go.Proofs.YtomlfdagbmgmgaaGreat.ro M (V:=Sl sz R) v l::L):=by
 obtain⟨Y,⟨rb,ib,r1,r2,r3⟩,hN,hY,tr⟩:=H.hd;exact tr (Z:=[]) (λ_ h=>nomatch h) (B5.refl _ _) (B:=Go.Proofs.YtomlfdagbmgmgaaGreat.ro M (V:=Sl sz R) v l) (Y1:=Y) ⟨rb++ib,r1.rd,λc hc=>(Aj.1 hc).elim (λh=>.inl (r2 c h)) (r3 c)⟩ hN (λc hc=>⟨.inl hc,(hY c hc).1⟩)
theorem Sep.rok {α:Type} {V:VR α} [hV:VF V] {v:Vl} {x:α} (H:Sep X N w0 w (Go.Proofs.YtomlfdagbmgmgaaGreat.ro M (V:=V) v x::L)):Sep X N w0 w (Go.Proofs.YtomlfdagbmgmgaaGreat.ro N (V:=V) v x::L):=by
 obtain⟨Y,⟨bs,h1,h2⟩,hN,hY,tr⟩:=H.hd;exact tr (Z:=[]) (λ_ h=>nomatch h) (B5.refl _ _) (B:=Go.Proofs.YtomlfdagbmgmgaaGreat.ro N (V:=V) v x) (Y1:=Y) ⟨bs,h1,λc hc=>(h2 c hc).imp id (hN c)⟩ n1 (λc hc=>⟨.inl hc,(hY c hc).1⟩)
end
section
variable {P:Program} {ops:Array Oper} {Q:Exit->Act->Wd->Prop} {a:Act} {w w0 w1:Wd} {n:Nat} {L:List (Nat×Vl)} {rest:List Oper} {d:Nat} {ty:Ty} {pos:String} {af:Array Edge} {g:Option (Nat×Bool)} {M M' N:Nat->Prop} {X:List Nat} {D:List As}
theorem oEn {α:Type} {sz:Nat} {R:ER α} {y:Operand} {t t':Ty} {v:Vl} {l:List α} {e0:Ty} (ht:P.underlying t=some (.slice e0)) (F:Sk a n L) (hc:vR ops n L g d=true) (e:ev L x=some v) (e':ev L y=some (.slice none 0 0)) (h:Bo M w (Sl sz R) v l)
 (k:∀ a' (b:Bool),(b=true->l=[])->Sk a' n ((d,.bool b)::L)->wpList P ops Q rest a' w):wpList P ops Q (⟨some d,.binOp .eql t x y t',ty,pos,af,g⟩::rest) a w:=
 let ⟨_,h1,_⟩:=h;xWc ht F hc e e' h1 k
theorem oU1 {t t' i ut} (hs:P.underlying t=some ut) (ht:P.underlying t'=some (.int .u64)) (F:Sk a n L) (hc:vR ops n L g d=true) (e:ev L x=some (.int .i64 i)) (hi:xM i) (hz:nn i=some z)
 (k:∀ a',Sk a' n ((d,.int .u64 z)::L)->wpList P ops Q rest a' w):wpList P ops Q (⟨some d,.convert t t' x,ty,pos,af,g⟩::rest) a w:=by
 obtain⟨h0,rfl⟩:=wD hz;have h1:z<=9223372036854775807:=hi.2
 have hw:IntKind.u64.wrap z=z:=by
  unfold IntKind.wrap
  simp only[show IntKind.u64.bits=64 from rfl,show IntKind.u64.signed=false from rfl];rw[Int.emod_eq_of_lt h0 xG]
  simp
 refine zT F hc ?_ k
 unfold execOp
 simp [F.ev e,convert,run_underlying hs,run_underlying ht,Conv.intToInt,hw]
theorem oU2 {t t'} (F:Sk a n L) (hc:vR ops n L g d=true) (e:ev L x=some (.int .u64 z))
 (k:∀ a',Sk a' n ((d,.int .u64 (z / 2))::L)->wpList P ops Q rest a' w):wpList P ops Q (⟨some d,.binOp .shr t x (.const (.int .u64 1)) t',ty,pos,af,g⟩::rest) a w:=by
 refine zT F hc ?_ k
 unfold execOp
 simp only[F.ev e];have:=shift_shr_u64 .u64 z 1 kS kS;simp only[show(2:Int) ^ (1:Int).toNat=2 from rfl] at this;have h2:a.eval (.const (.int .u64 1))= .int .u64 1:=rfl;rw[h2]
 simp [eqGuard,binOp,this]
theorem oU3 {t t' ut} (hs:P.underlying t=some ut) (ht:P.underlying t'=some (.int .i64)) (F:Sk a n L) (hc:vR ops n L g d=true) (e:ev L x=some (.int .u64 z)) (hi:xM z) (k:∀ a',Sk a' n ((d,.int .i64 z)::L)->wpList P ops Q rest a' w):wpList P ops Q (⟨some d,.convert t t' x,ty,pos,af,g⟩::rest) a w:=by
 refine zT F hc ?_ k
 unfold execOp
 simp [F.ev e,convert,run_underlying hs,run_underlying ht,Conv.intToInt,IntWalk.i64_in _ hi]
end
section
variable {X:List Nat} {N:Nat->Prop} {w0 w:Wd} {L:List As} {β:Type} {f:β->As} {h:∀ b c,¬ (f b).N c}
end
end
section
open Go.RowKit
variable {c:Code} {cc:Operand} {r1:ResultVar}
inductive Tl (α β:Type):Type 1
  | ex {γ:Type} (f:γ->Tl α β)
  | fa (p:Prop) (i:Tl α β)
  | st (x:α) (y:β)
def Tl.all {α β:Type} (K:α->β->Prop):Tl α β->Prop | .ex f=>∀ b,(f b).all K | .fa p i=>p->i.all K | .st x y=>K x y
def Tl.any {α β:Type} (K:α->β->Prop):Tl α β->Prop | .ex f=>∃ b,(f b).any K | .fa p i=>p/\i.any K | .st x y=>K x y
abbrev Tl.v {α β:Type} (f:Vl->Tl α β):Tl α β:=.ex f
abbrev Tl.n {α β:Type} (f:Nat->Tl α β):Tl α β:=.ex f
theorem Tl.any.go {α β:Type} {K K':α->β->Prop} {G:Prop}:∀ {i:Tl α β},i.any K->i.all K'->(∀ x y,K x y->K' x y->G)->G | .ex _,⟨b,h⟩,k,f=>Tl.any.go h (k b) f | .fa _ _,⟨p,h⟩,k,f=>Tl.any.go h (k p) f | .st x y,h,k,f=>f x y h k
theorem Tl.any.map {α β K K'}:∀ {i:Tl α β},i.any K->(∀ x y,K x y->K' x y)->i.any K' | .ex _,⟨b,h⟩,f=>⟨b,Tl.any.map h f⟩ | .fa _ _,⟨p,h⟩,f=>⟨p,Tl.any.map h f⟩ | .st x y,h,f=>f x y h
theorem Tl.any.some {α β K}:∀ {i:Tl α β},i.any K->∃ x y,K x y | .ex _,⟨_,h⟩=>Tl.any.some h | .fa _ _,⟨_,h⟩=>Tl.any.some h | .st x y,h=>⟨x,y,h⟩
theorem Tl.all.and {α β K K'}:∀ {i:Tl α β},i.all K->i.all K'->i.all (λx y=>K x y/\K' x y) | .ex _,h,k=>λb=>Tl.all.and (h b) (k b) | .fa _ _,h,k=>λp=>Tl.all.and (h p) (k p) | .st _ _,h,k=>⟨h,k⟩
structure J {ρ:Type} (n:Nat) (X:List Nat) (N:Nat->Prop) (w0:Wd) (L:List (Nat×Vl)) (D:List As) (t:Option ρ) (C:ρ->Prop) (G:Act->Wd->Prop):Prop where
  h:∀ a w,Sk a n L->Sep X N w0 w D->∀ x,t=some x->C x->G a w
def Gt (M:Nat->Prop) (w:Wd) (X:List Nat) (i:Tl Vl (List As->List As)) (e:Ending) (w':Wd):Prop:= i.any λv f=>e= .returned v/\Sep X M w w' (f [])/\∀ D,f D=f []++D
def Cq {ρ:Type} (I:ρ->Tl Vl (List As->List As)) (M:Nat->Prop) (w:Wd) (X:List Nat) (R:Ending->Wd->Prop) (x:ρ):Prop:=∀ e w',Gt M w X (I x) e w'->R e w'
def Th {σ ρ:Type} (next:σ->Option ρ) (C:ρ->Prop) (o:Out σ ρ):Prop:=∃ y,oHs next y o/\C y
def Lx {σ ρ:Type} (next:σ->Option (Out σ ρ)) (C:Out σ ρ->Prop) (c:Ctl σ ρ):Prop:=∃ y,Nxt next y c/\C y
def Lp {σ τ:Type} (next:σ->Option τ) (C:τ->Prop) (n:Nat) (X:List Nat) (N:Nat->Prop) (w0:Wd) (I:σ->Tl (List (Nat×Vl)) (List As)) (a:Act) (w:Wd):Prop:= ∃ s,(∃ y,next s=some y/\C y)/\(I s).any λS D=>Sk a n S/\Sep X N w0 w D
def Rs (P:Program) (n:Nat) (X:List Nat) (N:Nat->Prop) (w0:Wd) (L:List (Nat×Vl)) (D:List As) (r:ResultVar) (v:Vl):Prop:=∀ a w,Sk a n L->Sep X N w0 w D->(xAq a.tmps r).run P w= .ok v w
def Lv (v v1:Vl) (f:List As->List As) (D:List As):Prop:=v=v1/\∀ E,f E=D++E
theorem lv {v f D} (h:∀ E,f E=D++E:=by intro;rfl):Lv v v f D:=⟨rfl,h⟩
def Ls (L S:List (Nat×Vl)) (D E:List As):Prop:=D=E/\sub L S
theorem ls {L S D} (h:sub L S:=by repeat (first | exact sn | refine sc rfl ?_)):Ls L S D D:=⟨rfl,h⟩
section
variable {P:Program} {ops:Array Oper} {Q Q':Exit->Act->Wd->Prop} {fn:Func} {n:Nat} {X:List Nat} {N M:Nat->Prop} {w0 w:Wd} {L L':List (Nat×Vl)} {D D':List As} {ρ σ τ α:Type} {t:Option ρ} {C:ρ->Prop} {G G' K:Act->Wd->Prop} {R:Ending->Wd->Prop} {l l':List Oper} {rest:List Oper} {d:Nat} {ty:Ty} {pos:String} {af:Array Edge} {g:Option (Nat×Bool)}
theorem jin {f vs I} (hf:P.funcs[f]?=some fn) (L:List (Nat×Vl)) (H:Sep X N w w D) (k:∀ r,J n X N w L D t (Cq I N w X (Gt N w X (I r))) (c.wp P (bodyPost P fn (Gt N w X (I r))))) (hb:fn.body=some c:=by rfl) (hn:fn.ntmps=n:=by rfl) (hl:Nat.ble vs.length n=true:=by rfl) (hL:sub (((List.range vs.length).zip vs)) L:=by repeat (first | exact sn | refine sc rfl ?_)):∀ r,t=some r->Calls P f vs.toArray w (Gt N w X (I r)):=λr hR=>xQh hf hb hn hl hL (λa F=>(k r).h a w F H r hR (λ_ _ h=>h))
theorem jiN {f vs I} (hf:P.funcs[f]?=some fn) (L:List (Nat×Vl)) (hN:HN N w) (k:∀ r,J n [] N w L [] t (Cq I N w [] (Gt N w [] (I r))) (c.wp P (bodyPost P fn (Gt N w [] (I r))))) (hb:fn.body=some c:=by rfl) (hn:fn.ntmps=n:=by rfl) (hl:Nat.ble vs.length n=true:=by rfl) (hL:sub (((List.range vs.length).zip vs)) L:=by repeat (first | exact sn | refine sc rfl ?_)):∀ r,t=some r->Calls P f vs.toArray w (Gt N w [] (I r)):=jin hf L (Sep.start hN) k hb hn hl hL
abbrev sB (r:Bool):Tl Vl (List As->List As):=.st (.bool r) λD=>D
abbrev sI (r:Int):Tl Vl (List As->List As):=.fa (xM r) <| .st (.int .i64 r) λD=>D
theorem jB {e:Option α} {f:α->Option ρ} (k:∀ z,e=some z->J n X N w0 L D (f z) C G):J n X N w0 L D (xH e f) C G:=⟨λa w F H x h1 h2=>
 let ⟨z,h3,h4⟩:=bP h1;(k z h3).h a w F H x h4 h2⟩
theorem jbs {b t1 t2} (h1:b=true->J n X N w0 L D t1 C G) (h2:b=false->J n X N w0 L D t2 C G):J n X N w0 L D (if b then t1 else t2) C G:=⟨λa w F H x h3 h4=>by
 cases b with
 | true=>exact(h1 rfl).h a w F H x (vV h3) h4
 | false=>exact(h2 rfl).h a w F H x (vV h3) h4⟩
theorem jeq (i:Nat) {b c} (hb:b=c) (h:J n X N w0 ((i,.bool c)::L) D t C G) (e:sC L i=some (.bool b):=by rfl):J n X N w0 L D t C G:=⟨λa w F=>h.h a w (F.eq e (congrArg Value.bool hb))⟩
theorem dZ (i:Nat) {b} {t1 t2} (h1:b=true->J n X N w0 ((i,.bool true)::L) D t1 C G) (h2:b=false->J n X N w0 ((i,.bool false)::L) D t2 C G) (e:sC L i=some (.bool b):=by rfl):J n X N w0 L D (if b then t1 else t2) C G:= jbs (λh=>jeq i h (h1 h) e) (λh=>jeq i h (h2 h) e)
theorem jbk {next:σ->Option (Out σ ρ)} {C:Out σ ρ->Prop} {s:σ} (h:J n X N w0 L D (some (Out.nx s)) C G):J n X N w0 L D (some (Ctl.brk s)) (Lx next C) G:=⟨λa w F H x h1 ⟨y,h2,h3⟩=>h.h a w F H y (by cases h1;exact h2 ▸ rfl) h3⟩
theorem dB {next:σ->Option (Out σ ρ)} {C:Out σ ρ->Prop} {v:ρ} (h:J n X N w0 L D (some (Out.ret (σ:=σ) v)) C G):J n X N w0 L D (some (Ctl.ret v)) (Lx next C) G:=⟨λa w F H x h1 ⟨y,h2,h3⟩=>h.h a w F H y (by cases h1;exact h2 ▸ rfl) h3⟩
theorem cV {next:σ->Option ρ} {v:ρ} (h:J n X N w0 L D (some v) C G):J n X N w0 L D (some (Out.ret v)) (Th next C) G:=⟨λa w F H x h1 ⟨y,h2,h3⟩=>h.h a w F H y (by cases h1;exact congrArg some h2) h3⟩
theorem jif {b x y t1 t2} (ht:b=true->J n X N w0 L D t1 C (x.wp P Q)) (hf:b=false->J n X N w0 L D t2 C (y.wp P Q)) (e:ev L cc=some (.bool b):=by rfl):J n X N w0 L D (if b then t1 else t2) C ((Code.cond cc x y).wp P Q):=⟨λa w F H r h1 h2=>by
 cases b with
 | true=>exact oCe F e ((ht rfl).h a w F H r (vV h1) h2)
 | false=>exact oAs F e ((hf rfl).h a w F H r (vV h1) h2)⟩
theorem xW {cc b x y t1 t2} (ht:J n X N w0 L D t1 C (x.wp P Q)) (hf:J n X N w0 L D t2 C (y.wp P Q)) (e:ev L cc=some (.bool b):=by rfl):J n X N w0 L D (if b then t1 else t2) C ((Code.cond cc x y).wp P Q):=jif (λ_=>ht) (λ_=>hf) e
theorem kA {b x y} (hb:b=true) (h:J n X N w0 L D t C (x.wp P Q)) (e:ev L cc=some (.bool b):=by rfl):J n X N w0 L D t C ((Code.cond cc x y).wp P Q):=⟨λa w F H r h1 h2=>oGi F e hb (h.h a w F H r h1 h2)⟩
theorem zX {b x y} (hb:b=false) (h:J n X N w0 L D t C (y.wp P Q)) (e:ev L cc=some (.bool b):=by rfl):J n X N w0 L D t C ((Code.cond cc x y).wp P Q):=⟨λa w F H r h1 h2=>xUz F e hb (h.h a w F H r h1 h2)⟩
theorem vA {t1:Option (Out σ ρ)} {next:σ->Option ρ} (I:σ->Tl (List (Nat×Vl)) (List As)) (h:J n X N w0 L D t1 (Th next C) (c.wp P (Exit.then (Lp next C n X N w0 I) Q))) (k:∀ s,(I s).all λS E=>J n X N w0 S E (next s) C (Q .normal)):J n X N w0 L D (qD t1 next) C (c.wp P Q):=⟨λa w F H y h1 h2=>by
 obtain⟨o,ho,hk⟩:=xLp h1
 exact oJp (Lp next C n X N w0 I) (h.h a w F H o ho ⟨y,hk,h2⟩) (λa w ⟨s,⟨y,e,hc⟩,hi⟩=>hi.go (k s) (λS E qa hJ=>hJ.h a w qa.1 qa.2 y e hc))⟩
theorem Lp.mk {next:σ->Option τ} {C:τ->Prop} {I:σ->Tl (List (Nat×Vl)) (List As)} {a:Act} {w:Wd} {s:σ} {y:τ} (F:Sk a n L) (H:Sep X N w0 w D) (e:next s=some y) (hc:C y) (h:(I s).any λS E=>Ls L S E D):Lp next C n X N w0 I a w:= ⟨s,⟨y,e,hc⟩,h.map (λS E h=>⟨F.sub h.2,h.1 ▸ H⟩)⟩
theorem jf {s:σ} {next:σ->Option ρ} {I:σ->Tl (List (Nat×Vl)) (List As)} (h:(I s).any λS E=>Ls L S E D):J n X N w0 L D (some (.nx s)) (Th next C) (Lp next C n X N w0 I):=⟨λa w F H o h1 ⟨y,h2,h3⟩=>Lp.mk F H (by cases h1;exact h2) h3 h⟩
theorem jg {s:σ} {next:σ->Option (Out σ ρ)} {C:Out σ ρ->Prop} {I:σ->Tl (List (Nat×Vl)) (List As)} (h:(I s).any λS E=>Ls L S E D):J n X N w0 L D (some (.go s)) (Lx next C) (Lp next C n X N w0 I):=⟨λa w F H o h1 ⟨y,h2,h3⟩=>Lp.mk F H (by cases h1;exact h2) h3 h⟩
theorem jl {body:Nat->α->σ->Option (Ctl σ ρ)} {l:List α} {s0:σ} {C:Out σ ρ->Prop} (I:Nat->σ->Tl (List (Nat×Vl)) (List As)) (h0:(I 0 s0).any λS E=>Ls L S E D) (hn:∀ (k:Nat) s K,(k:Int)=l.length->(I k s).all λS E=>J n X N w0 S E (some (.nx s)) C (c.wp P (Exit.then K Q))) (hc:∀ (k:Nat) x s,k<l.length->ix l (k:Int)=some x->(I k s).all λS E=>J n X N w0 S E (body k x s) (Lx (oM body (l.drop (k+1)) (k+1)) C) (c.wp P (Exit.then (Lp (oM body (l.drop (k+1)) (k+1)) C n X N w0 (I (k+1))) Q))):J n X N w0 L D (oM body l 0 s0) C ((Code.loop c).wp P Q):=⟨λa w F H y h1 h2=>by
 refine xQp (λg a w=>∃ k,k+g=l.length/\Lp (oM body (l.drop k) k) C n X N w0 (I k) a w) l.length ⟨0,Bn _,Lp.mk F H (vV h1) h2 h0⟩ ?_
 rintro g a w ⟨k,hk,s,⟨y,e,hC⟩,hi⟩
 cases g with
 | zero=>
  have hd:l.drop k=[]:=Cv xG;rw[hd] at e;exact hi.go (hn k s _ xG) (λS E qa hJ=>hJ.h a w qa.1 qa.2 y e hC)
 | succ g=>
  have qc:k<l.length:=xG;rw[Bt qc] at e;obtain⟨c1,e1,e2⟩:=xWz e;refine Code.wp_mono (λex a w q=>?_) (hi.go (hc k l[k] s qc (oIi (Aa qc))) (λS E qa hJ=>hJ.h a w qa.1 qa.2 c1 e1 ⟨y,e2,hC⟩))
  cases ex with
  | normal=>exact⟨g,Nat.lt_succ_self _,k+1,xG,q⟩
  | _=>exact q⟩
theorem jc {body:Nat->σ->Option (Ctl σ ρ)} {m:Nat} {s0:σ} {C:Out σ ρ->Prop} (I:Nat->σ->Tl (List (Nat×Vl)) (List As)) (h0:(I 0 s0).any λS E=>Ls L S E D) (hn:∀ k s K,k+0=m->(I k s).all λS E=>J n X N w0 S E (some (.nx s)) C (c.wp P (Exit.then K Q))) (hc:∀ g k s,k+(g+1)=m->(I k s).all λS E=>J n X N w0 S E (body k s) (Lx (qU body g (k+1)) C) (c.wp P (Exit.then (Lp (qU body g (k+1)) C n X N w0 (I (k+1))) Q))):J n X N w0 L D (qU body m 0 s0) C ((Code.loop c).wp P Q):=⟨λa w F H y h1 h2=>by
 refine xQp (λg a w=>∃ k,k+g=m/\Lp (qU body g k) C n X N w0 (I k) a w) m ⟨0,Bn _,Lp.mk F H h1 h2 h0⟩ ?_
 rintro g a w ⟨k,hk,s,⟨y,e,hC⟩,hi⟩
 cases g with
 | zero=>exact hi.go (hn k s _ hk) (λS E qa hJ=>hJ.h a w qa.1 qa.2 y e hC)
 | succ g=>
  obtain⟨c1,e1,e2⟩:=xXq e;refine Code.wp_mono (λex a w q=>?_) (hi.go (hc g k s hk) (λS E qa hJ=>hJ.h a w qa.1 qa.2 c1 e1 ⟨y,e2,hC⟩))
  cases ex with
  | normal=>exact⟨g,Nat.lt_succ_self _,k+1,xG,q⟩
  | _=>exact q⟩
theorem jw {body:σ->Option (Ctl σ ρ)} {m:Nat} {s0:σ} {C:Out σ ρ->Prop} (I:σ->Tl (List (Nat×Vl)) (List As)) (h0:(I s0).any λS E=>Ls L S E D) (hc:∀ g s,(I s).all λS E=>J n X N w0 S E (body s) (Lx (lF body g) C) (c.wp P (Exit.then (Lp (lF body g) C n X N w0 I) Q))):J n X N w0 L D (lF body m s0) C ((Code.loop c).wp P Q):=⟨λa w F H y h1 h2=>by
 refine xQp (λg a w=>Lp (lF body g) C n X N w0 I a w) m (Lp.mk F H h1 h2 h0) ?_
 rintro g a w ⟨s,⟨y,e,hC⟩,hi⟩
 obtain⟨c1,m',rfl,e1,e2⟩:=xXh e;refine Code.wp_mono (λex a w q=>?_) (hi.go (hc m' s) (λS E qa hJ=>hJ.h a w qa.1 qa.2 c1 e1 ⟨y,e2,hC⟩))
 cases ex with
 | normal=>exact⟨m',Nat.lt_succ_self _,q⟩
 | _=>exact q⟩
theorem rt {i v} (e:sC L i=some v):Rs P n X N w0 L D (.tmp i) v:=λ_ _ F _=>oMd F e
theorem j0 {e:ρ} {I:ρ->Tl Vl (List As->List As)} (h:(I e).any λv f=>Lv v (.tuple #[]) f D) (hr:fn.results = #[]:=by rfl):J n X N w0 L D (some e) (Cq I N w0 X R) (bodyPost P fn R .ret):=⟨λa w F H x hx hc=>by
 cases hx
 exact bodyPost_ret (results_none hr _ _ _) F.d (hc _ _ (h.map (λv f h=>⟨congrArg _ h.1.symm,by rw[h.2,Ch];exact H,λE=>by rw[h.2,h.2,Ch]⟩)))⟩
theorem j1 {e:ρ} {I:ρ->Tl Vl (List As->List As)} {v1:Vl} (h1:Rs P n X N w0 L D r1 v1) (h:(I e).any λv f=>Lv v v1 f D) (hr:fn.results = #[r1]:=by rfl):J n X N w0 L D (some e) (Cq I N w0 X R) (bodyPost P fn R .ret):=⟨λa w F H x hx hc=>by
 cases hx
 exact xPw F hr (h1 a w F H) (hc _ _ (h.map (λv f h=>⟨congrArg _ h.1.symm,by rw[h.2,Ch];exact H,λE=>by rw[h.2,h.2,Ch]⟩)))⟩
theorem j2 {e:ρ} {I:ρ->Tl Vl (List As->List As)} {r2:ResultVar} {v1 v2:Vl} (h1:Rs P n X N w0 L D r1 v1) (h2:Rs P n X N w0 L D r2 v2) (h:(I e).any λv f=>Lv v (.tuple #[v1,v2]) f D) (hr:fn.results = #[r1,r2]:=by rfl):J n X N w0 L D (some e) (Cq I N w0 X R) (bodyPost P fn R .ret):=⟨λa w F H x hx hc=>by
 cases hx
 exact xYw F hr (h1 a w F H) (h2 a w F H) (hc _ _ (h.map (λv f h=>⟨congrArg _ h.1.symm,by rw[h.2,Ch];exact H,λE=>by rw[h.2,h.2,Ch]⟩)))⟩
theorem j3 {e:ρ} {I:ρ->Tl Vl (List As->List As)} {r2 r3:ResultVar} {v1 v2 v3:Vl} (h1:Rs P n X N w0 L D r1 v1) (h2:Rs P n X N w0 L D r2 v2) (h3:Rs P n X N w0 L D r3 v3) (h:(I e).any λv f=>Lv v (.tuple #[v1,v2,v3]) f D) (hr:fn.results = #[r1,r2,r3]:=by rfl):J n X N w0 L D (some e) (Cq I N w0 X R) (bodyPost P fn R .ret):=⟨λa w F H x hx hc=>by
 cases hx
 exact xZb F hr (h1 a w F H) (h2 a w F H) (h3 a w F H) (hc _ _ (h.map (λv f h=>⟨congrArg _ h.1.symm,by rw[h.2,Ch];exact H,λE=>by rw[h.2,h.2,Ch]⟩)))⟩
theorem jh {X' N' w1} (f:∀ {w},Sep X N w0 w D->Sep X' N' w1 w D') (h:J n X' N' w1 L D' t C G):J n X N w0 L D t C G:=⟨λa w F H=>h.h a w F (f H)⟩
theorem js (is:List Nat) (e:fH D is=some D') (h:J n X N w0 L D' t C G) (hn:xMp is=true:=by rfl):J n X N w0 L D t C G:=⟨λa w F H=>h.h a w F (H.s is e hn)⟩
theorem jA (k:Nat) (e:mX ops n k L l=some (L',l')) (h:J n X N w0 L' D t C (wpList P ops Q l')):J n X N w0 L D t C (wpList P ops Q l):=⟨λa w F H x h1 h2=>xXk k F e (λa F=>h.h a w F H x h1 h2)⟩
theorem jo (e:mX ops n 1 L l=some (L',l')) (h:J n X N w0 L' D t C (wpList P ops Q l')):J n X N w0 L D t C (wpList P ops Q l):=jA 1 e h
end
end
end Go.Proofs.YtomlfdagbmgmgaaGreat
