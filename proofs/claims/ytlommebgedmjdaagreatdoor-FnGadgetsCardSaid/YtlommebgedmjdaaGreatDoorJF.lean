import Derived.Test.YtlommebgedmjdaaGreatDoorT
import Derived.ProofKit
import Derived.OpenShut
import Derived.Deep.Slices
import Derived.Deep.Fields
import Derived.Test.YtlommebgedmjdaaGreatDoorRows
namespace Go.Proofs.YtlommebgedmjdaaGreatDoor
set_option linter.unusedVariables false
set_option linter.unusedSimpArgs false
open Go.ChangeShapes Go.WideShapes Go.ChangeAt Go.RowKit Go.Deep
def xLi {α:Type} (P:Program) (e:TypeId) (sz:Nat) (R:ER α):Prop:=
  ∀ (H:Type) (enc:TypeId×Value→H) (W:World) (fuel:Nat) (cs:List Value) (y:DataW H×List MemPlace),
    DataW.trod enc P W 0 (fun _=>true) true fuel e cs=some y→cs.length=sz∧∃ x bs,R W (fun j=>cs[j]?) x bs∧qM bs W
theorem xLc {α:Type} [Inhabited α] {P:Program} {t e:TypeId} {sz:Nat} {R:ER α} (ht:P.underlying t=some (.slice e)) (hc:P.cellsOf e=sz) (h0:0<sz) (hR:Fr sz R) (h:xLi P e sz R):xLi P t 1 (fG sz R):=by
  intro H enc W fuel cs y hy
  rcases Deep.open_slice ht hy with ⟨rfl,rfl⟩ | ⟨a,len,cap,m,n,D,Pl,rfl,_,hlc,hcm,hm,rfl,hx⟩
  · exact⟨rfl,[],[],⟨_,rfl,none,0,rfl,Nat.le_refl _,by unfold maxLen;omega,fun _=>rfl,.inl ⟨rfl,rfl⟩⟩,fun _ h=>by cases h⟩
  · refine⟨rfl,?_⟩
    have hlm:len≤m:=by rw[hm];simp;exact hlc
    have hel:∀ i,i<len→∃ z:α×List Nat,R W (fun j=>W.cell? ((a.add (i*sz)).add j)) z.1 z.2∧qM z.2 W:=by
      intro i hi;obtain⟨cs',h1,h2⟩:=hx i (by omega);rw[hc] at h1;obtain⟨_,hl,hcell⟩:=World.cells?_some h1;obtain⟨_,x,bs,hr,hb⟩:=h H enc W n cs' _ h2;exact⟨(x,bs),hR _ _ _ _ _ _ hr (fun _ _=>rfl) (fun j hj=>hcell j hj),hb⟩
    obtain⟨Z,hZ⟩:=Deep.choose_lt (α:=α×List Nat) (p:=fun i z=>R W (fun j=>W.cell? ((a.add (i*sz)).add j)) z.1 z.2∧qM z.2 W) hel
    by_cases hlen:len=0
    · subst hlen
      exact⟨[],[],⟨_,rfl,some a,cap,rfl,hlc,hcm,(fun h=>nomatch h),.inl ⟨rfl,rfl⟩⟩,fun _ h=>by cases h⟩
    ·
      obtain⟨cs',h1,_⟩:=hx 0 (by omega);rw[hc] at h1;obtain⟨_,hl,hcell⟩:=World.cells?_some h1;have hc0:=hcell 0 h0;rw[List.getElem?_eq_getElem (by omega)] at hc0
      have hadd:(a.add (0*sz)).add 0=a:=by simp [Addr.add]
      rw[hadd] at hc0
      have hspot:a.spot=none:=by
        unfold World.cell? at hc0
        split at hc0
        · split at hc0
          · cases hc0
          · rename_i hs
            simpa using hs
        · cases hc0
      have hblk:a.block<W.heap.size:=World.block_lt_of_cell? W a hc0;obtain⟨b,o,sp⟩:=a;simp only at hspot hblk;subst hspot
      have hadd2:∀ i j,((⟨b,o,none⟩:Addr).add i).add j=⟨b,o+i+j,none⟩:=fun i j=>by
        unfold Addr.add
        by_cases hi:i=0<;>by_cases hj:j=0<;>simp [hi,hj]
      refine⟨(List.range len).map fun i=>(Z i).1,b::((List.range len).map fun i=>(Z i).2).flatten,⟨_,rfl,some ⟨b,o,none⟩,cap,by simp,by simpa using hlc,hcm,(fun h=>nomatch h),.inr ⟨b,o,_,rfl,rfl,by simp,fun i x bi hx hi=>?_⟩⟩,fun c hcm=>?_⟩
      · have hil:i<len:=by
          have:=(List.getElem?_eq_some_iff.1 hx).1
          simpa using this
        simp only[List.getElem?_map,List.getElem?_range hil,Option.map_some] at hx hi
        cases hx
        cases hi
        have h2:=(hZ i hil).1;simp only[hadd2] at h2;exact h2
      · rcases List.mem_cons.1 hcm with rfl | hcm
        · exact hblk
        · obtain⟨l,hl',hcl⟩:=List.mem_flatten.1 hcm
          obtain⟨i,hi,rfl⟩:=List.mem_map.1 hl';exact(hZ i (List.mem_range.1 hi)).2 c hcl
theorem xPc {α:Type} {P:Program} {t:TypeId} {sz:Nat} {R:ER α} {r:Reach} {b0:Nat} {e:TypeId} (ht:P.underlying t=some (.slice e)) (h:xLi P t 1 (fG sz R)) {H:Type} {enc:TypeId×Value→H} {W:World} {v:Value} {d:DataW H} {p:List MemPlace}
    (hv:Value.okWide P W r b0 t v) (hd:DataW.Trod enc P W 0 (fun _=>true) true t v d p):∃ x bs,Sl sz R W v x bs∧qM bs W:=by
  obtain⟨a,n,c,rfl⟩:=okWide_slice ht hv;obtain⟨fuel,hf⟩:=hd;obtain⟨_,x,bs,⟨v,h0,hs⟩,hm⟩:=h H enc W fuel _ _ hf
  simp [Value.cells] at h0
  exact⟨x,bs,h0 ▸ hs,hm⟩
end Go.Proofs.YtlommebgedmjdaaGreatDoor
namespace Go.Proofs.YtlommebgedmjdaaGreatDoor
set_option linter.unusedVariables false
set_option linter.unusedSimpArgs false
open Go.ChangeShapes Go.WideShapes Go.ChangeAt Go.RowKit Go.Deep
theorem Tryz.laidOut:laidOutB Tryz.prog=true:=by kernel_rfl
end Go.Proofs.YtlommebgedmjdaaGreatDoor
namespace Go.Proofs.YtlommebgedmjdaaGreatDoor
end Go.Proofs.YtlommebgedmjdaaGreatDoor
