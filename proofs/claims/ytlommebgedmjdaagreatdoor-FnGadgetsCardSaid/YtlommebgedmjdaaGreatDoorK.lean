import Derived.Test.YtlommebgedmjdaaGreatDoorJ
import Derived.StillTail
namespace Go.Proofs.YtlommebgedmjdaaGreatDoor
set_option linter.unusedVariables false
set_option linter.unusedSimpArgs false
open Go.RowKit
def QF:Exit→Act→World→Prop:=fun _ _ _=>False
def sE (ops:Array Oper) (j u:Nat):Bool:=match ops[j]? with | some o=>o.after.any (fun e=>Region.binds .any e && e.on==u) | none=>false
def anc (ops:Array Oper):Nat→Nat→Nat→Bool
  | 0,j,u=>sE ops j u
  | f+1,j,u=>sE ops j u || (List.range ops.size).any fun k=>sE ops j k && anc ops f k u
def cOp (ops:Array Oper) (u:Nat):Bool:=match ops[u]? with | some o=>(match o.op with | .move _=>true | .assign _=>true | .binOp ..=>true | .unOp ..=>true | .extract ..=>true | _=>false) | none=>false
def xMf (ops:Array Oper) (j:Nat):Bool:=(List.range ops.size).all fun u=>u==j || anc ops 10 j u || sE ops u j || cOp ops u
def Clo (ops:Array Oper) (listed:Array Bool):Prop:=∀ j k,listed.getD j false=true→sE ops j k=true→listed.getD k false=true
def xTs (ops:Array Oper) (listed:Array Bool):Bool:=(List.range listed.size).all fun j=>!(listed.getD j false) || (match ops[j]? with | some o=>o.after.all (fun e=>!Region.binds .any e || listed.getD e.on false) | none=>true)
theorem xLq {ops:Array Oper} {listed:Array Bool} (h:xTs ops listed=true):Clo ops listed:=by
  intro j k hj hw
  unfold xTs at h
  have hlt:j<listed.size:=by
    rcases Nat.lt_or_ge j listed.size with h' | h'
    · exact h'
    · simp [Array.getElem?_eq_none h'] at hj
  have h1:=List.all_eq_true.1 h j (List.mem_range.2 hlt);rw[hj] at h1
  unfold sE at hw
  cases ho:ops[j]? with
  | none=>rw[ho] at hw;cases hw
  | some o=>
    rw[ho] at hw h1;simp only[Bool.not_true,Bool.false_or] at h1 hw;obtain⟨e,he,hb⟩:=Array.any_eq_true'.1 hw;simp only[Bool.and_eq_true,beq_iff_eq] at hb;have h2:=(Array.all_eq_true'.1 h1) e he;rw[hb.1,hb.2] at h2
    simpa using h2
theorem xFd {ops:Array Oper} {listed:Array Bool} (hc:Clo ops listed):∀ (f j u:Nat),listed.getD j false=true→anc ops f j u=true→listed.getD u false=true
  | 0,j,u,hj,h=>hc j u hj h
  | f+1,j,u,hj,h=>by
    unfold anc at h
    rcases Bool.or_eq_true_iff.1 h with h | h
    · exact hc j u hj h
    · obtain⟨k,_,hk⟩:=List.any_eq_true.1 h
      rw[Bool.and_eq_true] at hk;exact xFd hc f k u (hc j k hj hk.1) hk.2
theorem xDd {listed:Array Bool} {j k:Nat} (h:listed.getD k false=true):(listed.setIfInBounds j true).getD k false=true:=by
  rcases Nat.lt_or_ge k listed.size with h' | h'
  · simp only[Array.getD_eq_getD_getElem?,Array.getElem?_setIfInBounds]
    split
    · simp_all
    · simpa using h
  · simp [Array.getElem?_eq_none h'] at h
class KOk (K:World→World→Prop):Prop where
  refl:∀ w,K w w
  tr:∀ {a b c:World},K a b→K b c→K a c
abbrev K1:World→World→Prop:=fun w w'=>Below w.heap.size w w'
abbrev KB (B:Nat):World→World→Prop:=fun w w'=>Below B w w'
instance:KOk K1:=⟨fun w=>Below.refl _ _,fun h k=>Below.through k h⟩
instance (B:Nat):KOk (KB B):=⟨fun w=>Below.refl _ _,fun h k=>h.trans k⟩
def zV (P:Program) (ops:Array Oper) (N:Act→World→Prop) (K:World→World→Prop):Nat→Array Bool→Act→World→Prop
  | 0,listed,a,w=>Region.ready .any ops listed=[]∧N a w
  | f+1,listed,a,w=>
    (Region.ready .any ops listed=[]→N a w) ∧
    ∀ i∈Region.ready .any ops listed,wpOp P ops QF i (fun a' w'=>(K w w'∨xMf ops i=true)∧zV P ops N K f (listed.setIfInBounds i true) a' w') a w
section
variable {P:Program} {ops:Array Oper} {N:Act→World→Prop}
theorem xVx {Q:Exit→Act→World→Prop} {i:Nat} {K K':Act→World→Prop} {a:Act} {w:World} (h:wpOp P ops QF i K a w) (hK:∀ a w,K a w→K' a w):wpOp P ops Q i K' a w:=by
  unfold wpOp at *
  split
  · rename_i ho;simp only[ho] at h;exact hK _ _ h
  · rename_i o ho
    simp only[ho] at h
    split
    · rename_i hw
      simp only[hw,if_true] at h
      rcases h with h | ⟨_,_,_,h⟩
      · refine .inl ?_
        unfold Oper.wp at *
        generalize (execOp a.eval o).run P w=r at *
        cases r with
        | ok n w'=>
          cases n<;>simp only[Oper.upon] at h ⊢ <;>
            first
              | exact hK _ _ h
              | exact Calls.mono h (fun e w'' he=>by cases e<;>first | exact hK _ _ he | exact he.elim | (obtain⟨_,_,h⟩:=he;exact h.elim))
              | exact Rows.mono h (fun _ _ he=>hK _ _ he)
        | halt x w'=>cases x<;>simp only[Oper.upon] at h ⊢<;>exact h.elim
      · exact h.elim
    · rename_i hw;simp only[hw] at h;exact hK _ _ h
theorem wR {K:World→World→Prop} {Q:Exit→Act→World→Prop} (hN:∀ a w,N a w→Q .normal a w):∀ (f:Nat) (listed:Array Bool) (a:Act) (w:World),zV P ops N K f listed a w→wpAny P .any ops Q f listed a w
  | 0,_,_,_,h=>⟨h.1,hN _ _ h.2⟩
  | f+1,_,_,_,h=>⟨fun h0=>hN _ _ (h.1 h0),fun i hi=>xVx (h.2 i hi) (fun a w h=>wR hN f _ a w h.2)⟩
def iU (P:Program) (ops:Array Oper) (C:World→Prop) (o:Oper) (v:Value) (a:Act):Prop:=
  (Region.wanted o (yielded ops a.tmps)=true∧∀ w,C w→(execOp a.eval o).run P w= .ok (.value v) w)∨(Region.wanted o (yielded ops a.tmps)=false∧v=undef)
theorem iU.of_same {C:World→Prop} {o:Oper} {v:Value} {a a':Act} (hy:iU P ops C o v a) (he:execOp a'.eval o=execOp a.eval o)
    (hw:Region.wanted o (yielded ops a'.tmps)=Region.wanted o (yielded ops a.tmps)):iU P ops C o v a':=by
  unfold iU at *
  rw[he,hw];exact hy
theorem xOj {C:World→Prop} {j:Nat} {oi oj:Oper} {v:Value} (hj:ops[j]?=some oj) (hap:oi.apart ops oj=true)
    (hsi:∀ cs b,oi.op ≠ .select cs b) (hsj:∀ cs b,oj.op ≠ .select cs b) {K:Act→World→Prop} {a:Act} {w:World}
    (hy:iU P ops C oi v a) (h:wpOp P ops QF j K (a.put oi.dst v) w) :
    wpOp P ops QF j (fun a' w'=>iU P ops C oi v a'∧K (a'.put oi.dst v) w') a w:=by
  obtain⟨h1,h2,h3⟩:=Oper.apart_spec hap
  have keep:∀ (a:Act),iU P ops C oi v a→∀ u,iU P ops C oi v (a.put oj.dst u):=fun a hy u=>
    hy.of_same (execOp_put oi hsi a oj.dst u h3) (wanted_put oi a oj.dst u h3)
  have keepD:∀ d,iU P ops C oi v { a with defers:=d::a.defers }:=fun d=>hy.of_same rfl rfl
  unfold wpOp at *
  simp only[hj] at *;rw[wanted_put oj a oi.dst v h1] at h
  split
  · rename_i hw
    simp only[hw,if_true] at h
    rcases h with h | ⟨_,_,_,h⟩
    case inr=>exact h.elim
    refine .inl ?_
    unfold Oper.wp at *
    rw[execOp_put oj hsj a oi.dst v h1] at h;generalize (execOp a.eval oj).run P w=r at *
    cases r with
    | ok n w'=>
      cases n<;>simp only[Oper.upon] at h ⊢
      case value u=>exact⟨keep a hy u,by rw[← Act.put_comm a v u h2];exact h⟩
      case skip=>exact⟨keep a hy _,by rw[← Act.put_comm a v undef h2];exact h⟩
      case defer d=>
        refine⟨keep _ (keepD d) _,?_⟩;rw[← Act.put_comm _ v undef h2,← Act.put_defers];exact h
      case enter f args=>
        refine Calls.mono h fun e w'' he=>?_
        cases e with
        | returned u=>exact⟨keep a hy u,by rw[← Act.put_comm a v u h2];exact he⟩
        | panicked c=>exact he.elim
        | outgrown=>obtain⟨_,_,he⟩:=he;exact he.elim
      case row row args=>exact Rows.mono h fun u w'' he=>⟨keep a hy u,by rw[← Act.put_comm a v u h2];exact he⟩
    | halt x w'=>
      cases x<;>simp only[Oper.upon] at h ⊢<;>exact h.elim
  · rename_i hw
    simp only[hw] at h;exact⟨keep a hy _,by rw[← Act.put_comm a v undef h2];exact h⟩
theorem sU {C:World→Prop} {i:Nat} {o:Oper} {v:Value} {a:Act} {w:World} (hi:ops[i]?=some o) (hC:C w) (hy:iU P ops C o v a) {K:Act→World→Prop} (h:K (a.put o.dst v) w):wpOp P ops QF i K a w:=by
  unfold wpOp
  simp only[hi]
  rcases hy with ⟨hw,hv⟩ | ⟨hw,rfl⟩
  · simp only[hw,if_true]
    refine .inl ?_
    unfold Oper.wp
    rw[hv w hC];exact h
  · simp only[hw,Bool.false_eq_true,if_false];exact h
theorem xMq {i j:Nat} {listed:Array Bool} (hi:i∈Region.ready .any ops listed) (hj:j∈Region.ready .any ops listed):sE ops j i=false:=by
  cases h:sE ops j i with
  | false=>rfl
  | true=>
    unfold sE at h
    obtain⟨_,oj,hoj,hall⟩:=mem_ready.1 hj;rw[hoj] at h;simp only at h;obtain⟨e,he,hb⟩:=Array.any_eq_true'.1 h;simp only[Bool.and_eq_true,beq_iff_eq] at hb;have h1:=hall e he hb.1;have h0:=(mem_ready.1 hi).1;rw[hb.2] at h1
    rcases Nat.lt_or_ge i listed.size with h' | h'
    · simp [h'] at h0 h1;rw[h0] at h1;cases h1
    · simp [Array.getElem?_eq_none h'] at h1
theorem nX {j u:Nat} {listed:Array Bool} (hj:j∈Region.ready .any ops listed) (h:sE ops j u=true):listed.getD u false=true:=by
  unfold sE at h
  obtain⟨_,oj,hoj,hall⟩:=mem_ready.1 hj;rw[hoj] at h;simp only at h;obtain⟨e,he,hb⟩:=Array.any_eq_true'.1 h;simp only[Bool.and_eq_true,beq_iff_eq] at hb;have h1:=hall e he hb.1;rw[hb.2] at h1;exact h1
theorem xQl {j:Nat} {listed:Array Bool} (hc:Clo ops listed) (hj:j∈Region.ready .any ops listed):Clo ops (listed.setIfInBounds j true):=by
  intro k u hk hw
  by_cases hkj:k=j
  · subst hkj;exact xDd (nX hj hw)
  · refine xDd (hc k u ?_ hw)
    simp only[Array.getD_eq_getD_getElem?,Array.getElem?_setIfInBounds,if_neg (Ne.symm hkj)] at hk
    simpa using hk
theorem xUz {i:Nat} {listed:Array Bool} (hi:i∈Region.ready .any ops listed) (h1:listed.getD i false=true):False:=by
  have h0:=(mem_ready.1 hi).1
  rcases Nat.lt_or_ge i listed.size with h' | h'
  · simp [h'] at h0 h1;rw[h0] at h1;cases h1
  · simp [Array.getElem?_eq_none h'] at h1
theorem xQe {i j:Nat} {listed:Array Bool} (hc:Clo ops listed) (hi:i∈Region.ready .any ops listed) (hj:j∈Region.ready .any ops listed) (f:Nat):anc ops f j i=false:=by
  cases h:anc ops f j i with
  | false=>rfl
  | true=>
    refine(xUz hi ?_).elim
    cases f with
    | zero=>exact nX hj h
    | succ f=>
      unfold anc at h
      rcases Bool.or_eq_true_iff.1 h with h | h
      · exact nX hj h
      · obtain⟨k,_,hk⟩:=List.any_eq_true.1 h
        rw[Bool.and_eq_true] at hk;exact xFd hc f k i (nX hj hk.1) hk.2
theorem xVl {i j:Nat} {listed:Array Bool} (hk:cOp ops i=false) (hc:Clo ops listed) (hi:i∈Region.ready .any ops listed) (hj:j∈Region.ready .any ops listed) (hij:i≠j):xMf ops j≠true:=by
  intro h
  unfold xMf at h
  have hlt:i<ops.size:=by
    obtain⟨_,oi,hoi,_⟩:=mem_ready.1 hi;exact(Array.getElem?_eq_some_iff.1 hoi).1
  have h1:=List.all_eq_true.1 h i (List.mem_range.2 hlt);rw[xQe hc hi hj,xMq hj hi,hk] at h1
  simp [hij] at h1
theorem xFt {K:World→World→Prop} [kk:KOk K] {w0:World} {i:Nat} {oi:Oper} {v:Value} (hk:cOp ops i=false) (hi:ops[i]?=some oi) (hsel:∀ (j:Nat) (o:Oper) cs b,ops[j]?=some o→o.op ≠ .select cs b) :
    ∀ (f:Nat) (listed:Array Bool) (a:Act) (w:World),Clo ops listed→K w0 w →
      (∀ j oj,ops[j]?=some oj→j≠i→listed.getD j true=false→(∀ e∈oj.after,Region.binds .any e=true→e.on≠i)→oi.apart ops oj=true) →
      i∈Region.ready .any ops listed→iU P ops (fun w'=>K w0 w') oi v a →
      zV P ops N K f (listed.setIfInBounds i true) (a.put oi.dst v) w→zV P ops N K (f+1) listed a w:=by
  intro f
  induction f with
  | zero=>
    intro listed a w hcl hC _ hr hy H;refine⟨fun h=>(by rw[h] at hr;cases hr),fun j hj=>?_⟩
    by_cases hji:j=i
    · subst hji;exact sU hi hC hy ⟨.inl (kk.refl _),H⟩
    · have:=ready_mono hj hji
      rw[H.1] at this
      cases this
  | succ f ih=>
    intro listed a w hcl hC hfree hr hy H;refine⟨fun h=>(by rw[h] at hr;cases hr),fun j hj=>?_⟩
    by_cases hji:j=i
    · subst hji;exact sU hi hC hy ⟨.inl (kk.refl _),H⟩
    · have h1:=H.2 j (ready_mono hj hji)
      obtain⟨hjun,oj,hoj,hall⟩:=mem_ready.1 hj
      have hnot:∀ e∈oj.after,Region.binds .any e=true→e.on≠i:=fun e he hb heq=>by
        have h1:=hall e he hb;have h0:=(mem_ready.1 hr).1;rw[heq] at h1
        rcases Nat.lt_or_ge i listed.size with h' | h'
        · simp [h'] at h0 h1;rw[h0] at h1;cases h1
        · simp [Array.getElem?_eq_none h'] at h1
      have h2:=xOj hoj (hfree j oj hoj hji hjun hnot) (fun cs b=>hsel i oi cs b hi) (fun cs b=>hsel j oj cs b hoj) hy h1
      have hfree':∀ k ok,ops[k]?=some ok→k≠i→(listed.setIfInBounds j true).getD k true=false →
          (∀ e∈ok.after,Region.binds .any e=true→e.on≠i)→oi.apart ops ok=true:=fun k ok hk hki hun hno=>by
        refine hfree k ok hk hki ?_ hno
        by_cases hjk:j=k
        · subst hjk;exact hjun
        · rw[getD_set_ne true hjk] at hun;exact hun
      refine wpOp_mono (fun a' w' h3=>?_) h2;obtain⟨h4,h5,h6⟩:=h3;have hb:K w w':=h5.resolve_right (xVl hk hcl hr hj (Ne.symm hji));refine⟨.inl hb,ih (listed.setIfInBounds j true) a' w' (xQl hcl hj) (kk.tr hC hb) hfree' (ready_mono hr (Ne.symm hji)) h4 ?_⟩;rw[Array.setIfInBounds_comm _ _ hji];exact h6
theorem xCw {K:World→World→Prop} [kk:KOk K] {i:Nat} {oi:Oper} {v:Value} (hi:ops[i]?=some oi) (hsel:∀ (j:Nat) (o:Oper) cs b,ops[j]?=some o→o.op ≠ .select cs b) :
    ∀ (f:Nat) (listed:Array Bool) (a:Act) (w:World),
      (∀ j oj,ops[j]?=some oj→j≠i→listed.getD j true=false→(∀ e∈oj.after,Region.binds .any e=true→e.on≠i)→oi.apart ops oj=true) →
      i∈Region.ready .any ops listed→iU P ops (fun _=>True) oi v a →
      zV P ops N K f (listed.setIfInBounds i true) (a.put oi.dst v) w→zV P ops N K (f+1) listed a w:=by
  intro f
  induction f with
  | zero=>
    intro listed a w _ hr hy H;refine⟨fun h=>(by rw[h] at hr;cases hr),fun j hj=>?_⟩
    by_cases hji:j=i
    · subst hji;exact sU hi trivial hy ⟨.inl (kk.refl _),H⟩
    · have:=ready_mono hj hji
      rw[H.1] at this
      cases this
  | succ f ih=>
    intro listed a w hfree hr hy H;refine⟨fun h=>(by rw[h] at hr;cases hr),fun j hj=>?_⟩
    by_cases hji:j=i
    · subst hji;exact sU hi trivial hy ⟨.inl (kk.refl _),H⟩
    · have h1:=H.2 j (ready_mono hj hji)
      obtain⟨hjun,oj,hoj,hall⟩:=mem_ready.1 hj
      have hnot:∀ e∈oj.after,Region.binds .any e=true→e.on≠i:=fun e he hb heq=>by
        have h1:=hall e he hb;have h0:=(mem_ready.1 hr).1;rw[heq] at h1
        rcases Nat.lt_or_ge i listed.size with h' | h'
        · simp [h'] at h0 h1;rw[h0] at h1;cases h1
        · simp [Array.getElem?_eq_none h'] at h1
      have h2:=xOj hoj (hfree j oj hoj hji hjun hnot) (fun cs b=>hsel i oi cs b hi) (fun cs b=>hsel j oj cs b hoj) hy h1
      have hfree':∀ k ok,ops[k]?=some ok→k≠i→(listed.setIfInBounds j true).getD k true=false →
          (∀ e∈ok.after,Region.binds .any e=true→e.on≠i)→oi.apart ops ok=true:=fun k ok hk hki hun hno=>by
        refine hfree k ok hk hki ?_ hno
        by_cases hjk:j=k
        · subst hjk;exact hjun
        · rw[getD_set_ne true hjk] at hun;exact hun
      refine wpOp_mono (fun a' w' h3=>?_) h2;obtain⟨h4,h5,h6⟩:=h3;refine⟨h5,ih (listed.setIfInBounds j true) a' w' hfree' (ready_mono hr (Ne.symm hji)) h4 ?_⟩;rw[Array.setIfInBounds_comm _ _ hji];exact h6
def wpV (P:Program) (ops:Array Oper) (C:World→Prop) (K:Act→Prop) (o:Oper) (a:Act):Prop:=
  if Region.wanted o (yielded ops a.tmps) then ∃ v,(∀ w,C w→(execOp a.eval o).run P w= .ok (.value v) w)∧K (a.put o.dst v) else K (a.put o.dst undef)
theorem b_q {K:World→World→Prop} [kk:KOk K] {f:Nat} {listed:Array Bool} {a:Act} {w:World} (i:Nat) {oi:Oper} (hk:cOp ops i=false) (hi:ops[i]?=some oi) (hs:Region.noSelect ops=true) (hf:Region.free .any ops listed i=true) (hr:(Region.ready .any ops listed).contains i=true) (hcl:xTs ops listed=true)
    (h:wpV P ops (fun w'=>K w w') (fun a'=>zV P ops N K f (listed.setIfInBounds i true) a' w) oi a):zV P ops N K (f+1) listed a w:=by
  have hr':i∈Region.ready .any ops listed:=by simpa using hr
  unfold wpV at h
  by_cases hw:Region.wanted oi (yielded ops a.tmps)=true
  · rw[if_pos hw] at h
    obtain⟨v,h1,h2⟩:=h;exact xFt (w0:=w) hk hi (Region.noSelect_spec hs) f listed a w (xLq hcl) (kk.refl _) (Region.free_spec hi hf) hr' (.inl ⟨hw,h1⟩) h2
  · rw[if_neg hw] at h
    exact xFt (w0:=w) hk hi (Region.noSelect_spec hs) f listed a w (xLq hcl) (kk.refl _) (Region.free_spec hi hf) hr' (.inr ⟨by simpa using hw,rfl⟩) h
theorem xNs {K:World→World→Prop} [kk:KOk K] {f:Nat} {listed:Array Bool} {a:Act} {w:World} (i:Nat) {oi:Oper} (hi:ops[i]?=some oi) (hs:Region.noSelect ops=true) (hf:Region.free .any ops listed i=true) (hr:(Region.ready .any ops listed).contains i=true)
    (h:wpV P ops (fun _=>True) (fun a'=>zV P ops N K f (listed.setIfInBounds i true) a' w) oi a):zV P ops N K (f+1) listed a w:=by
  have hr':i∈Region.ready .any ops listed:=by simpa using hr
  unfold wpV at h
  by_cases hw:Region.wanted oi (yielded ops a.tmps)=true
  · rw[if_pos hw] at h
    obtain⟨v,h1,h2⟩:=h;exact xCw hi (Region.noSelect_spec hs) f listed a w (Region.free_spec hi hf) hr' (.inl ⟨hw,h1⟩) h2
  · rw[if_neg hw] at h
    exact xCw hi (Region.noSelect_spec hs) f listed a w (Region.free_spec hi hf) hr' (.inr ⟨by simpa using hw,rfl⟩) h
theorem xHg {K:World→World→Prop} [kk:KOk K] {f:Nat} {listed:Array Bool} {a:Act} {w:World} (i:Nat) {oi:Oper} (hi:ops[i]?=some oi)
    (h:wpV P ops (fun w'=>K w w') (fun a'=>zV P ops N K f (listed.setIfInBounds i true) a' w) oi a) (hb:(!cOp ops i && (Region.noSelect ops && (Region.free .any ops listed i && ((Region.ready .any ops listed).contains i && xTs ops listed))))=true:=by kernel_rfl):zV P ops N K (f+1) listed a w:=by
  simp only[Bool.and_eq_true,Bool.not_eq_true'] at hb;exact b_q i hb.1 hi hb.2.1 hb.2.2.1 hb.2.2.2.1 hb.2.2.2.2 h
theorem xQo {K:World→World→Prop} [kk:KOk K] {f:Nat} {listed:Array Bool} {a:Act} {w:World} (i:Nat) {oi:Oper} (hi:ops[i]?=some oi)
    (h:wpV P ops (fun _=>True) (fun a'=>zV P ops N K f (listed.setIfInBounds i true) a' w) oi a) (hb:(Region.noSelect ops && (Region.free .any ops listed i && (Region.ready .any ops listed).contains i))=true:=by kernel_rfl):zV P ops N K (f+1) listed a w:=by
  simp only[Bool.and_eq_true] at hb;exact xNs i hi hb.1 hb.2.1 hb.2.2 h
theorem b_e {K:World→World→Prop} {f:Nat} {listed:Array Bool} {a:Act} {w:World} (i:Nat) {oi:Oper} (hi:ops[i]?=some oi) (hr:Region.ready .any ops listed=[i])
    (h:wpList P ops (Exit.then (fun a' w'=>(K w w'∨xMf ops i=true)∧zV P ops N K f (listed.setIfInBounds i true) a' w') QF) [oi] a w):zV P ops N K (f+1) listed a w:=by
  refine⟨fun h0=>(by rw[hr] at h0;cases h0),fun j hj=>?_⟩;rw[hr,List.mem_singleton] at hj;subst hj
  unfold wpOp
  simp only[hi]
  unfold wpList at h
  split
  · rename_i hw
    rw[if_pos hw] at h
    rcases h with h | h
    · refine .inl ?_
      have h2:=Oper.wp_mono (K':=fun a' w'=>(K w w'∨xMf ops j=true)∧zV P ops N K f (listed.setIfInBounds j true) a' w') (fun a w h=>h) h
      unfold Oper.wp at h2 ⊢
      generalize (execOp a.eval oi).run P w=r at *
      cases r with
      | ok n w'=>
        cases n<;>simp only[Oper.upon] at h2 ⊢ <;>
          first
            | exact h2
            | exact Calls.mono h2 (fun e w'' he=>by cases e<;>first | exact he | exact he.elim | (obtain⟨_,_,h⟩:=he;exact h.elim))
      | halt x w'=>cases x<;>simp only[Oper.upon] at h2 ⊢<;>exact h2.elim
    · obtain⟨_,_,_,h⟩:=h
      exact False.elim h
  · rename_i hw
    rw[if_neg hw] at h;exact h
theorem xXj {K:World→World→Prop} {listed:Array Bool} {a:Act} {w:World} (hr:Region.ready .any ops listed=[]) (h:N a w):zV P ops N K 0 listed a w:=⟨hr,h⟩
theorem xXm {K:World→World→Prop} {listed:Array Bool} {a:Act} {w:World} (h:N a w) (hr:Region.ready .any ops listed=[]:=by kernel_rfl):zV P ops N K 0 listed a w:=⟨hr,h⟩
end
section
variable {P:Program} {ops:Array Oper} {C:World→Prop} {K:Act→Prop} {a:Act} {w:World} {n:Nat} {L:List (Nat×Value)} {d:Nat} {ty:TypeId} {pos:String} {af:Array Edge} {g:Option (Nat×Bool)}
theorem gP {op:Go.Op} {v:Value} (F:Sk a n L) (hc:qH ops n L g d=true) (hr:∀ w,C w→(execOp a.eval ⟨some d,op,ty,pos,af,g⟩).run P w= .ok (.value v) w)
    (k:∀ a',Sk a' n ((d,v)::L)→K a'):wpV P ops C K ⟨some d,op,ty,pos,af,g⟩ a:=by
  unfold qH at hc
  rw[Bool.and_eq_true] at hc
  unfold wpV
  rw[if_pos (iW F (o:=⟨some d,op,ty,pos,af,g⟩) hc.1)];exact⟨v,hr,k _ (F.put v hc.2)⟩
theorem xBk {x:Operand} {v:Value} (F:Sk a n L) (hc:qH ops n L g d=true) (e:ev L x=some v) (k:∀ a',Sk a' n ((d,v)::L)→K a'):wpV P ops C K ⟨some d,.move x,ty,pos,af,g⟩ a:=gP F hc (fun w l=>sZ F e) k
theorem oBp {x:Operand} {v:Value} (F:Sk a n L) (hc:qH ops n L g d=true) (e:ev L x=some v) (k:∀ a',Sk a' n ((d,v)::L)→K a'):wpV P ops C K ⟨some d,.assign x,ty,pos,af,g⟩ a:=gP F hc (fun w l=>xBb F e) k
theorem xFs {x:Operand} {p:Addr} (F:Sk a n L) (hc:qH ops n L g d=true) (e:ev L x=some (.pointer (some p))) (k:∀ a',Sk a' n ((d,(.pointer (some p)))::L)→K a'):wpV P ops C K ⟨some d,.nilCheck x,ty,pos,af,g⟩ a:=gP F hc (fun w l=>sR F e) k
theorem v_no {op:Go.Op} (F:Sk a n L) (hc:gno ops L g=true) (hd:Nat.blt d n=true)
    (k:∀ a',Sk a' n ((d,undef)::L)→K a'):wpV P ops C K ⟨some d,op,ty,pos,af,g⟩ a:=by
  unfold wpV
  rw[if_neg (by rw[pL F (o:=⟨some d,op,ty,pos,af,g⟩) hc];exact Bool.false_ne_true)];exact k _ (F.put undef hd)
theorem xLw (place:Nat→Option (Nat×Nat)):∀ (ps:List (Nat×Value)) (cs:Array Value),(∀ p∈ps,p.2.oneCell'=true∧place p.1=some (p.1,1)∧p.1<cs.size)→Instr.fill place cs ps=some (ps.foldl (fun cs p=>cs.setIfInBounds p.1 p.2) cs)
  | [],cs,_=>rfl
  | (i,v)::r,cs,h=>by
    obtain⟨h1,h2,h3⟩:=h (i,v) (by simp)
    have hc:v.cells = #[v]:=by cases v<;>first | rfl | simp [Value.oneCell'] at h1
    unfold Instr.fill
    simp only at h2 h3;simp only[h2,hc]
    have h4:¬ (i+1 > cs.size):=by omega
    simp only[List.size_toArray,List.length_cons,List.length_nil,Nat.zero_add,ne_eq,not_true_eq_false,decide_false,Bool.false_or,decide_eq_true_eq,h4,if_false];rw[show(#[v]:Array Value).zipIdx.foldl (fun cs (x:Value×Nat)=>cs.setIfInBounds (i+x.2) x.1) cs=cs.setIfInBounds i v from rfl];exact xLw place r _ (fun p hp=>by obtain⟨a,b,c⟩:=h p (by simp [hp]);exact⟨a,b,by simpa using c⟩)
theorem xBw (f:Operand→Value):∀ (ps:List (Nat×Operand)),(ps.map Prod.fst).zip ((ps.map Prod.snd).map f)=ps.map (fun(i,x)=>(i,f x))
  | []=>rfl
  | p::r=>by simp only[List.map_cons,List.zip_cons_cons,xBw f r]
theorem xIy {dd:Option Tmp} {t:TypeId} {fs:Array Field} {z:Value} {places:Array (Nat×Nat)} {parts:Array (Nat×Operand)} {ps:List (Nat×Operand)} {idx:List Nat} {xs:List Operand} {vs:List Value} {cs:Array Value} (ht:P.underlying t=some (.struct fs)) (hz:∀ w,(zeroValue t).run P w= .ok z w)
    (hpl:∀ w,(fs.mapM fun f=>do pure (f.offset,← sizeOf f.type):Sem (Array (Nat×Nat))).run P w= .ok places w) (F:Sk a n L) (hp:parts.toList=ps) (h1:ps.map Prod.fst=idx) (h2:ps.map Prod.snd=xs) (hx:evs L xs=some vs) (hone:∀ v∈vs,v.oneCell'=true) (hok:idx.all (fun i=>places[i]?==some (i,1) && decide (i<z.cells.size))=true)
    (hcs:(idx.zip vs).foldl (fun cs p=>cs.setIfInBounds p.1 p.2) z.cells=cs) {w':World}:(execOp a.eval ⟨dd,.build t parts,ty,pos,af,g⟩).run P w'= .ok (.value (.agg cs)) w':=by
  have hv:=F.evs hx
  have hparts:(parts.map fun(i,x)=>(i,a.eval x)).toList=idx.zip vs:=by
    rw[Array.toList_map,hp,← h1,← hv,← h2];exact(xBw a.eval ps).symm
  have hf:=xLw (places[·]?) (idx.zip vs) z.cells (fun p hp=>by
    obtain⟨hi,hvv⟩:=List.of_mem_zip hp;have:=List.all_eq_true.1 hok p.1 hi;simp only[Bool.and_eq_true,beq_iff_eq,decide_eq_true_eq] at this
    exact⟨hone _ hvv,this.1,this.2⟩)
  rw[hcs] at hf
  unfold execOp
  simp only[Instr.build,Sem.run_bind,hz,Result.andThen_ok,run_underlying ht];simp only[Sem.run_bind,hpl,Result.andThen_ok];rw[hparts,hf]
  rfl
theorem xXa {Q:Exit→Act→World→Prop} {rest:List Oper} {t:TypeId} {fs:Array Field} {z:Value} {places:Array (Nat×Nat)} {parts:Array (Nat×Operand)} {ps:List (Nat×Operand)} {idx:List Nat} {xs:List Operand} {vs:List Value} {cs:Array Value} (ht:P.underlying t=some (.struct fs)) (hz:∀ w,(zeroValue t).run P w= .ok z w)
    (hpl:∀ w,(fs.mapM fun f=>do pure (f.offset,← sizeOf f.type):Sem (Array (Nat×Nat))).run P w= .ok places w) (F:Sk a n L) (hc:qH ops n L g d=true) (hp:parts.toList=ps) (h1:ps.map Prod.fst=idx) (h2:ps.map Prod.snd=xs) (hx:evs L xs=some vs) (hone:∀ v∈vs,v.oneCell'=true) (hok:idx.all (fun i=>places[i]?==some (i,1) && decide (i<z.cells.size))=true)
    (hcs:(idx.zip vs).foldl (fun cs p=>cs.setIfInBounds p.1 p.2) z.cells=cs) (k:∀ a',Sk a' n ((d,.agg cs)::L)→wpList P ops Q rest a' w):wpList P ops Q (⟨some d,.build t parts,ty,pos,af,g⟩::rest) a w:=
  qX F hc (xIy ht hz hpl F hp h1 h2 hx hone hok hcs) k
section
variable {rest:List Oper} {α:Type} {sz:Nat} {R:ER α} [hR:FrC sz R] {t e:TypeId} {x lo hi:Operand} {v:Value} {l r:List α} {bs:List Nat} {i j:Int}
end
end
section
variable {P:Program} {ops:Array Oper} {Q:Exit→Act→World→Prop} {a:Act} {w:World} {n:Nat} {L:List (Nat×Value)} {rest:List Oper} {d:Nat} {ty:TypeId} {pos:String} {af:Array Edge} {g:Option (Nat×Bool)}
theorem xKz {x:Operand} {t:TypeId} {b o sz:Nat} {dd:Option Tmp} {cs:List Value} {arr:Array Value} {T:TypeId} (hag:∀ w,(isAgg t).run P w= .ok true w) (hsz:∀ w,(sizeOf t).run P w= .ok sz w) (F:Sk a n L) (he:ev L x=some (.pointer (some ⟨b,o,none⟩))) (h:fI w b arr T) (hl:cs.length=sz)
    (hv:∀ j,j<sz→arr[o+j]?=cs[j]?) :
    (execOp a.eval ⟨dd,.load t x,ty,pos,af,g⟩).run P w= .ok (.value (.agg cs.toArray)) w:=by
  subst hl
  unfold execOp
  simp only[F.ev he]
  have hl:=run_loadCells_list (P:=P) w ⟨b,o,none⟩ cs (fun j v hj=>by
    have hjs:j<cs.length:=(List.getElem?_eq_some_iff.1 hj).1;have hadd:=iF b o j
    rw[hadd,h.cell,hv j hjs,hj])
  simp [Instr.loadAt,Instr.sureAddr,loadVar,hag,hsz,hl]
theorem xQi {x y:Operand} {t t':TypeId} {dd:Option Tmp} {b:Option Addr} {m c e0:Nat} (ht:P.underlying t=some (.slice e0)) (F:Sk a n L) (e:ev L x=some (.slice b m c)) (e':ev L y=some (.slice none 0 0)) {w':World} :
    (execOp a.eval ⟨dd,.binOp .eql t x y t',ty,pos,af,g⟩).run P w'= .ok (.value (.bool b.isNone)) w':=by
  unfold execOp
  simp only[F.ev e,F.ev e'];obtain⟨k,hk⟩:∃ k,Op.maxDepth=k+1:=⟨Op.maxDepth - 1,rfl⟩
  cases b<;>simp [eqGuard,binOp,Op.equal,hk,Op.equalIn,run_underlying ht]
end
section
variable {P:Program} {ops:Array Oper} {Q:Exit→Act→World→Prop} {a:Act} {w:World} {n:Nat} {L:List (Nat×Value)} {rest:List Oper} {d:Nat} {ty:TypeId} {pos:String} {af:Array Edge} {g:Option (Nat×Bool)}
theorem xZp {x y:Operand} {t t':TypeId} {dd:Option Tmp} {p q:Bool} (ht:P.underlying t=some .bool) (F:Sk a n L) (e:ev L x=some (.bool p)) (e':ev L y=some (.bool q)) {w':World} :
    (execOp a.eval ⟨dd,.binOp .neq t x y t',ty,pos,af,g⟩).run P w'= .ok (.value (.bool (p != q))) w':=by
  unfold execOp
  simp only[F.ev e,F.ev e'];obtain⟨k,hk⟩:∃ k,Op.maxDepth=k+1:=⟨Op.maxDepth - 1,rfl⟩
  simp [eqGuard,binOp,Op.equal,hk,Op.equalIn,run_underlying ht,bne]
end
section
variable {P:Program} {ops:Array Oper} {Q:Exit→Act→World→Prop} {N:Act→World→Prop} {a:Act} {w:World} {n:Nat} {L:List (Nat×Value)} {rest:List Oper} {d:Nat} {ty:TypeId} {pos:String} {af:Array Edge} {g:Option (Nat×Bool)}
theorem xRe {α:Type} {sz:Nat} {R:ER α} {x y:Operand} {t t':TypeId} {v:Value} {l:List α} {bs:List Nat} {e0:Nat} (ht:P.underlying t=some (.slice e0)) (F:Sk a n L) (hc:qH ops n L g d=true) (e:ev L x=some v) (e':ev L y=some (.slice none 0 0)) (h:Rd (Sl sz R) w v l bs)
    (k:∀ a' (b:Bool),(b=true→l=[])→Sk a' n ((d,.bool b)::L)→wpList P ops Q rest a' w):wpList P ops Q (⟨some d,.binOp .eql t x y t',ty,pos,af,g⟩::rest) a w:=by
  obtain⟨a',c',rfl,h1,h2,h3,h4⟩:=h.r.open;refine qX F hc (xQi ht F e e') (fun a2 F'=>k a2 _ (fun hn=>?_) F')
  cases l with
  | nil=>rfl
  | cons y0 l=>
    obtain⟨b,o,bss,bi,hb,_⟩:=h4 0 (by simp);rw[hb] at hn
    cases hn
theorem xXk {x y:Operand} {ts:Array TypeId} {dd:Option Tmp} {i j:Int} (F:Sk a n L) (e:ev L x=some (.int .i64 i)) (e':ev L y=some (.int .i64 j)) {w':World} :
    (execOp a.eval ⟨dd,.call ⟨.builtin .max,#[x,y],ts⟩,ty,pos,af,g⟩).run P w'= .ok (.value (.int .i64 (if i<j then j else i))) w':=by
  rw[BigFrame.execOp_builtin,BigFrame.builtin_max];simp only[List.map_toArray,List.map_cons,List.map_nil,F.ev e,F.ev e']
  simp [Builtin.max_,Builtin.max2]
  try (split<;>rfl)
theorem oCq {x y:Operand} {ts:Array TypeId} {i j:Int} (F:Sk a n L) (hc:qH ops n L g d=true) (e:ev L x=some (.int .i64 i)) (e':ev L y=some (.int .i64 j))
    (k:∀ a',Sk a' n ((d,.int .i64 (if i<j then j else i))::L)→wpList P ops Q rest a' w):wpList P ops Q (⟨some d,.call ⟨.builtin .max,#[x,y],ts⟩,ty,pos,af,g⟩::rest) a w:=qX F hc (xXk F e e') k
theorem wr64 (x:Int):xH (IntKind.i64.wrap x):=by
  show -9223372036854775808≤IntKind.i64.wrap x∧IntKind.i64.wrap x≤9223372036854775807
  unfold IntKind.wrap
  simp only[show IntKind.i64.bits=64 from rfl,show IntKind.i64.signed=true from rfl];have h1:=Int.emod_nonneg x (show(2 ^ 64:Int)≠0 by decide);have h2:=Int.emod_lt_of_pos x (show(0:Int)<2 ^ 64 by decide);simp only[Bool.true_and,decide_eq_true_eq]
  split<;>omega
theorem oBl {i j:Int} (hi:xH i) (hj:xH j):xH (if i<j then j else i):=by split<;>assumption
def xUk (P:Program) (ops:Array Oper) (N:Act→World→Prop) (K:World→World→Prop) (f:Nat) (listed:Array Bool) (a:Act) (w:World):List Nat→Prop
  | []=>True
  | i::r=>(∃ oi,ops[i]?=some oi∧wpList P ops (Exit.then (fun a' w'=>(K w w'∨xMf ops i=true)∧zV P ops N K f (listed.setIfInBounds i true) a' w') QF) [oi] a w)∧xUk P ops N K f listed a w r
theorem xId {K:World→World→Prop} {f:Nat} {listed:Array Bool}:∀ {l:List Nat} {j:Nat},xUk P ops N K f listed a w l→j∈l→∃ oi,ops[j]?=some oi∧wpList P ops (Exit.then (fun a' w'=>(K w w'∨xMf ops j=true)∧zV P ops N K f (listed.setIfInBounds j true) a' w') QF) [oi] a w
  | i::r,j,h,hj=>by
    rcases List.mem_cons.1 hj with rfl | hj
    · exact h.1
    · exact xId h.2 hj
theorem b_es {K:World→World→Prop} {f:Nat} {listed:Array Bool} {a:Act} {w:World} (l:List Nat) (hr:Region.ready .any ops listed=l) (hne:l≠[]) (h:xUk P ops N K f listed a w l):zV P ops N K (f+1) listed a w:=by
  refine⟨fun h0=>absurd (hr.symm.trans h0) hne,fun j hj=>?_⟩;rw[hr] at hj;obtain⟨oi,hi,h⟩:=xId h hj
  unfold wpOp
  simp only[hi]
  unfold wpList at h
  split
  · rename_i hw
    rw[if_pos hw] at h
    rcases h with h | h
    · refine .inl ?_
      have h2:=Oper.wp_mono (K':=fun a' w'=>(K w w'∨xMf ops j=true)∧zV P ops N K f (listed.setIfInBounds j true) a' w') (fun a w h=>h) h
      unfold Oper.wp at h2 ⊢
      generalize (execOp a.eval oi).run P w=r at *
      cases r with
      | ok n w'=>
        cases n<;>simp only[Oper.upon] at h2 ⊢ <;>
          first
            | exact h2
            | exact Calls.mono h2 (fun e w'' he=>by cases e<;>first | exact he | exact he.elim | (obtain⟨_,_,h⟩:=he;exact h.elim))
      | halt x w'=>cases x<;>simp only[Oper.upon] at h2 ⊢<;>exact h2.elim
    · obtain⟨_,_,_,h⟩:=h
      exact False.elim h
  · rename_i hw
    rw[if_neg hw] at h;exact h
end
end Go.Proofs.YtlommebgedmjdaaGreatDoor
