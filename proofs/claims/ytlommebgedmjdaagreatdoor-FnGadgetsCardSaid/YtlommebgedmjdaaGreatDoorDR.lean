import Derived.Test.YtlommebgedmjdaaGreatDoorNL
import Derived.Test.YtlommebgedmjdaaGreatDoorDM
import Derived.Laws.IdiomCopy
namespace Go.Proofs.YtlommebgedmjdaaGreatDoor
set_option linter.unusedVariables false
set_option linter.unusedSimpArgs false
set_option maxRecDepth 100000
open Go.RowKit
theorem Row.setI {E B:Nat} {g c i n:Nat} {w:World} {l:List Int} {z:Int} (hn:l.length=n) (A:Row 1 xG E B w (.slice (some ⟨g,0,none⟩) n c) l [g] []) (hi:i<n) (hz:xH z) :
    Row 1 xG E B (w.setCell ⟨g,i,none⟩ (.int .i64 z)) (.slice (some ⟨g,0,none⟩) n c) (l.set i z) [g] []∧Only [g] w (w.setCell ⟨g,i,none⟩ (.int .i64 z)):=by
  subst hn;obtain⟨xs,bss,ho,hl,hfl,he⟩:=A.row
  rcases ho.2 with ⟨h,_⟩ | ⟨g3,cap,cur,h,h2,h3,h4,h5,h6,h7⟩
  · cases h
  simp only[Value.slice.injEq,Option.some.injEq,Addr.mk.injEq,and_true,true_and] at h;obtain⟨rfl,rfl⟩:=h;have hlen:=ho.1;rw[Nat.mul_one] at hlen h6 h7
  have hcur:i<cur.size:=by omega
  have hK:fI w g cur E:=h3;have hO:Only [g] w (w.setCell ⟨g,i,none⟩ (.int .i64 z)):=⟨rfl,rfl,rfl,by simp,fun k _ hk=>Below.heap_setCell _ _ _ _ (by simpa using hk)⟩
  have hbs:∀ j bj,bss[j]?=some bj→bj=[]:=fun j bj h=>by
    have:=List.mem_of_getElem? h;exact List.flatten_eq_nil_iff.1 hfl bj this
  refine⟨⟨⟨xs.set i (.int .i64 z),bss,⟨by simp [hlen],.inr ⟨g,c,cur.setIfInBounds i (.int .i64 z),by simp,h2,hK.set_at rfl,by simpa using h4,h5,by simpa using h6,?_⟩⟩,by simp [hl],hfl,fun j y' bj hy' hbj=>?_⟩,rfl,qM.nil _,fun b hb hm=>nomatch hm⟩,hO⟩
  · simp only[List.length_set,Nat.mul_one,Array.toList_setIfInBounds]
    rw[List.take_set,h7]
  · rw[Nat.mul_one]
    obtain rfl:=hbs j bj hbj
    by_cases hji:j=i
    · subst hji
      rw[List.getElem?_set_self hi] at hy'
      cases hy'
      exact⟨by show(xs.set j _)[j+0]?=_;rw[Nat.add_zero,List.getElem?_set_self (by omega)],hz,rfl⟩
    · rw[List.getElem?_set_ne (fun e=>hji e.symm)] at hy'
      have hm:=he j y' _ hy' hbj;rw[Nat.mul_one] at hm;refine⟨?_,hm.2.1,rfl⟩
      show(xs.set i _)[j+0]?=_
      rw[Nat.add_zero,List.getElem?_set_ne (fun e=>hji e.symm)];exact hm.1
theorem Row.setsI {E B:Nat} {g c n:Nat}:∀ (m:List Int) (k:Nat) {w:World} {l:List Int} (hn:l.length=n) (A:Row 1 xG E B w (.slice (some ⟨g,0,none⟩) n c) l [g] []) (hk:k+m.length≤n) (hm:∀ x∈m,xH x),
    Row 1 xG E B (w.setCells g k (m.map (Value.int .i64))) (.slice (some ⟨g,0,none⟩) n c) (l.take k++m++l.drop (k+m.length)) [g] []∧Only [g] w (w.setCells g k (m.map (Value.int .i64)))
  | [],k,w,l,hn,A,_,_=>by
    simp only[List.map_nil,World.setCells,List.append_nil,List.length_nil,Nat.add_zero,List.take_append_drop];exact⟨A,Only.refl _ _⟩
  | x::m,k,w,l,hn,A,hk,hm=>by
    rw[List.length_cons] at hk;obtain⟨A1,o1⟩:=A.setI hn (i:=k) (by omega) (hm x (by simp));obtain⟨A2,o2⟩:=Row.setsI m (k+1) (by rw[List.length_set];exact hn) A1 (by omega) (fun y hy=>hm y (by simp [hy]))
    have e:l.take k++(x::m)++l.drop (k+(x::m).length)=(l.set k x).take (k+1)++m++(l.set k x).drop (k+1+m.length):=by
      rw[List.drop_set,if_pos (by omega),List.take_set,List.length_cons,show k+1+m.length=k+(m.length+1) by omega]
      congr 1
      rw[List.append_cons]
      congr 1
      apply List.ext_getElem?
      intro j
      by_cases h1:j<k
      · rw[List.getElem?_append_left (by rw[List.length_take];omega),List.getElem?_set_ne (by omega),List.getElem?_take,List.getElem?_take,if_pos h1,if_pos (by omega)]
      · by_cases h2:j=k
        · subst h2
          rw[List.getElem?_append_right (by rw[List.length_take];omega),List.getElem?_set_self (by rw[List.length_take];omega),List.length_take,Nat.min_eq_left (by omega)]
          simp
        · rw[List.getElem?_eq_none (by simp;omega),List.getElem?_eq_none (by simp;omega)]
    rw[e];exact⟨A2,o1.trans o2⟩
def oCy (v:Value) (N k:Nat) (p:Value):Prop:=∃ d c',p= .slice d (N - k) c'∧(k<N→∃ g c,v= .slice (some ⟨g,0,none⟩) N c∧d=some ⟨g,k,none⟩)
section
variable {P:Program} {ops:Array Oper} {Q:Exit→Act→World→Prop} {a:Act} {w w0:World} {n:Nat} {L:List (Nat×Value)} {rest:List Oper} {d:Nat} {ty:TypeId} {pos:String} {af:Array Edge} {g:Option (Nat×Bool)} {N:Nat→Prop} {X:List Nat} {D:List As}
theorem oAs {x y:Operand} {t t' E:TypeId} {v p u:Value} {l m ll:List Int} {k:Nat} {ib:List Nat} (ht:P.underlying t=some (.slice E)) (hs:(P.info? E).map (·.size)=some 1)
    (F:Sk a n L) (hc:qH ops n L g d=true) (hx:ev L x=some p) (hy:ev L y=some u) (H:Sep X N w0 w (rl 1 xG E v l::D)) (hp:oCy v l.length k p) (hk:k≤l.length) (hu:Src 1 xG w u m ib) (hll:ll=l.take k++m.take (l.length - k)++l.drop (k+m.length))
    (kk:∀ a' w',Sep X N w0 w' (rl 1 xG E v ll::D)→Sk a' n ((d,.int .i64 ((min m.length (l.length - k):Nat):Int))::L)→wpList P ops Q rest a' w'):wpList P ops Q (⟨some d,.call ⟨.builtin .copy,#[x,y],#[t,t']⟩,ty,pos,af,g⟩::rest) a w:=by
  obtain⟨dd,c',rfl,hp⟩:=hp
  have hun:∃ ua uc,u= .slice ua m.length uc:=by
    rcases hu.2 with ⟨rfl,rfl,_⟩ | ⟨ad,uc,_,_,rfl,_⟩
    · exact⟨_,_,rfl⟩
    · exact⟨_,_,rfl⟩
  have hex:∀ {r:Value} {w':World},(Builtin.copy_ #[t,t'] ty #[.slice dd (l.length - k) c',u]).run P w= .ok r w'→(execOp a.eval ⟨some d,.call ⟨.builtin .copy,#[x,y],#[t,t']⟩,ty,pos,af,g⟩).run P w= .ok (.value r) w':=fun {r w'} h=>by
    rw[BigFrame.execOp_builtin,BigFrame.builtin_copy];simp only[List.map_toArray,List.map_cons,List.map_nil,F.ev hx,F.ev hy]
    simp [h]
  by_cases h0:min m.length (l.length - k)=0
  · have el:ll=l:=by
      rw[hll]
      rcases(by omega:m.length=0∨l.length - k=0) with h | h
      · obtain rfl:=List.length_eq_zero_iff.1 h
        simp
      · rw[h,List.take_of_length_le (by omega),List.drop_eq_nil_of_le (by omega)]
        simp
    obtain⟨ua,uc,rfl⟩:=hun;refine qX F hc (hex (run_copy_none (P:=P) w t t' ty E dd ua (l.length - k) c' m.length uc ht hs (by rw[Nat.min_comm] at h0;simpa using (by omega:min m.length (l.length - k)=0)))) (fun a' F'=>?_);rw[el] at kk;rw[h0] at kk;exact kk a' w H F'
  · obtain⟨g1,c,rfl,rfl⟩:=hp (by omega)
    obtain⟨Y,⟨rb,ib0,r1,ho,r2,r3⟩,hN,hY,tr⟩:=H.hd;obtain rfl:=sP r1;have hrb:=r1.hrb
    simp [sW,Value.ownBlock] at hrb
    subst hrb
    rcases hu.2 with ⟨_,rfl,_⟩ | ⟨ad,uc,ys,css,rfl,hyl,hcl,hcs,hcf,hr⟩
    · simp at h0
    have hm:∀ j z,m[j]?=some z→ys[j]?=some (Value.int .i64 z)∧xH z:=fun j z hz=>by
      have hj:=(List.getElem?_eq_some_iff.1 hz).1;have:=hr j z _ hz (List.getElem?_eq_getElem (by omega));rw[Nat.mul_one] at this;exact⟨by simpa using this.1,this.2.1⟩
    have hI:∀ z∈m.take (l.length - k),xH z:=fun z hz=>by
      obtain⟨j,hj⟩:=List.mem_iff_getElem?.1 (List.mem_of_mem_take hz);exact(hm j z hj).2
    have hlt:(m.take (l.length - k)).length=min m.length (l.length - k):=by rw[List.length_take,Nat.min_comm]
    obtain⟨r1',o1⟩:=Row.setsI (m.take (l.length - k)) k rfl r1 (by omega) hI
    have hcur:∃ cur,fI w g1 cur E∧l.length≤cur.size:=by
      obtain⟨xs,bss,ho2,_⟩:=r1.row
      rcases ho2.2 with ⟨h,_⟩ | ⟨g3,cap,cur,h,h2,h3,h4,h5,h6,h7⟩
      · cases h
      simp only[Value.slice.injEq,Option.some.injEq,Addr.mk.injEq,and_true,true_and] at h;obtain⟨rfl,rfl⟩:=h;exact⟨cur,h3,by omega⟩
    obtain⟨cur,hK,hcz⟩:=hcur
    have hrun:=run_copy_cells (P:=P) w t t' ty E g1 k (l.length - k) c' ad m.length uc ((m.take (l.length - k)).map (Value.int .i64)) ht hs (by rw[List.length_map,hlt])
      (fun j q hq=>by
        rw[List.getElem?_map] at hq;obtain⟨z,hz,rfl⟩:=Option.map_eq_some_iff.1 hq;rw[List.getElem?_take] at hz
        split at hz
        · exact hcl j _ (hm j z hz).1
        · cases hz)
      (fun j hj=>by rw[List.length_map,hlt] at hj;rw[hK.cell,Array.getElem?_eq_getElem (by omega)];rfl)
      (fun j hj=>hK.frozen _)
      (fun q hq=>by obtain⟨z,_,rfl⟩:=List.mem_map.1 hq;rfl)
    rw[List.length_map,hlt] at hrun;refine qX F hc (hex hrun) (fun a' F'=>?_)
    have el:ll=l.take k++m.take (l.length - k)++l.drop (k+(m.take (l.length - k)).length):=by
      rw[hll,hlt]
      congr 1
      by_cases hle:m.length≤l.length - k
      · rw[Nat.min_eq_left hle]
      · rw[List.drop_eq_nil_of_le (by omega),List.drop_eq_nil_of_le (by omega)]
    subst el;exact kk a' _ (tr (Z:=[g1]) r2 o1 (B:=rl 1 xG E (.slice (some ⟨g1,0,none⟩) l.length c) _) (Y1:=Y) ⟨[g1],[],r1',Own.nil _ _,r2,fun _ h=>nomatch h⟩ n0 (fun c hc=>⟨.inl hc,Nat.lt_of_lt_of_le (hY c hc).1 o1.size⟩)) F'
theorem xPm {x y:Operand} {t t':TypeId} {i j:Int} (F:Sk a n L) (hc:qH ops n L g d=true) (e:ev L x=some (.int .u64 i)) (e':ev L y=some (.int .u64 j)) (k:∀ a',Sk a' n ((d,.bool (decide (j<i)))::L)→wpList P ops Q rest a' w) :
    wpList P ops Q (⟨some d,.binOp .gtr t x y t',ty,pos,af,g⟩::rest) a w:=qX F hc (by unfold execOp;simp only[F.ev e,F.ev e'];rfl) k
theorem xUi {x y:Operand} {t e:TypeId} {dd:Option Tmp} {b N1 c k:Nat} {w':World} (ht:P.underlying t=some (.slice e)) (hz:∀ w,(sizeOf e).run P w= .ok 1 w) (F:Sk a n L) (he:ev L x=some (.slice (some ⟨b,0,none⟩) N1 c)) (hy:ev L y=some (.int .i64 (k:Int))) (hk:k<N1) (hc:N1≤c) :
    (execOp a.eval ⟨dd,.slice t x (some y) none none,ty,pos,af,g⟩).run P w'= .ok (.value (.slice (some ⟨b,k,none⟩) (N1 - k) (c - k))) w':=by
  have hE:P.elem t=e:=by simp [Program.elem,ht]
  have ht':P.underlying t=some (.slice (P.elem t)):=by rw[hE];exact ht
  have h1:(Instr.sliceAt t (.slice (some ⟨b,0,none⟩) N1 c) (some (.int .i64 (k:Int))) none none).run P w'= .ok (.slice (some ⟨b,k,none⟩) (N1 - k) (c - k)) w':=by
    rw[run_sliceAt_slice w' _ _ _ _ _ ht',run_slice_l w' t _ _ _ ht' .i64 _ (by omega) (by omega),hE,hz]
    simp [Result.andThen,sliced,Addr.add,show ¬ c=k by omega]
    try exact fun h=>h.symm
  unfold execOp
  simp only[F.ev he,Option.map_none,Option.map_some,F.ev hy]
  simp [h1]
theorem xSq {x y:Operand} {t e:TypeId} {dd:Option Tmp} {b N1 c k:Nat} {w':World} (ht:P.underlying t=some (.slice e)) (hz:∀ w,(sizeOf e).run P w= .ok 1 w) (F:Sk a n L) (he:ev L x=some (.slice (some ⟨b,0,none⟩) N1 c)) (hy:ev L y=some (.int .i64 (k:Int))) (hk:k≤N1) (hc:N1≤c) :
    (execOp a.eval ⟨dd,.slice t x none (some y) none,ty,pos,af,g⟩).run P w'= .ok (.value (.slice (some ⟨b,0,none⟩) k c)) w':=by
  have hE:P.elem t=e:=by simp [Program.elem,ht]
  have ht':P.underlying t=some (.slice (P.elem t)):=by rw[hE];exact ht
  have h1:(Instr.sliceAt t (.slice (some ⟨b,0,none⟩) N1 c) none (some (.int .i64 (k:Int))) none).run P w'= .ok (.slice (some ⟨b,0,none⟩) k c) w':=by
    rw[run_sliceAt_slice w' _ _ _ _ _ ht',run_slice_h w' t _ _ _ ht' .i64 _ (by omega) (by omega),hE,hz]
    simp [Result.andThen,sliced,Addr.add]
  unfold execOp
  simp only[F.ev he,Option.map_none,Option.map_some,F.ev hy]
  simp [h1]
theorem Sep.shape {E:TypeId} {v:Value} {l:List Int} (H:Sep X N w0 w (rl 1 xG E v l::D)) (h:0<l.length):∃ b c,v= .slice (some ⟨b,0,none⟩) l.length c∧l.length≤c:=by
  obtain⟨Y,⟨rb,ib,r1,_⟩,_⟩:=H.hd;obtain⟨xs,bss,ho,_⟩:=r1.row
  rcases ho.2 with ⟨_,h0⟩ | ⟨b,cap,cur,rfl,h2,h3,h4,h5⟩
  · omega
  · exact⟨b,cap,rfl,h4⟩
theorem Sep.tailv {E:TypeId} {v:Value} {l:List Int} (H:Sep X N w0 w (rl 1 xG E v l::D)):oCy v l.length 0 v:=by
  obtain⟨Y,⟨rb,ib,r1,_⟩,_⟩:=H.hd;obtain⟨xs,bss,ho,_⟩:=r1.row
  rcases ho.2 with ⟨rfl,h0⟩ | ⟨b,cap,cur,rfl,h2,h3,h4,h5⟩
  · exact⟨none,0,by rw[h0],fun h=>absurd h (by omega)⟩
  · exact⟨_,cap,rfl,fun _=>⟨b,cap,rfl,rfl⟩⟩
theorem Sep.srcTake {E:TypeId} {b c k:Nat} {l:List Int} (H:Sep X N w0 w (rl 1 xG E (.slice (some ⟨b,0,none⟩) l.length c) l::D)) (hk:k≤l.length):Src 1 xG w (.slice (some ⟨b,0,none⟩) k c) (l.take k) []:=by
  obtain⟨Y,⟨rb,ib,r1,_⟩,_⟩:=H.hd;obtain rfl:=sP r1
  rcases r1.src.2 with ⟨h,_⟩ | ⟨ad,uc,ys,css,h,hyl,hcl,hcs,hcf,hr⟩
  · cases h
  injection h with h1 h2 h3
  obtain rfl:=Option.some.inj h1;subst h3
  have hlen:(l.take k).length=k:=by rw[List.length_take];omega
  refine⟨qM.nil w,.inr ⟨_,c,ys.take k,css.take k,by rw[hlen],by rw[List.length_take,hlen];omega,fun j q hq=>?_,by rw[List.length_take,hlen];omega,?_,fun i x bi hx hb=>?_⟩⟩
  · rw[List.getElem?_take] at hq
    split at hq
    · exact hcl j q hq
    · cases hq
  · rw[List.flatten_eq_nil_iff] at hcf ⊢
    exact fun y hy=>hcf y (List.mem_of_mem_take hy)
  · rw[List.getElem?_take] at hx hb
    split at hx
    · rename_i hik
      rw[if_pos hik] at hb;have:=hr i x bi hx hb;refine xG.fr _ _ _ _ _ _ this (fun _ _=>rfl) (fun j hj=>?_)
      obtain rfl:j=0:=by omega
      show(ys.take k)[i*1+0]?=ys[i*1+0]?
      rw[List.getElem?_take,if_pos (by omega)]
    · cases hx
end
theorem xNn (n:Nat) (hn:n≤1000) (w:World):Calls Tryz.prog 121 #[.int .u64 1,.int .u64 (n:Int)] w (Gv (fun v w'=>v= .tuple #[.int .u64 0,.int .u64 (n:Int)]∧w'=w)):=by
  have h:=Go.Proofs.Any.bits_Mul layM 1 n (by decide) (by omega) w;refine Calls.mono h ?_
  rintro e w' ⟨rfl,rfl⟩
  refine⟨_,rfl,?_,rfl⟩;rw[show 1*n / 18446744073709551616=0 by omega,show 1*n % 18446744073709551616=n by omega]
  rfl
def vZ (x0:List Int) (x1:Int):Option (List Int):=if x0.length=1∧0≤x1∧x1≤1000 then some (List.replicate x1.toNat (x0.getD 0 0)) else none
theorem xUr {y:Int} {n k:Nat} (hk:k≤n):List.replicate (k+min k (n - k)) y++List.replicate (n - (k+min k (n - k))) (0:Int)=(List.replicate k y++List.replicate (n - k) (0:Int)).take k++((List.replicate k y++List.replicate (n - k) (0:Int)).take k).take ((List.replicate k y++List.replicate (n - k) (0:Int)).length - k)++(List.replicate k y++List.replicate (n - k) (0:Int)).drop (k+((List.replicate k y++List.replicate (n - k) (0:Int)).take k).length):=by
  have e1:(List.replicate k y++List.replicate (n - k) (0:Int)).take k=List.replicate k y:=by rw[List.take_append_of_le_length (by simp),List.take_of_length_le (by simp)]
  rw[e1];simp only[List.length_append,List.length_replicate];rw[show k+(n - k) - k=n - k by omega,List.take_replicate,List.drop_append,List.length_replicate,show k+k - k=k by omega,List.drop_replicate,List.drop_replicate,List.replicate_append_replicate,show k - (k+k)=0 by omega,List.replicate_zero,List.nil_append,Nat.min_comm (n - k) k,show n - (k+min k (n - k))=n - k - k by omega]
set_option maxHeartbeats 1000000 in
theorem mR {B:Nat→Prop} {x0:List Int} {x1:Int} (r:List Int) (hR:vZ x0 x1=some r) {v0:Value} (w0:World) (hN:∀ c,B c→c<w0.heap.size) (A0:Bo B w0 (Sl 1 xG) v0 x0) (hx1:xH x1) :
    Calls Tryz.prog 63 #[v0,.int .i64 x1] w0 (Gv (fun v w'=>∃ (v1':Value),v=v1'∧Sep [] B w0 w' [rl 1 xG 2 v1' r])):=by
  unfold vZ at hR
  split at hR
  rotate_left
  · cases hR
  rename_i hq;obtain⟨q1,q2,q3⟩:=hq
  obtain⟨y,rfl⟩:∃ y,x0=[y]:=by
    match x0,q1 with
    | [y],_=>exact⟨y,rfl⟩
  obtain⟨n,rfl⟩:∃ n:Nat,x1=n:=⟨x1.toNat,by omega⟩;obtain rfl:=Option.some.inj hR;simp only[Int.toNat_natCast,List.getD_cons_zero];refine uW (L:=[(0,v0),(1,.int .i64 (n:Int))]) Tryz.func63 rfl rfl rfl (sc rfl (sc rfl sn)) (fun a F=>?_);have H:=Sep.start hN;refine oO (vL (kV F rfl rfl fun a F=>vM (qS ?_)));refine oO (oO (vL (kD F rfl rfl fun a F=>xFk F rfl rfl rfl fun a F=>vM (qS (xIn F rfl (show decide ((n:Int)<0)=false by simp) (eK (qS ?_)))))));refine oO (vL (kD F rfl rfl fun a F=>?_));refine oL Tryz.underlying36 F rfl rfl A0 fun a i1 F=>?_;refine oU1 (z:=1) Tryz.underlying3 Tryz.underlying163 F rfl rfl i1 rfl fun a F=>?_;refine kD F rfl rfl fun a F=>?_;refine oU1 (z:=(n:Int)) Tryz.underlying3 Tryz.underlying163 F rfl rfl hx1 (by unfold nn;rw[if_pos q2]) fun a F=>?_;refine oG F rfl Tryz.call121 rfl (xNn n (by omega) _) (fun a vv w ⟨hv,hw⟩ F=>?_);subst hv;replace hw:=hw.symm;subst hw;refine kD F rfl rfl fun a F=>?_;refine xHo F rfl rfl rfl fun a F=>?_;refine xHo F rfl rfl rfl fun a F=>?_;refine kV F rfl rfl fun a F=>kV F rfl rfl fun a F=>vM (qS ?_);refine oO (oO (vL (kD F rfl rfl fun a F=>?_)));refine xPm F rfl rfl rfl fun a F=>?_;refine kD F rfl rfl fun a F=>?_;have F:=F.eq (t:=23) rfl (show Value.bool (decide ((0:Int)<0))=Value.bool false from rfl);refine kD F rfl rfl fun a F=>?_;refine xPm F rfl rfl rfl fun a F=>?_;refine xOz F rfl rfl rfl fun a F=>vM (qS (xIn F rfl (show decide ((9223372036854775807:Int)<(n:Int))=false by simp;omega) (eK (qS ?_))));refine oO (vL (kD F rfl rfl fun a F=>?_));refine oU3 Tryz.underlying163 Tryz.underlying3 F rfl rfl hx1 fun a F=>?_
  have hmk:mkz (0:Int) (n:Int)=some (List.replicate n 0):=by
    unfold mkz
    rw[if_pos ⟨q2,by omega⟩,Int.toNat_natCast]
  refine oRM (sz:=1) (R:=xG) (z:=.int .i64 0) (bytes:=8) Tryz.underlying36 (by kernel_rfl) rfl (by decide) (by decide) (fun w=>⟨rfl,by decide,rfl⟩) F rfl rfl rfl hmk H fun a w v H F=>?_;refine kV F rfl rfl fun a F=>vM (qS ?_);refine oO (vL (kD F rfl rfl fun a F=>kD F rfl rfl fun a F=>?_));obtain⟨bs,hA1,_⟩:=H.a A0;obtain⟨ib,hsrc,_⟩:=hA1.src (by decide)
  refine oAs (k:=0) (ll:=List.replicate (min 1 n) y++List.replicate (n - min 1 n) 0) Tryz.underlying36 (by kernel_rfl) F rfl rfl rfl H H.tailv (Nat.zero_le _) hsrc (by
    cases n with
    | zero=>rfl
    | succ n=>simp [List.replicate_succ]) fun a w H F=>?_
  refine kV F rfl rfl fun a F=>vM (qS ?_);simp only[List.length_replicate,Nat.sub_zero,List.length_cons,List.length_nil,Nat.zero_add] at F;refine oO (lM ?_);refine xBs (fun g a w=>∃ k:Nat,k+g=n∧(0<n→0<k)∧Sk a 48 [(8,.int .i64 (k:Int)),(7,v)]∧Sep [] B w0 w [rl 1 xG 2 v (List.replicate k y++List.replicate (n - k) 0)]) (n - min 1 n) ?_ ?_
  · exact⟨min 1 n,by omega,by omega,F.sub (sc rfl (sc rfl sn)),H⟩
  intro g a w ⟨k,hkg,hk0,F,H⟩
  have hlen:(List.replicate k y++List.replicate (n - k) (0:Int)).length=n:=by simp;omega
  refine oO (oO (vL (kD F rfl rfl fun a F=>kD F rfl rfl fun a F=>?_)));refine oL Tryz.underlying36 F rfl rfl (H.l 0 rfl) fun a i2 F=>?_;refine xFk F rfl rfl rfl fun a F=>vM (qS ?_);rw[hlen] at F
  by_cases hkn:k<n
  · refine xOl F rfl (show decide ((k:Int)<(n:Int))=true by simpa using hkn) (eK (qS (lM ?_)))
    obtain⟨b,c,hv,hc⟩:=H.shape (by omega);rw[hlen] at hv hc;subst hv;refine xD H (by kernel_rfl) (fun w H=>?_);refine xNs 0 rfl (by kernel_rfl) (by kernel_rfl) (by kernel_rfl) ?_;refine gP F rfl (fun w l=>sZ F rfl) (fun a F=>?_);refine xNs 1 rfl (by kernel_rfl) (by kernel_rfl) (by kernel_rfl) ?_;refine gP F rfl (fun w l=>sZ F rfl) (fun a F=>?_);refine xNs 2 rfl (by kernel_rfl) (by kernel_rfl) (by kernel_rfl) ?_;refine gP F rfl (fun w l=>sZ F rfl) (fun a F=>?_);refine b_q 3 (by kernel_rfl) rfl (by kernel_rfl) (by kernel_rfl) (by kernel_rfl) (by kernel_rfl) ?_;refine gP F rfl (fun w l=>xUi Tryz.underlying36 Tryz.sizeOf2 F rfl rfl hkn hc) (fun a F=>?_);refine xNs 4 rfl (by kernel_rfl) (by kernel_rfl) (by kernel_rfl) ?_;refine gP F rfl (fun w l=>sZ F rfl) (fun a F=>?_);refine xNs 5 rfl (by kernel_rfl) (by kernel_rfl) (by kernel_rfl) ?_;refine gP F rfl (fun w l=>sZ F rfl) (fun a F=>?_);refine b_q 6 (by kernel_rfl) rfl (by kernel_rfl) (by kernel_rfl) (by kernel_rfl) (by kernel_rfl) ?_;refine gP F rfl (fun w l=>xSq Tryz.underlying36 Tryz.sizeOf2 F rfl rfl (Nat.le_of_lt hkn) hc) (fun a F=>?_);refine xE H 7 rfl (by kernel_rfl) ?_
    have H:Sep [] B w0 w [rl 1 xG 2 (.slice (some ⟨b,0,none⟩) (List.replicate k y++List.replicate (n - k) (0:Int)).length c) (List.replicate k y++List.replicate (n - k) 0)]:=by rw[hlen];exact H
    have hs:=H.srcTake (b:=b) (c:=c) (k:=k) (by rw[hlen];omega)
    have hmin:min ((List.replicate k y++List.replicate (n - k) (0:Int)).take k).length ((List.replicate k y++List.replicate (n - k) (0:Int)).length - k)=min k (n - k):=by rw[List.length_take,hlen];omega
    rw[hlen] at H;refine oAs (k:=k) Tryz.underlying36 (by kernel_rfl) F rfl rfl rfl H ⟨_,c - k,by rw[hlen],fun _=>⟨b,c,by rw[hlen],rfl⟩⟩ (by rw[hlen];omega) hs (xUr (Nat.le_of_lt hkn)) fun a w H F=>?_;rw[hmin] at F;refine vM (qS ⟨⟨_,H⟩,?_⟩);refine xE H 8 rfl (by kernel_rfl) ?_;refine xUe F rfl rfl rfl (z:=((k+min k (n - k):Nat):Int)) (by rw[Int.natCast_add];exact if_pos ⟨by omega,by omega⟩) fun a F=>?_;refine vM (qS ⟨⟨_,H⟩,?_⟩);refine xE H 9 rfl (by kernel_rfl) ?_;refine kV F rfl rfl fun a F=>vM (qS ⟨⟨_,H⟩,?_⟩);refine xXj (by kernel_rfl) ?_;refine xLn ?_;exact⟨n - (k+min k (n - k)),by omega,k+min k (n - k),by omega,by omega,F.sub (sc rfl (sc rfl sn)),H⟩
  · refine xIn F rfl (show decide ((k:Int)<(n:Int))=false by simpa using hkn) (yC (xEb (xEb (xNo (qS ?_)))))
    obtain rfl:k=n:=by omega
    refine oO (vL (kD F rfl rfl fun a F=>kV F rfl rfl fun a F=>vM (qS ?_)));refine mN ?_;refine tB F rfl (xMj F rfl) ?_;rw[Nat.sub_self,List.replicate_zero,List.append_nil] at H;exact⟨_,rfl,_,rfl,H⟩
end Go.Proofs.YtlommebgedmjdaaGreatDoor
