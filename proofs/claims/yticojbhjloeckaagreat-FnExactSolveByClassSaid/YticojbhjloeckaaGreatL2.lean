import Derived.Test.YticojbhjloeckaaGreatRows
import Derived.Test.YticojbhjloeckaaGreatT
import Derived.BigQuiet
import Derived.Lib.QuietBelow
import Derived.Test.YticojbhjloeckaaGreatL1
namespace Go.Proofs.YticojbhjloeckaaGreat
open Go.Proofs.Tryz
set_option maxHeartbeats 1000000
set_option linter.unusedVariables false
set_option linter.unusedSimpArgs false
open Go.RowKit Go.Sort
set_option maxRecDepth 100000
theorem toRel_any (v:Value) (x:Rel) (bs:List Nat) (w:World) (h:zC 2 oM w v x bs) (hm:oZ bs w) (hs:x.sz≤1048576) :
    Calls Tryz.prog 51 #[v] w (RetAgg 2 oM x w):=by
  obtain⟨v1,b1,rfl,g0,g1,hbs⟩:=oM.open h;obtain⟨a1,n1,rfl⟩:=g1.val
  clear h
  have hs':=hd hs
  clear hs
  have hm1:oZ b1 w:=fun c hc=>hm c (by rw[hbs];simp [hc])
  clear hm hbs
  go_enter func51,Tryz.ntmps51
  go_wp2_with fail
  (with_reducible refine(toInt64SS_any _ x.tuples b1 _ ?_ ?_ ?_).mono ?_)
  · exact g1.same zT.fr (hm1.same bel1)
  · exact hm1.le (Below.size (B:=w.heap.size) bel1)
  · have:=hs'.out;unfold Rel.sz at this;omega
  rintro e p0 ⟨z1,d1,rfl,k1,o1,l1⟩
  obtain⟨y1,m1,rfl⟩:=k1.val;have B0:Below w.heap.size w p0:=Below.through l1 bel1;have K0_0:kI p0 w.heap.size #[.int .i64 x.arity,.slice a1 x.tuples.length n1] 79:=kI.thru blk1 l1;have K0_1:kI p0 (w.heap.size+1) #[.int .i64 0,.slice none 0 0] 69:=kI.thru blk1 l1;have K0_2:kI p0 (w.heap.size+1+1) #[.int .i64 x.arity,.slice none 0 0] 69:=kI.thru blk1 l1;have S0:=l1.size
  try simp at S0
  have C0_0:=K0_0.cell;have F0_0:=K0_0.frozen;have C0_1:=K0_1.cell;have F0_1:=K0_1.frozen;have C0_2:=K0_2.cell;have F0_2:=K0_2.frozen
  go_wp2
  refine bodyPost_ret (v:=.agg #[.int .i64 x.arity,.slice y1 x.tuples.length m1]) (by simp [results,Tryz.results51,go_sem,C0_1]) rfl ?_;refine⟨_,_,rfl,oM.mk' (b1:=d1) ?_ ?_,?_,?_⟩
  · exact g0
  · exact(k1.same zT.fr (by repeat (first | with_reducible exact qJ.refl _ _ | ((with_reducible refine qJ.set ?_ ?_ _);rotate_left;focus (intro b hb;have:=(o1.2 b hb).1;simp at this ⊢;omega)) | ((with_reducible refine qJ.alloc ?_ ?_ _);rotate_left;exact(o1.inMem.le (by first | (simp;done) | (simp;omega) | (have:=B0.size;simp at *;omega)))) | with_reducible apply qJ.drew)))
  · have O0:=o1.mono (C:=w.heap.size) (by first | (simp;done) | (simp;omega))
    exact O0.same (by repeat (first | with_reducible exact qJ.refl _ _ | ((with_reducible refine qJ.set ?_ ?_ _);rotate_left;focus (intro b hb;have:=(o1.2 b hb).1;simp at this ⊢;omega)) | ((with_reducible refine qJ.alloc ?_ ?_ _);rotate_left;exact(o1.inMem.le (by first | (simp;done) | (simp;omega) | (have:=B0.size;simp at *;omega)))) | with_reducible apply qJ.drew))
  · exact(by repeat (first | with_reducible exact Below.refl _ _ | with_reducible exact B0 | ((with_reducible refine Below.setCell ?_ ?_ _);rotate_left;focus first | (simp;done) | (simp;omega)) | ((with_reducible refine Below.alloc ?_ ?_ _);rotate_left;focus (first | (simp;done) | (simp;omega) | (have:=B0.size;simp at *;omega))) | with_reducible apply Below.drew))
theorem toRelS_any (v:Value) (l:List Rel) (bs:List Nat) (w:World) (h:Sl 2 oM w v l bs) (hm:oZ bs w) (hs:szS Rel.sz l≤1048576) :
    Calls Tryz.prog 24 #[v] w (RetSl 2 oM l w):=by
  have hl:l.length≤1048576:=Nat.le_trans (length_le_szS _) hs;obtain⟨a,c,rfl,hc1,hc2,hc3,hat0⟩:=h.open;have hat:=hd hat0;have hs':=hd hs
  clear hat0 hc3 h hs
  have hmk:=make_n (P:=Tryz.prog) (t:=33) (e:=69) (z:=.agg #[.int .i64 0,.slice none 0 0]) (size:=2) (bytes:=32) (by kernel_rfl) (by kernel_rfl) l.length (by omega) (by omega)
  go_enter func24,Tryz.ntmps24
  go_wp2
  go_loopw [4] (fun i wr=>∃ (k:Nat) (cur:Array Value) (bss:List (List Nat)),k≤l.length∧i= .int .i64 k∧Made 2 oM 69 w l w.heap.size l.length k wr cur bss) (fun i _=>l.length - (intOf i).toNat)
  case atStart=>exact⟨0,_,[],Nat.zero_le _,rfl,Made.start 2 oM _ w l l.length _ (by simp [size_madeCells])⟩
  case round=>
    obtain⟨k,cur,bss,hk,rfl,hM⟩:=hrel
    by_cases hlt:k<l.length
    · obtain⟨b,o,bss',bi,rfl,rfl,hE,hbi,hsub,hr0⟩:=hat.out k hlt
      clear hE
      obtain⟨x,hx0,hx1⟩:∃ x,l[k]?=some x∧x=l[k]:=⟨_,List.getElem?_eq_getElem hlt,rfl⟩;rw[← hx1] at hr0;have hx:=hd hx0
      clear hx0 hx1
      have hr:oM wr (fun j=>wr.cell? ⟨b,o+k*2+j,none⟩) x bi:=oM.fr _ _ _ _ _ _ hr0 (fun c hc=>hM.below.block c (hm c (hsub c hc))) (fun j _=>(bcell hM.below).1 b _ (hm b (by simp)));have hbw:oZ bi wr:=(fun c hc=>Nat.lt_of_lt_of_le (hm c (hsub c hc)) hM.below.size)
      clear hr0 hm hsub hbi
      have hrr:=hd hr;obtain⟨v1,b1,c0,r0,c1,r1,hbi0⟩:=hr;obtain⟨a1,n1,rfl⟩:=r1.val;simp only[Nat.add_zero] at c0 c1
      have hagg:zC 2 oM wr (.agg #[.int .i64 x.arity,.slice a1 x.tuples.length n1]) x bi:=zC.of_cells oM.fr hrr.out [.int .i64 x.arity,.slice a1 x.tuples.length n1] rfl (fun j hj=>by
        match j,hj with
        | 0,_=>exact c0.symm
        | 1,_=>exact c1.symm)
      clear hrr
      go_wp2_with fail
      (with_reducible refine(toRel_any _ x bi _ hagg hbw (by have:=le_szS (c:=Rel.sz) hx.out;have:=hs'.out;omega)).mono ?_)
      rintro e w1 ⟨v',bs',rfl,hv,ho,hb⟩
      obtain⟨w1,d1,rfl,g0,g1,rfl⟩:=oM.open hv;obtain⟨a1',n1',rfl⟩:=g1.val;obtain⟨⟨u0,e0⟩,f0⟩:=hM.room hlt hb 0 (by omega);obtain⟨⟨u1,e1⟩,f1⟩:=hM.room hlt hb 1 (by omega);rw[Nat.add_zero] at e0 f0
      go_wp2
      go_round
      case rel=>
        obtain⟨cur',hM'⟩:=hM.step oM.fr hlt hb (vs:=[.int .i64 x.arity,.slice a1' x.tuples.length n1']) rfl hx.out ⟨_,_,rfl,g0,rfl,g1,rfl⟩ ho;exact⟨k+1,cur',_,hlt,by go_num,hM'⟩
      case measure=>simp [intOf];omega
    · obtain rfl:k=l.length:=by omega
      go_wp2
      go_ret
      exact⟨_,_,rfl,(hM.done oM.fr (by unfold maxLen;omega)).1,(hM.done oM.fr (by unfold maxLen;omega)).2,hM.below⟩
theorem toTemplate_any (v:Value) (x:Template) (bs:List Nat) (w:World) (h:zC 2 xG w v x bs) (hm:oZ bs w) (hs:x.sz≤1048576) :
    Calls Tryz.prog 7 #[v] w (RetAgg 2 xG x w):=by
  obtain⟨v1,b1,rfl,g0,g1,hbs⟩:=xG.open h;obtain⟨a1,n1,rfl⟩:=g1.val
  clear h
  have hs':=hd hs
  clear hs
  have hm1:oZ b1 w:=fun c hc=>hm c (by rw[hbs];simp [hc])
  clear hm hbs
  go_enter func7,Tryz.ntmps7
  go_wp2_with fail
  (with_reducible refine(toRelS_any _ x.rels b1 _ ?_ ?_ ?_).mono ?_)
  · exact g1.same oM.fr (hm1.same bel1)
  · exact hm1.le (Below.size (B:=w.heap.size) bel1)
  · have:=hs'.out;unfold Template.sz at this;omega
  rintro e p0 ⟨z1,d1,rfl,k1,o1,l1⟩
  obtain⟨y1,m1,rfl⟩:=k1.val;have B0:Below w.heap.size w p0:=Below.through l1 bel1;have K0_0:kI p0 w.heap.size #[.int .i64 x.size,.slice a1 x.rels.length n1] 24:=kI.thru blk1 l1;have K0_1:kI p0 (w.heap.size+1) #[.int .i64 0,.slice none 0 0] 35:=kI.thru blk1 l1;have K0_2:kI p0 (w.heap.size+1+1) #[.int .i64 x.size,.slice none 0 0] 35:=kI.thru blk1 l1;have S0:=l1.size
  try simp at S0
  have C0_0:=K0_0.cell;have F0_0:=K0_0.frozen;have C0_1:=K0_1.cell;have F0_1:=K0_1.frozen;have C0_2:=K0_2.cell;have F0_2:=K0_2.frozen
  go_wp2
  refine bodyPost_ret (v:=.agg #[.int .i64 x.size,.slice y1 x.rels.length m1]) (by simp [results,Tryz.results7,go_sem,C0_1]) rfl ?_;refine⟨_,_,rfl,xG.mk' (b1:=d1) ?_ ?_,?_,?_⟩
  · exact g0
  · exact(k1.same oM.fr (by repeat (first | with_reducible exact qJ.refl _ _ | ((with_reducible refine qJ.set ?_ ?_ _);rotate_left;focus (intro b hb;have:=(o1.2 b hb).1;simp at this ⊢;omega)) | ((with_reducible refine qJ.alloc ?_ ?_ _);rotate_left;exact(o1.inMem.le (by first | (simp;done) | (simp;omega) | (have:=B0.size;simp at *;omega)))) | with_reducible apply qJ.drew)))
  · have O0:=o1.mono (C:=w.heap.size) (by first | (simp;done) | (simp;omega))
    exact O0.same (by repeat (first | with_reducible exact qJ.refl _ _ | ((with_reducible refine qJ.set ?_ ?_ _);rotate_left;focus (intro b hb;have:=(o1.2 b hb).1;simp at this ⊢;omega)) | ((with_reducible refine qJ.alloc ?_ ?_ _);rotate_left;exact(o1.inMem.le (by first | (simp;done) | (simp;omega) | (have:=B0.size;simp at *;omega)))) | with_reducible apply qJ.drew))
  · exact(by repeat (first | with_reducible exact Below.refl _ _ | with_reducible exact B0 | ((with_reducible refine Below.setCell ?_ ?_ _);rotate_left;focus first | (simp;done) | (simp;omega)) | ((with_reducible refine Below.alloc ?_ ?_ _);rotate_left;focus (first | (simp;done) | (simp;omega) | (have:=B0.size;simp at *;omega))) | with_reducible apply Below.drew))
theorem szRel_any (v:Value) (x:Rel) (left:Int) (bs:List Nat) (w:World) (h:zC 2 oM w v x bs) (hm:oZ bs w) (h0:0≤left) (h1:left≤1048576) :
    Calls Tryz.prog 40 #[v,.int .i64 left] w (vV (.int .i64 (szR left x.sz)) w):=by
  obtain⟨v1,b1,rfl,g0,g1,hbs⟩:=oM.open h;obtain⟨a1,n1,rfl⟩:=g1.val
  clear h
  have hm1:oZ b1 w:=fun c hc=>hm c (by rw[hbs];simp [hc])
  clear hm hbs
  obtain⟨s0,hs0⟩:∃ n:Nat,n=szS List.length x.tuples:=⟨_,rfl⟩;have hsz:=hd (show x.sz=s0 by unfold Rel.sz;rw[hs0]);have hs0':=hd hs0.symm
  clear hs0
  by_cases f0:(s0:Int)≤left
  rotate_left
  · rw[show szR left x.sz= -1 from if_neg (by rw[hsz.out];omega)]
    go_enter func40,Tryz.ntmps40
    go_wp2_with fail
    (with_reducible refine(szInt64SS_any _ x.tuples _ b1 _ ?_ ?_ ?_ ?_).mono ?_)
    · exact g1.same zT.fr (hm1.same bel1)
    · exact hm1.le (Below.size (B:=w.heap.size) bel1)
    · omega
    · omega
    rintro e p0 ⟨rfl,l0⟩
    rw[show szR (left) (szS List.length x.tuples)= -1 from if_neg (by rw[hs0'.out];omega)];have B0:Below w.heap.size w p0:=Below.through l0 bel1;have K0:kI p0 w.heap.size #[.int .i64 x.arity,.slice a1 x.tuples.length n1] 79:=kI.thru blk1 l0;have C0:=K0.cell
    go_wp2
    go_ret
    exact⟨rfl,(by repeat (first | with_reducible exact Below.refl _ _ | with_reducible exact B0 | ((with_reducible refine Below.setCell ?_ ?_ _);rotate_left;focus first | (simp;done) | (simp;omega)) | ((with_reducible refine Below.alloc ?_ ?_ _);rotate_left;focus (first | (simp;done) | (simp;omega) | (have:=B0.size;simp at *;omega))) | with_reducible apply Below.drew))⟩
  go_enter func40,Tryz.ntmps40
  go_wp2_with fail
  (with_reducible refine(szInt64SS_any _ x.tuples _ b1 _ ?_ ?_ ?_ ?_).mono ?_)
  · exact g1.same zT.fr (hm1.same bel1)
  · exact hm1.le (Below.size (B:=w.heap.size) bel1)
  · omega
  · omega
  rintro e p0 ⟨rfl,l0⟩
  rw[show szR (left) (szS List.length x.tuples)=left - s0 from (by rw[hs0'.out];exact if_pos (by omega))]
  have z0:¬ (left - (s0:Int)<0):=by omega
  have B0:Below w.heap.size w p0:=Below.through l0 bel1;have K0:kI p0 w.heap.size #[.int .i64 x.arity,.slice a1 x.tuples.length n1] 79:=kI.thru blk1 l0;have C0:=K0.cell
  go_wp2
  go_ret
  exact⟨ret64 (by rw[show szR left x.sz=left - x.sz from if_pos (by rw[hsz.out];omega),hsz.out];try omega),(by repeat (first | with_reducible exact Below.refl _ _ | with_reducible exact B0 | ((with_reducible refine Below.setCell ?_ ?_ _);rotate_left;focus first | (simp;done) | (simp;omega)) | ((with_reducible refine Below.alloc ?_ ?_ _);rotate_left;focus (first | (simp;done) | (simp;omega) | (have:=B0.size;simp at *;omega))) | with_reducible apply Below.drew))⟩
theorem szRelS_any (v:Value) (l:List Rel) (left:Int) (bs:List Nat) (w:World) (h:Sl 2 oM w v l bs) (hm:oZ bs w) (h0:0≤left) (h1:left≤1048576) :
    Calls Tryz.prog 17 #[v,.int .i64 left] w (vV (.int .i64 (szR left (szS Rel.sz l))) w):=by
  obtain⟨a,c,rfl,hc1,hc2,hc3,hat0⟩:=h.open;have hat:=hd hat0
  clear hat0 hc3 h
  by_cases hle:(l.length:Int)≤left
  rotate_left
  · rw[show szR left (szS Rel.sz l)= -1 from if_neg (by have:=length_le_szS (c:=Rel.sz) l;omega)]
    have hle2:left - (l.length:Int)<0:=by omega
    go_enter func17,Tryz.ntmps17
    go_wp2
    go_ret
    exact⟨rfl,Below.refl _ _⟩
  have hle2:¬ (left - (l.length:Int)<0):=by omega
  go_enter func17,Tryz.ntmps17
  go_wp2
  go_loopw [1,5] (fun r i wr=>∃ k:Nat,k≤l.length∧i= .int .i64 k∧r= .int .i64 (left - l.length - (zK Rel.sz (l.take k):Nat))∧(zK Rel.sz (l.take k):Int)≤left - l.length∧Below w.heap.size w wr) (fun _ i _=>l.length - (intOf i).toNat)
  case atStart=>exact⟨0,Nat.zero_le _,rfl,by simp [zK],by simp [zK];omega,Below.refl _ _⟩
  case round=>
    obtain⟨k,hk,rfl,rfl,hcl,hB⟩:=hrel
    by_cases hlt:k<l.length
    · obtain⟨b,o,bss',bi,rfl,rfl,hE,hbi,hsub,hr0⟩:=hat.out k hlt
      clear hE
      obtain⟨x,hx0,hx1⟩:∃ x,l[k]?=some x∧x=l[k]:=⟨_,List.getElem?_eq_getElem hlt,rfl⟩;rw[← hx1] at hr0;have hx:=hd hx0;have hsucc:=hd (kQ (c:=Rel.sz) hx0);have hadd:=cntS_take_add (c:=Rel.sz) hx0;have hadd':=hd hadd
      clear hx0 hx1 hadd
      have hr:oM wr (fun j=>wr.cell? ⟨b,o+k*2+j,none⟩) x bi:=oM.fr _ _ _ _ _ _ hr0 (fun c hc=>hB.block c (hm c (hsub c hc))) (fun j _=>(bcell hB).1 b _ (hm b (by simp)));have hbw:oZ bi wr:=(fun c hc=>Nat.lt_of_lt_of_le (hm c (hsub c hc)) hB.size)
      clear hr0 hm hsub hbi
      have hrr:=hd hr;obtain⟨v1,b1,c0,r0,c1,r1,hbi0⟩:=hr;obtain⟨a1,n1,rfl⟩:=r1.val;simp only[Nat.add_zero] at c0 c1;generalize hcc:zK Rel.sz (l.take k)=cc at *
      clear hcc
      have hagg:zC 2 oM wr (.agg #[.int .i64 x.arity,.slice a1 x.tuples.length n1]) x bi:=zC.of_cells oM.fr hrr.out [.int .i64 x.arity,.slice a1 x.tuples.length n1] rfl (fun j hj=>by
        match j,hj with
        | 0,_=>exact c0.symm
        | 1,_=>exact c1.symm)
      by_cases hfit:(x.sz:Int)≤left - l.length - cc
      · have hz:¬ (left - l.length - cc - (x.sz:Int)<0):=by omega
        go_wp2_with fail
        (with_reducible refine(szRel_any _ x _ bi _ hagg hbw (by omega) (by omega)).mono ?_)
        rintro e w1 ⟨rfl,hb⟩
        rw[show szR (left - l.length - cc) x.sz=left - l.length - cc - x.sz from if_pos hfit];have hb':=Below.through hb hB
        go_wp2
        go_roundw
        case rel=>exact⟨k+1,hlt,by go_num,by rw[hsucc.out];apply congrArg;omega,by rw[hsucc.out];omega,hb'⟩
        case measure=>simp [intOf];omega
      · have hz:szR (left - l.length - cc) x.sz= -1:=if_neg hfit
        have hz':=hd hz
        clear hz
        have hneg:szR left (szS Rel.sz l)= -1:=if_neg (by have:=hadd'.out;rw[szS_eq];omega);have hneg':=hd hneg
        clear hneg
        go_wp2_with fail
        (with_reducible refine(szRel_any _ x _ bi _ hagg hbw (by omega) (by omega)).mono ?_)
        rintro e w1 ⟨rfl,hb⟩
        rw[hz'.out];have hb':=Below.through hb hB
        go_wp2
        go_ret
        exact⟨by rw[hneg'.out];rfl,hb'⟩
    · obtain rfl:k=l.length:=by omega
      rw[List.take_length] at hcl ⊢
      have hfin:szR left (szS Rel.sz l)=left - l.length - (zK Rel.sz l:Nat):=by unfold szR;rw[szS_eq,if_pos (by omega)];omega
      have hfin':=hd hfin
      clear hfin
      go_wp2
      go_ret
      exact⟨by rw[hfin'.out];rfl,hB⟩
theorem szTemplate_any (v:Value) (x:Template) (left:Int) (bs:List Nat) (w:World) (h:zC 2 xG w v x bs) (hm:oZ bs w) (h0:0≤left) (h1:left≤1048576) :
    Calls Tryz.prog 4 #[v,.int .i64 left] w (vV (.int .i64 (szR left x.sz)) w):=by
  obtain⟨v1,b1,rfl,g0,g1,hbs⟩:=xG.open h;obtain⟨a1,n1,rfl⟩:=g1.val
  clear h
  have hm1:oZ b1 w:=fun c hc=>hm c (by rw[hbs];simp [hc])
  clear hm hbs
  obtain⟨s0,hs0⟩:∃ n:Nat,n=szS Rel.sz x.rels:=⟨_,rfl⟩;have hsz:=hd (show x.sz=s0 by unfold Template.sz;rw[hs0]);have hs0':=hd hs0.symm
  clear hs0
  by_cases f0:(s0:Int)≤left
  rotate_left
  · rw[show szR left x.sz= -1 from if_neg (by rw[hsz.out];omega)]
    go_enter func4,Tryz.ntmps4
    go_wp2_with fail
    (with_reducible refine(szRelS_any _ x.rels _ b1 _ ?_ ?_ ?_ ?_).mono ?_)
    · exact g1.same oM.fr (hm1.same bel1)
    · exact hm1.le (Below.size (B:=w.heap.size) bel1)
    · omega
    · omega
    rintro e p0 ⟨rfl,l0⟩
    rw[show szR (left) (szS Rel.sz x.rels)= -1 from if_neg (by rw[hs0'.out];omega)];have B0:Below w.heap.size w p0:=Below.through l0 bel1;have K0:kI p0 w.heap.size #[.int .i64 x.size,.slice a1 x.rels.length n1] 24:=kI.thru blk1 l0;have C0:=K0.cell
    go_wp2
    go_ret
    exact⟨rfl,(by repeat (first | with_reducible exact Below.refl _ _ | with_reducible exact B0 | ((with_reducible refine Below.setCell ?_ ?_ _);rotate_left;focus first | (simp;done) | (simp;omega)) | ((with_reducible refine Below.alloc ?_ ?_ _);rotate_left;focus (first | (simp;done) | (simp;omega) | (have:=B0.size;simp at *;omega))) | with_reducible apply Below.drew))⟩
  go_enter func4,Tryz.ntmps4
  go_wp2_with fail
  (with_reducible refine(szRelS_any _ x.rels _ b1 _ ?_ ?_ ?_ ?_).mono ?_)
  · exact g1.same oM.fr (hm1.same bel1)
  · exact hm1.le (Below.size (B:=w.heap.size) bel1)
  · omega
  · omega
  rintro e p0 ⟨rfl,l0⟩
  rw[show szR (left) (szS Rel.sz x.rels)=left - s0 from (by rw[hs0'.out];exact if_pos (by omega))]
  have z0:¬ (left - (s0:Int)<0):=by omega
  have B0:Below w.heap.size w p0:=Below.through l0 bel1;have K0:kI p0 w.heap.size #[.int .i64 x.size,.slice a1 x.rels.length n1] 24:=kI.thru blk1 l0;have C0:=K0.cell
  go_wp2
  go_ret
  exact⟨ret64 (by rw[show szR left x.sz=left - x.sz from if_pos (by rw[hsz.out];omega),hsz.out];try omega),(by repeat (first | with_reducible exact Below.refl _ _ | with_reducible exact B0 | ((with_reducible refine Below.setCell ?_ ?_ _);rotate_left;focus first | (simp;done) | (simp;omega)) | ((with_reducible refine Below.alloc ?_ ?_ _);rotate_left;focus (first | (simp;done) | (simp;omega) | (have:=B0.size;simp at *;omega))) | with_reducible apply Below.drew))⟩
theorem eqRel_any (v1 v2:Value) (x:Rel) (bs1 bs2:List Nat) (w:World) (h1:zC 2 oM w v1 x bs1) (h2:zC 2 oM w v2 x bs2) (hm1:oZ bs1 w) (hm2:oZ bs2 w) :
    Calls Tryz.prog 77 #[v1,v2] w (vV (.bool true) w):=by
  obtain⟨v1,b1,rfl,g0,g1,hbs1⟩:=oM.open h1;obtain⟨a1,n1,rfl⟩:=g1.val;obtain⟨u1,d1,rfl,k0,k1,hbs2⟩:=oM.open h2;obtain⟨e1,m1,rfl⟩:=k1.val
  clear h1 h2
  have hmb1:oZ b1 w:=fun c hc=>hm1 c (by rw[hbs1];simp [hc]);have hmd1:oZ d1 w:=fun c hc=>hm2 c (by rw[hbs2];simp [hc])
  clear hm1 hm2 hbs1 hbs2
  go_enter func77,Tryz.ntmps77
  go_wp2_with fail
  (with_reducible refine(eqInt64SS_any _ _ x.tuples b1 d1 _ ?_ ?_ ?_ ?_).mono ?_)
  · exact g1.same zT.fr (hmb1.same bel1)
  · exact k1.same zT.fr (hmd1.same bel1)
  · exact hmb1.le (Below.size (B:=w.heap.size) bel1)
  · exact hmd1.le (Below.size (B:=w.heap.size) bel1)
  rintro e p0 ⟨rfl,l0⟩
  have B0:Below w.heap.size w p0:=Below.through l0 bel1;have K0_0:kI p0 w.heap.size #[.int .i64 x.arity,.slice a1 x.tuples.length n1] 69:=kI.thru blk1 l0;have K0_1:kI p0 (w.heap.size+1) #[.int .i64 x.arity,.slice e1 x.tuples.length m1] 69:=kI.thru blk1 l0;have S0:=l0.size
  try simp at S0
  have C0_0:=K0_0.cell;have F0_0:=K0_0.frozen;have C0_1:=K0_1.cell;have F0_1:=K0_1.frozen
  go_wp2
  go_ret
  exact⟨rfl,(by repeat (first | with_reducible exact Below.refl _ _ | with_reducible exact B0 | ((with_reducible refine Below.setCell ?_ ?_ _);rotate_left;focus first | (simp;done) | (simp;omega)) | ((with_reducible refine Below.alloc ?_ ?_ _);rotate_left;focus (first | (simp;done) | (simp;omega) | (have:=B0.size;simp at *;omega))) | with_reducible apply Below.drew))⟩
theorem eqRelS_any (v1 v2:Value) (l:List Rel) (bs1 bs2:List Nat) (w:World) (h1:Sl 2 oM w v1 l bs1) (h2:Sl 2 oM w v2 l bs2) (hm1:oZ bs1 w) (hm2:oZ bs2 w) :
    Calls Tryz.prog 36 #[v1,v2] w (vV (.bool true) w):=by
  obtain⟨a,c,rfl,hc1,hc2,_,hat0⟩:=h1.open;have hat:=hd hat0
  clear hat0 h1
  obtain⟨a',c',rfl,hc1',hc2',_,hat0⟩:=h2.open;have hat':=hd hat0
  clear hat0 h2
  go_enter func36,Tryz.ntmps36
  go_wp2
  go_loopw [5] (fun i wr=>∃ k:Nat,k≤l.length∧i= .int .i64 k∧Below w.heap.size w wr) (fun i _=>l.length - (intOf i).toNat)
  case atStart=>exact⟨0,Nat.zero_le _,rfl,Below.refl _ _⟩
  case round=>
    obtain⟨k,hk,rfl,hB⟩:=hrel
    by_cases hlt:k<l.length
    · obtain⟨b,o,bss',bi,rfl,rfl,hE,hbi,hsub,hr0⟩:=hat.out k hlt
      clear hE
      obtain⟨b',o',bss'',bi',rfl,rfl,hE,hbi',hsub',hr0'⟩:=hat'.out k hlt
      clear hE
      obtain⟨x,hx1⟩:∃ x,x=l[k]:=⟨_,rfl⟩;rw[← hx1] at hr0 hr0'
      clear hx1
      have hr:oM wr (fun j=>wr.cell? ⟨b,o+k*2+j,none⟩) x bi:=oM.fr _ _ _ _ _ _ hr0 (fun c hc=>hB.block c (hm1 c (hsub c hc))) (fun j _=>(bcell hB).1 b _ (hm1 b (by simp)));have hbw:oZ bi wr:=(fun c hc=>Nat.lt_of_lt_of_le (hm1 c (hsub c hc)) hB.size);have hr':oM wr (fun j=>wr.cell? ⟨b',o'+k*2+j,none⟩) x bi':=oM.fr _ _ _ _ _ _ hr0' (fun c hc=>hB.block c (hm2 c (hsub' c hc))) (fun j _=>(bcell hB).1 b' _ (hm2 b' (by simp)));have hbw':oZ bi' wr:=(fun c hc=>Nat.lt_of_lt_of_le (hm2 c (hsub' c hc)) hB.size)
      clear hr0 hr0' hm1 hm2 hsub hsub' hbi hbi'
      have hrr:=hd hr;have hrr':=hd hr';obtain⟨v1,b1,c0,r0,c1,r1,hbi0⟩:=hr;obtain⟨a1,n1,rfl⟩:=r1.val;simp only[Nat.add_zero] at c0 c1;obtain⟨u1,e1,d0,t0,d1,t1,hbi1⟩:=hr';obtain⟨x1,m1,rfl⟩:=t1.val;simp only[Nat.add_zero] at d0 d1
      have hagg:zC 2 oM wr (.agg #[.int .i64 x.arity,.slice a1 x.tuples.length n1]) x bi:=zC.of_cells oM.fr hrr.out [.int .i64 x.arity,.slice a1 x.tuples.length n1] rfl (fun j hj=>by
        match j,hj with
        | 0,_=>exact c0.symm
        | 1,_=>exact c1.symm)
      have hagg':zC 2 oM wr (.agg #[.int .i64 x.arity,.slice x1 x.tuples.length m1]) x bi':=zC.of_cells oM.fr hrr'.out [.int .i64 x.arity,.slice x1 x.tuples.length m1] rfl (fun j hj=>by
        match j,hj with
        | 0,_=>exact d0.symm
        | 1,_=>exact d1.symm)
      have cE:=hd (show ∀ d os,Calls Tryz.prog 77 #[.agg #[.int .i64 x.arity,.slice a1 x.tuples.length n1],.agg #[.int .i64 x.arity,.slice x1 x.tuples.length m1]] (grow (redrawn wr d) os) fun e w''=>e= .returned (.bool true)∧∃ p:Regrown,w''=grow (redrawn wr p.d) p.os from fun d os=>
        Calls.regrown_of (eqRel_any _ _ x bi bi' _ (hagg.same oM.fr (hbw.same (below_regrown wr d os))) (hagg'.same oM.fr (hbw'.same (below_regrown wr d os))) (hbw.le (below_regrown wr d os).size) (hbw'.le (below_regrown wr d os).size)))
      have kc0:=cell_regrown c0;have kd0:=cell_regrown d0;have kc1:=cell_regrown c1;have kd1:=cell_regrown d1
      have hlt':(k:Int)<(l.length:Int):=by omega
      clear hrr hrr'
      go_wp2
      refine wp_region_quiet_below (by kernel_rfl) (by kernel_rfl) ?_
      repeat (quiet_step (exact cE.out _ _))
      refine wpQuiet_nil ?_;intro _ hw';obtain⟨⟨dq,osq⟩,hw''⟩:=hw';subst hw'';have hq:=below_regrown wr dq osq
      clear kc0 kd0 kc1 kd1
      go_wp2
      go_roundw
      case rel=>exact⟨k+1,hlt,by go_num,Below.through hq hB⟩
      case measure=>simp [intOf];omega
    · obtain rfl:k=l.length:=by omega
      go_wp2
      go_ret
      exact⟨rfl,hB⟩
theorem eqTemplate_any (v1 v2:Value) (x:Template) (bs1 bs2:List Nat) (w:World) (h1:zC 2 xG w v1 x bs1) (h2:zC 2 xG w v2 x bs2) (hm1:oZ bs1 w) (hm2:oZ bs2 w) :
    Calls Tryz.prog 11 #[v1,v2] w (vV (.bool true) w):=by
  obtain⟨v1,b1,rfl,g0,g1,hbs1⟩:=xG.open h1;obtain⟨a1,n1,rfl⟩:=g1.val;obtain⟨u1,d1,rfl,k0,k1,hbs2⟩:=xG.open h2;obtain⟨e1,m1,rfl⟩:=k1.val
  clear h1 h2
  have hmb1:oZ b1 w:=fun c hc=>hm1 c (by rw[hbs1];simp [hc]);have hmd1:oZ d1 w:=fun c hc=>hm2 c (by rw[hbs2];simp [hc])
  clear hm1 hm2 hbs1 hbs2
  go_enter func11,Tryz.ntmps11
  go_wp2_with fail
  (with_reducible refine(eqRelS_any _ _ x.rels b1 d1 _ ?_ ?_ ?_ ?_).mono ?_)
  · exact g1.same oM.fr (hmb1.same bel1)
  · exact k1.same oM.fr (hmd1.same bel1)
  · exact hmb1.le (Below.size (B:=w.heap.size) bel1)
  · exact hmd1.le (Below.size (B:=w.heap.size) bel1)
  rintro e p0 ⟨rfl,l0⟩
  have B0:Below w.heap.size w p0:=Below.through l0 bel1;have K0_0:kI p0 w.heap.size #[.int .i64 x.size,.slice a1 x.rels.length n1] 35:=kI.thru blk1 l0;have K0_1:kI p0 (w.heap.size+1) #[.int .i64 x.size,.slice e1 x.rels.length m1] 35:=kI.thru blk1 l0;have S0:=l0.size
  try simp at S0
  have C0_0:=K0_0.cell;have F0_0:=K0_0.frozen;have C0_1:=K0_1.cell;have F0_1:=K0_1.frozen
  go_wp2
  go_ret
  exact⟨rfl,(by repeat (first | with_reducible exact Below.refl _ _ | with_reducible exact B0 | ((with_reducible refine Below.setCell ?_ ?_ _);rotate_left;focus first | (simp;done) | (simp;omega)) | ((with_reducible refine Below.alloc ?_ ?_ _);rotate_left;focus (first | (simp;done) | (simp;omega) | (have:=B0.size;simp at *;omega))) | with_reducible apply Below.drew))⟩
theorem markRelS_any (v:Value) (l:List Rel) (k:Int) (bs:List Nat) (B:Nat) (w:World) (h:Sl 2 oM w v l bs) (ho:Own B bs w) (h0:0≤k) (hk:k+(zK Rel.ecnt l:Nat)≤4611686018427387904) :
    Calls Tryz.prog 38 #[v,.int .i64 k] w (Marks 2 oM v (mkS Rel.emk Rel.ecnt l k) bs (k+(zK Rel.ecnt l:Nat)) B w):=by
  obtain⟨a,c,rfl,hc1,hc2,hc3,-⟩:=h.open;obtain⟨n,hn0⟩:∃ n,n=l.length:=⟨_,rfl⟩;have hn:=hd hn0
  have h':Sl 2 oM w (.slice a n c) l bs:=by rw[hn0];exact h
  rw[← hn0] at hc1 ⊢
  clear h hc3 hn0
  go_enter func38,Tryz.ntmps38
  go_wp2
  go_loopw [1,5] (fun r i wr=>∃ j:Nat,j≤n∧i= .int .i64 j∧r= .int .i64 (k+(zK Rel.ecnt (l.take j):Nat))∧Sl 2 oM wr (.slice a n c) (mkS Rel.emk Rel.ecnt (l.take j) k++l.drop j) bs∧Own B bs wr∧Only bs w wr) (fun _ i _=>n - (intOf i).toNat)
  case atStart=>exact⟨0,Nat.zero_le _,rfl,by simp [zK],h',ho,Only.refl _ _⟩
  case round=>
    obtain⟨j,hj,rfl,rfl,hS,hO,hU⟩:=hrel
    clear h' ho
    by_cases hlt:j<n
    · obtain⟨x,hx0⟩:∃ x,l[j]?=some x:=⟨_,List.getElem?_eq_getElem (by rw[← hn.out];exact hlt)⟩
      have hget:=mk_get (m:=Rel.emk) (c:=Rel.ecnt) hx0 k;have hset:=hd (mk_set (m:=Rel.emk) (c:=Rel.ecnt) hx0 k);have hlen:=mk_len (m:=Rel.emk) (c:=Rel.ecnt) l j (by rw[← hn.out];exact hj) k;rw[← hn.out] at hlen;generalize mkS Rel.emk Rel.ecnt (l.take j) k++l.drop j=L at *
      have hlt2:j<L.length:=by rw[hlen];exact hlt
      obtain⟨b,o,bss,bi,rfl,rfl,hE,hbi,hsub,hr,hrow⟩:=Sl.at' hS hO hlt2 hget;have hL:=hd hlen
      clear hget hlen
      have hx:=hd hx0;have hsucc:=hd (kQ (c:=Rel.ecnt) hx0);have hadd:=cntS_take_add (c:=Rel.ecnt) hx0;have hle:=hd hadd
      clear hx0 hadd
      obtain⟨hnb,hoi⟩:=Own.split hO hbi;have hbi_in:oZ bi wr:=fun c hc=>hO.inMem c (hsub c hc);obtain⟨v1,b1,c0,r0,c1,r1,hbi0⟩:=hr;obtain⟨a1,n1,rfl⟩:=r1.val;simp only[Nat.add_zero] at c0 c1
      have hrf:∀ m,wr.frozen? ⟨b,m,none⟩=false:=by obtain⟨cur,e,hh⟩:=hrow;exact fun m=>(Own.cell0 hh m).2
      generalize hcc:zK Rel.ecnt (l.take j)=cc at *
      clear hcc
      obtain⟨y1,hy1⟩:∃ y:Nat,y=zK List.length x.tuples:=⟨_,rfl⟩
      have hec:x.ecnt=1+y1:=by unfold Rel.ecnt Rel.cnt;rw[hy1];try omega
      have hec':=hd hec;have hle2:=hle.out;rw[hec] at hle2
      clear hec
      have hy1':=hd hy1.symm
      clear hy1
      have hoi':=hoi;rw[hbi0] at hoi';have OW0:Own B b1 wr:=hoi'
      have hin0:∀ c∈b1,c∈bi:=fun c hc=>by rw[hbi0];simp [hc]
      have hne0:∀ c∈b1,c≠b:=fun c hc e=>hnb (e ▸ hin0 c hc);have hu0:Upd b (o+j*2) (o+j*2+2) bi wr wr:=Upd.refl hrow;have hbs:b<wr.heap.size:=lt_of_some hrow.choose_spec.choose_spec
      clear hrow
      go_wp2_with fail
      (with_reducible refine(markInt64SS_any _ x.tuples _ b1 B _ ?_ ?_ ?_ ?_).mono ?_)
      · exact r1.same zT.fr (by repeat (first | with_reducible exact qJ.refl _ _ | ((with_reducible refine qJ.set ?_ ?_ _);rotate_left;focus (intro c hc;exact hne0 c hc))))
      · exact OW0.same (by repeat (first | with_reducible exact qJ.refl _ _ | ((with_reducible refine qJ.set ?_ ?_ _);rotate_left;focus (intro c hc;exact hne0 c hc))))
      · omega
      · rw[hy1'.out];omega
      rintro e p0 ⟨rfl,l0,s0,ow0⟩
      rw[hy1'.out];have U0:Upd b (o+j*2) (o+j*2+2) bi wr p0:=Upd.call (by repeat (first | with_reducible exact hu0 | with_reducible apply Upd.set' | omega)) hin0 hnb l0;have C0:=l0.cell (fun hc=>hnb (hin0 b hc)) (by simpa using hbs)
      have hrf0:∀ m,p0.frozen? ⟨b,m,none⟩=false:=by obtain⟨cur,e,hh⟩:=U0.row;exact fun m=>(Own.cell0 hh m).2
      have hbs0:b<p0.heap.size:=Nat.lt_of_lt_of_le hbs U0.only.size
      go_wp2
      go_roundw
      case rel=>
        refine⟨j+1,hlt,by go_num,?_,?_,?_,?_⟩
        · rw[hsucc.out];rw[hec'.out];apply congrArg;omega
        · rw[← hset.out]
          exact Sl.upd oM.fr hL.out hc1 (by unfold maxLen;omega) hE hO.1 hO.inMem hlt2 hbi (by repeat (first | with_reducible exact U0 | with_reducible apply Upd.set' | omega)) ⟨_,b1,(show World.cell? _ ⟨b,o+j*2+0,none⟩=some (.int .i64 (k+cc)) from by simp [cell_set,C0,c0,c1]),(show xY (k+cc) from xY.of ⟨by omega,by omega⟩),(by simp [cell_set,C0,c0,c1]),(s0.same zT.fr (by repeat (first | with_reducible exact qJ.refl _ _ | ((with_reducible refine qJ.set ?_ ?_ _);rotate_left;focus (intro c hc;exact hne0 c hc))))),hbi0⟩
        · exact Own.upd hO (lo:=o+j*2) (hi:=o+j*2+2) (bi:=bi) (by repeat (first | with_reducible exact U0 | with_reducible apply Upd.set' | omega)) (by rw[hbi0];exact(ow0.same (by repeat (first | with_reducible exact qJ.refl _ _ | ((with_reducible refine qJ.set ?_ ?_ _);rotate_left;focus (intro c hc;exact hne0 c hc))))))
        · exact hU.trans ((Upd.only (b:=b) (lo:=o+j*2) (hi:=o+j*2+2) (bi:=bi) (by repeat (first | with_reducible exact U0 | with_reducible apply Upd.set' | omega))).mono (fun d hd=>by rcases List.mem_cons.1 hd with rfl | hd<;>first | (simp;done) | exact hsub d hd))
      case measure=>simp [intOf];omega
    · obtain rfl:j=n:=by omega
      have e1:l.take j=l:=List.take_of_length_le (by rw[← hn.out];exact Nat.le_refl _);have e2:l.drop j=[]:=List.drop_of_length_le (by rw[← hn.out];exact Nat.le_refl _);rw[e1,e2,List.append_nil] at hS;rw[e1]
      clear e1 e2
      go_wp2
      go_ret
      exact⟨rfl,hU,hS,hO⟩
theorem markTemplate_any (v:Value) (x:Template) (k:Int) (bs:List Nat) (B:Nat) (w:World) (h:zC 2 xG w v x bs) (ho:Own B bs w) (h0:0≤k) (hk:k+(x.cnt:Nat)≤4611686018427387904) :
    Calls Tryz.prog 13 #[v,.int .i64 k] w fun e w'=>MarksT 2 xG v (x.mkv k) bs (k+(x.cnt:Nat)) B w e w':=by
  obtain⟨v1,b1,rfl,g0,g1,hbs⟩:=xG.open h;obtain⟨a1,n1,rfl⟩:=g1.val
  clear h
  have hoi':=ho;rw[hbs] at hoi';have OW0:Own B b1 w:=hoi';obtain⟨y1,hy1⟩:∃ y:Nat,y=zK Rel.ecnt x.rels:=⟨_,rfl⟩
  have hct:x.cnt=y1:=by unfold Template.cnt;rw[hy1]
  rw[hct] at hk ⊢;have hbs':=hd hbs
  clear hct hoi' hbs
  have hy1':=hd hy1.symm
  clear hy1
  go_enter func13,Tryz.ntmps13
  go_wp2_with fail
  (with_reducible refine(markRelS_any _ x.rels _ b1 B _ ?_ ?_ ?_ ?_).mono ?_)
  · exact g1.same oM.fr (by repeat (first | with_reducible exact qJ.refl _ _ | ((with_reducible refine qJ.alloc ?_ ?_ _);rotate_left;focus exact OW0.inMem)))
  · exact OW0.same (by repeat (first | with_reducible exact qJ.refl _ _ | ((with_reducible refine qJ.alloc ?_ ?_ _);rotate_left;focus exact OW0.inMem)))
  · omega
  · rw[hy1'.out];omega
  rintro e p0 ⟨rfl,l0,s0,ow0⟩
  rw[hy1'.out];have W0:Only bs w p0:=(Only.of_below (bel1)).trans (l0.mono (fun d hx=>by rw[hbs'.out];simp [hx]));have K0:kI p0 w.heap.size #[.int .i64 x.size,.slice a1 x.rels.length n1] 35:=kI.only blk1 l0 (fun hx=>by have:=OW0.inMem _ hx;omega);have C0:=K0.cell
  go_wp2
  go_ret
  refine⟨ret64 (by omega),W0,?_,?_⟩
  · rw[hbs'.out];refine xG.mk' (x:=x.mkv k) ?_ ?_
    · exact g0
    · exact(s0.same oM.fr (qJ.refl _ _))
  · rw[hbs'.out];exact(ow0.same (qJ.refl _ _))
end Go.Proofs.YticojbhjloeckaaGreat
