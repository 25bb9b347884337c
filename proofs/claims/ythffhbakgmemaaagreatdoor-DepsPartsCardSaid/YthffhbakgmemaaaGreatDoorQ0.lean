/- Part of parts_said. -/
import Derived.Test.YthffhbakgmemaaaGreatDoorProg
import Derived.StillTailTactics
import Derived.Shelf.SlSortCmp.WholeK
import Derived.Test.YthffhbakgmemaaaGreatDoorM6
set_option maxRecDepth 100000
set_option maxHeartbeats 8000000
namespace Go.Proofs
open Go
theorem awj{P:Program}(w:World){ops:Array Oper}{rest:List Oper}{o:Oper}{a:Act}{Q:Exit->Act->World->Prop}
  (c:o.guard=none) (m x:Operand) (t:TypeId) (g:o.op=Op.lookup t m x true) (M K V:Value) (k:a.eval m=M) (d:a.eval x=K) (h:(Instr.lookup t M K true).run P w=.ok V w)
  (f:wpList P ops Q rest (a.put o.dst V) w):wpList P ops Q (o::rest) a w:=by
 refine wpList_plain c λl j=> ?_;unfold Oper.wp;simp[execOp,g,k,d,h,Result.andThen];exact j _ _ f
theorem awk(oS a:Nat)(s:ByteArray)(k:Int)(f:Bool)(W:World)(d:W.cell? ⟨oS,6,none⟩=some (.map (some a)))
  (c:∀t,t=97->(Instr.lookup t (.map (some a)) (.string s) true).run Tryz.prog W=.ok (.tuple #[.int .i64 k,.bool f]) W):
  Calls Tryz.prog 41 #[.pointer (some ⟨oS,0,none⟩),.string s] W λe w'=>e=.returned (.int .i64 (if f then k else -1))/\w'=W:=by
 go_enter Tryz.func41,Tryz.ntmps41
 cases f;all_goals
  go_wp2_with (at_lookup;refine awj _ rfl _ _ _ rfl _ _ _ rfl rfl (c _ rfl) ?_)
  go_ret
  exact⟨rfl,rfl⟩
open Go.RowKit in
theorem awl(b:Nat)(x y:Int)(W:World)(bB:W.cell? ⟨b,0,none⟩=some (.int .i64 x))(h1:W.cell? ⟨b,1,none⟩=some (.int .i64 y)):
  Calls Tryz.prog 39 #[.slice (some ⟨b,0,none⟩) 2 2] W λe w'=>e=.returned (.int .i64 (if x=0 then y else x))/\w'=W:=by
 go_enter Tryz.func39,Tryz.ntmps39
 go_wp2
 go_loop [8] (λi=>i=.int .i64 0\/i=.int .i64 1/\x=0\/i=.int .i64 2/\x=0/\y=0) (λi=>2-(intOf i).toNat)
 case atStart=>exact .inl rfl
 case round=>
  rcases hrel with rfl|⟨rfl,rfl⟩|⟨rfl,rfl,rfl⟩
  .by_cases h:x=0
   .subst h;go_wp2;exact⟨.inr (.inl ⟨rfl,trivial⟩),by decide⟩
   .go_wp2
    go_ret
    exact⟨rfl,rfl⟩
  .by_cases h:y=0
   .subst h;go_wp2;exact⟨.inr (.inr ⟨rfl,trivial,trivial⟩),by decide⟩
   .go_wp2
    go_ret
    exact⟨rfl,rfl⟩
  .go_wp2
   go_ret
   exact⟨rfl,rfl⟩
def r'(a b:Int):Int:=if a<b then -1 else if b<a then 1 else 0
theorem awm(x:Int)(W:World):Calls Tryz.prog 59 #[.int .i64 x] W λe w'=>e=.returned (.bool false)/\w'=W:=by
 go_enter Tryz.func59,Tryz.ntmps59
 go_wp2
 go_ret
 exact⟨by simp,rfl⟩
theorem afM(x y:Int)(W:World):Calls Tryz.prog 40 #[.int .i64 x,.int .i64 y] W λe w'=>e=.returned (.int .i64 (r' x y))/\w'=W:=by
 go_enter Tryz.func40,Tryz.ntmps40
 go_wp2_with (go_at_call 59;refine(awm _ _).mono ?_;rintro e w' ⟨rfl,a⟩;rw[a])
 all_goals (go_ret;refine⟨?_,rfl⟩;unfold r';(repeat' split)<;>first|rfl|(exfalso;omega))
open Go.RowKit Go.Sort in
theorem afN(bv oS:Nat)(x y:ByteArray×Int)(IA Dc:Int)(W:World)(bB:W.cell? ⟨bv,0,none⟩=some (.pointer (some ⟨oS,0,none⟩)))
  (O1:bv<W.heap.size)
  (hp:∀dH:World,(∀b,b<W.heap.size->dH.heap[b]?=W.heap[b]?)->Calls Tryz.prog 41 #[.pointer (some ⟨oS,0,none⟩),.string x.1] dH λe w'=>e=.returned (.int .i64 IA)/\w'=dH)
  (aS:∀dH:World,(∀b,b<W.heap.size->dH.heap[b]?=W.heap[b]?)->Calls Tryz.prog 41 #[.pointer (some ⟨oS,0,none⟩),.string y.1] dH λe w'=>e=.returned (.int .i64 Dc)/\w'=dH):
  Calls Tryz.prog 38 #[.agg #[.string x.1,.int .i64 x.2],.agg #[.string y.1,.int .i64 y.2],.pointer (some ⟨bv,0,none⟩)] W λe w'=>
   e=.returned (.int .i64 (if r' IA Dc=0 then r' x.2 y.2 else r' IA Dc))/\∃q awn,w'=grow (W.drewN q) awn:=by
 go_enter Tryz.func38,Tryz.ntmps38
 go_wp2
 refine wp_region_still_tail 14 (by kernel_rfl) (by kernel_rfl) ?_;simp only[List.take_succ_cons,List.take_zero,List.drop_succ_cons,List.drop_zero];obtain⟨hN,pk⟩:∃hN,hN=((W.alloc (Obj.cells #[Value.string x.fst,Value.int IntKind.i64 x.snd] 60)).alloc (Obj.cells #[Value.string y.fst,Value.int IntKind.i64 y.snd] 60)).drew:=⟨_,rfl⟩;change wpStill _ _ (World.drew _) (λa'=>wpList _ _ _ _ a' (World.drew _)) _ _;rw[<-pk];have g0:∀b,b<W.heap.size->hN.heap[b]?=W.heap[b]?:=λb au=>by
  subst pk;show((W.heap.push _).push _)[b]?=_;rw[Array.getElem?_push,if_neg (by rw[Array.size_push];omega),Array.getElem?_push,if_neg (by omega)]
 have g1:hN.cell? ⟨bv,0,none⟩=some (.pointer (some ⟨oS,0,none⟩)):=by rw[<-bB];unfold World.cell?;rw[g0 _ O1]
 have g2:hN.cell? ⟨W.heap.size,0,none⟩=some (.string x.1):=by subst pk;simp[go_sem]
 have g3:hN.cell? ⟨W.heap.size,1,none⟩=some (.int .i64 x.2):=by subst pk;simp[go_sem]
 have g4:hN.cell? ⟨W.heap.size+1,0,none⟩=some (.string y.1):=by subst pk;simp[go_sem]
 have g5:hN.cell? ⟨W.heap.size+1,1,none⟩=some (.int .i64 y.2):=by subst pk;simp[go_sem]
 obtain⟨azY,dh⟩:∃os,grow (W.drewN 1) os=hN:=⟨_,by rw[pk,alloc_eq_grow,alloc_eq_grow,grow_grow];rfl⟩;clear pk;still_step;still_step;still_step;still_call (hp _ g0);still_step;still_step;still_step;still_call (aS _ g0);still_call (afM _ _ _);still_step;still_step;still_step;still_step;still_call (afM _ _ _);refine wpStill_nil ?_;go_wp2_with (go_at_call 39;(refine(awl hN.heap.size (r' IA Dc) (r' x.2 y.2) _ (by simp[go_sem]) (by simp[go_sem])).mono ?_;rintro e b5 ⟨rfl,rfl⟩));all_goals
  go_ret
  exact⟨rfl,1,_,by rw[alloc_eq_grow,<-dh,grow_grow]⟩
end Go.Proofs
