/- Part of texts_said. -/
import Derived.Test.YtmgpekpnidjfoaaGreatDoorD
import Derived.Test.YtmgpekpnidjfoaaGreatDoorCards
import Derived.Test.YtmgpekpnidjfoaaGreatDoorTie
import Derived.Test.YtmgpekpnidjfoaaGreatDoorX
set_option maxRecDepth 100000
set_option maxHeartbeats 8000000
namespace Go.Proofs.YtmgpekpnidjfoaaGreatDoor
open Go Go.aJ Go.ChangeShapes Go.WideShapes Go.ChangeAt Go.RowKit
theorem own:ownKnob Tryz.prog.godebug=none:=axr
theorem amg(H:Type):BQ (H:=H) Rows.uptoBulk where
 str s:=by simp[Rows.uptoBulk]
 slice es sp:=by
  have key:∀l:List (DataW H),l.length<=Rows.uptoBulkAll l/\∀x,x∈l->Rows.uptoBulk x<=Rows.uptoBulkAll l:=by
   intro l;induction l with
   |nil=>exact⟨axt,axt⟩
   |cons y l ih=>
    have h1:1<=Rows.uptoBulk y:=by cases y<;>(try rename_i q;cases q)<;>simp[Rows.uptoBulk]
    refine⟨by simp only[az0,Rows.uptoBulkAll];omega,λx ak=> ?_⟩;simp only[Rows.uptoBulkAll];rcases azY.1 ak with rfl|ak
    .omega
    .have:=ih.2 x ak;omega
  obtain⟨h1,h2⟩:=key es;simp only[Rows.uptoBulk];exact⟨axs,λx ak=>by have:=h2 x ak;omega⟩
 agg ps x ak:=by
  have key:∀l:List (DataW H),∀x,x∈l->Rows.uptoBulk x<=Rows.uptoBulkAll l:=by
   intro l;induction l with
   |nil=>simp
   |cons y l ih=>
    intro x ak;simp only[Rows.uptoBulkAll];rcases azY.1 ak with rfl|ak
    .omega
    .have:=ih x ak;omega
  have:=key ps x ak;simp only[Rows.uptoBulk];omega
def lU:List (Bool×List ib):=[(false,[.str])]
theorem amh:Tryz.f3.params.toList.mapM (nS Tryz.prog 20)=some lU:=axr
noncomputable def low:Nat:=(World.holding Tryz.prog default ⟨#[],#[],[]⟩).heap.size
noncomputable def Lm(os:Os):World:=
 let w0:=World.holding Tryz.prog os ⟨#[.cells #[.string ⟨#[118,97,108,117,101,32,111,117,116,32,111,102,32,114,97,110,103,101]⟩] 339 (0,0),.cells #[.string ⟨#[105,110,118,97,108,105,100,32,115,121,110,116,97,120]⟩] 339 (0,0),.map (ajW Rows.laid_bywash_show_ranks) 1000],#[],[]⟩
 {w0 with heap:=(oD (oD (oD (oD (oD (oD (oD (oD (oD (oD (oD (oD (oD w0.heap 0 (oC Rows.laid_bywash_schema_words)) 1 (oC Rows.laid_bywash_cron_bounds)) 2 (oC Rows.laid_bywash_lex_signs)) 3 (oC Rows.laid_bywash_relop_needs)) 4 (oC Rows.laid_unicode_utf8_first)) 5 (oC Rows.laid_unicode_utf8_acceptRanges)) 7 [.map (some (low+2))]) 8 [.iface 337 (.pointer (some ⟨low+1,0,none⟩))]) 9 [.iface 337 (.pointer (some ⟨low+0,0,none⟩))]) 10 (oC Rows.laid_internal_strconv_uint64pow10)) 11 (oC Rows.laid_bywash_calendar_lengths)) 12 (oC Rows.laid_math_bits_deBruijn32tab)) 13 (oC Rows.laid_math_bits_deBruijn64tab))}
noncomputable def FJ:Array Value:= #[.string ⟨#[]⟩]
theorem ami(os:Os):laidMet Tryz.prog Rows.checkTextsRow.laid ((Lm os).forCall (λ_ _=>0) ⟨#[],FJ,[]⟩).memory:=
 laidMet_of_run3 8 axr axr axr
theorem amj(os:Os){H:Type}(enc:TypeId×Value->H):∃places,DataW.whole enc Tryz.prog ((Lm os).forCall (λ_ _=>0) ⟨#[],FJ,[]⟩).memory Tryz.f3.params.toList Rows.checkTextsSpec.vars false FJ.toList 8=some ([.lit (.string [])],[],places):=
 ⟨[],axr⟩
theorem amk{H:Type}{enc:TypeId×Value->H}{W:World}{args:Array Value}{ds gs:List (DataW H)}{before:List MemPlace}(hW:DataW.Whole enc Tryz.prog Tryz.f3.params.toList Rows.checkTextsSpec.vars false W args.toList ds gs before):
  ds.length=1/\∀d,d∈ds->Rows.uptoBulk d<=9223372036854775808:=by
 obtain⟨p1,q1,hA0,_⟩:=hW;have hA:DataW.TrodAll enc Tryz.prog W 0 (λ_=>true) true Tryz.f3.params.toList args.toList ds p1:=hA0;rw[Tryz.params3]at hA;obtain⟨v0,avJ,d0,avK,p0,e9,_,rfl,_,h0,hA⟩:=trodAll_cons hA;obtain⟨_,rfl,_⟩:=trodAll_nil hA;refine⟨rfl,λd a6=> ?_⟩;simp only[azY,aBM,aAR]at a6;rcases a6 with rfl
 .obtain⟨fuel,h⟩:=h0;obtain⟨m,_,he,cm⟩:=aCv (P:=Tryz.prog) axr h;simp only[aAd]at he;rw[he.1];have hm:m.data.toList.length=m.size:=rfl;unfold maxLen at cm;simp only[Rows.uptoBulk,hm];omega
theorem contract(tB:∀dL,tA 9223372036854775808 lU dL->bM Tryz.prog gl 3 dL [] (.d (.bool true)) [])(H:Type)(enc:TypeId×Value->H)(W:World)(base:Nat)(args:Array Value)(ds gs:List (DataW H))(before:List MemPlace)
  (hval:∀(j:Nat) t v,Tryz.f3.params[j]?=some t->args[j]?=some v->Value.okWide Tryz.prog W .any base t v)
  (hW:DataW.Whole enc Tryz.prog Tryz.f3.params.toList Rows.checkTextsSpec.vars false W args.toList ds gs before) (bF:laidMetH Tryz.prog Rows.checkTextsRow.laid W):
  Calls Tryz.prog 3 args W λe W'=>∃v,e=.returned v/\Rows.checkTextsSpec.post enc Tryz.prog Tryz.f3 false true false false W args v W':=by
 obtain⟨hlen,eD⟩:=amk hW;refine ai3 (amg H) (N:=9223372036854775808) (n:=20) (tb:=4) (gl:=gl) rfl (λ_=> ?_) axr axr laidOut axr amh (globals bF) hval hW eD tB;have iU:gs=[]:=by
  obtain⟨p,q,_,hV,_⟩:=hW;exact(trodVars_none (show DataW.TrodVars enc Tryz.prog W (λ_=>true) [] gs q from hV)).1
 subst iU;match ds,hlen with
 |[d0],_=>rfl
theorem lifted(tB:∀dL,tA 9223372036854775808 lU dL->bM Tryz.prog gl 3 dL [] (.d (.bool true)) [])(os:Os)(started:os.Started)(H:Type)(enc:TypeId×Value->H)(F:Stop.Interp):
  ReturnsInHanded {} Tryz.checked os 3 .any ((OpenSpec.ofChange Rows.checkTextsSpec).preRow enc Tryz.prog Tryz.f3 Rows.checkTextsRow.domain false Rows.checkTextsRow.laid) (((OpenSpec.ofChange Rows.checkTextsSpec).at F).post enc Tryz.prog Tryz.f3 false true false false):=by
 obtain⟨places,ak⟩:=amj os enc;refine returnsInHanded_of_row (C:=Tryz.checked) (s:=OpenSpec.ofChange Rows.checkTextsSpec) own started axr Tryz.func3
  (witness_row_at (enc:=enc) (C:=Tryz.checked) false (Lm os) FJ rfl axr axr axr
   (OpenSpec.preRow_of_cond 8 ak axr (λk au=>by cases au) axr (ami os))) ?_
 intro W base args ds gs before hval hW _ _ _ bF _ _;exact contract tB H enc W base args ds gs before hval hW bF
theorem said(tB:∀dL,tA 9223372036854775808 lU dL->bM Tryz.prog gl 3 dL [] (.d (.bool true)) []):Rows.CheckTextsSaid:=
 OpenClaim.holds_of_cond 3 Tryz.f3 rfl rfl rfl rfl rfl rfl rfl ⟨rfl,rfl,rfl,rfl,rfl⟩ rfl rfl rfl rfl rfl axr Tryz.func3 amc
  (of_decide_eq_true axr) (by unfold Func.isWrapper;first|(rw[aAa (by decide+kernel)];kernel_rfl)|(rw[aAc (by decide+kernel)];exact⟨rfl,rfl⟩))
  (λos started H enc _ F=>by rw[OpenClaim.pre_eq_preRow];exact lifted tB os started H enc F)
theorem plain(f:FuncId)(fn:Func)(bm:Tryz.pinned.checked.prog.funcNamed Rows.checkTextsRow.func=some f)(wc:Tryz.pinned.checked.prog.funcs[f]?=some fn):
  true=Tryz.pinned.checked.prog.looks []/\∀(j:Nat) t,fn.params[j]?=some t->Tryz.pinned.checked.prog.wantsStandIn t=false:=by
 obtain rfl:f=3:=aBq ((show Tryz.prog.funcNamed Rows.checkTextsRow.func=some 3 by kernel_rfl).symm.trans bm) |>.symm;obtain rfl:fn=Tryz.f3:=(aBq (Tryz.func3.symm.trans wc)).symm;refine⟨axr,λj t aC=> ?_⟩;have gP:(Tryz.f3.params.toList.all λt=>!Tryz.prog.wantsStandIn t)=true:=axr;have:=azX.1 gP t (by
  have:=aAe (l:=Tryz.f3.params.toList) (i:=j) (a:=t) (by simpa using aC);exact this)
 exact az8 _ |>.mp this
theorem card(tB:∀dL,tA 9223372036854775808 lU dL->bM Tryz.prog gl 3 dL [] (.d (.bool true)) []):Rows.CheckTextsCardSaid:=
 Claim7.holds_tied_plain_at .later [] _ _ _ _ (said tB) (λ_ h=>axy) amd (λ_ h=>axy) checkTexts_row_tie rfl ⟨rfl,rfl⟩ ame rfl plain amf
end Go.Proofs.YtmgpekpnidjfoaaGreatDoor
