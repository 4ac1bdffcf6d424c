/- Small facts on the types and functions of this seat. (Printed by wip/sp/gen.py.) -/
import Derived.Test.YtopnldfjcciieaaGreatKChT
import Derived.Test.YtopnldfjcciieaaGreatProg
import Derived.Test.YtopnldfjcciieaaGreatKCh3
import Derived.Test.YtopnldfjcciieaaGreatKCh4
set_option linter.unusedVariables false
set_option linter.unusedSimpArgs false
set_option maxRecDepth 100000
set_option maxHeartbeats 4000000
namespace Go.Proofs.YtopnldfjcciieaaGreat
open Go.RowKit
theorem xR:qE Tryz.prog 24 4 4:=fun b o w=>by simp[Instr.fieldAt,go_sem]
theorem jK:VarTy Tryz.prog 22 false 1:=⟨fun w=>by simp[isAgg,go_sem],fun w=>by simp[sizeOf,go_sem]<;>rfl⟩
theorem kL:SlTy Tryz.prog 22 24 5 64:=SlTy.of (z:= .agg #[.int .i64 0,.string ByteArray.empty,.int .i64 0,.int .i64 0,.slice none 0 0]) kr kr O
theorem dF:VarTy Tryz.prog 24 true 5:=⟨fun w=>by simp[isAgg,go_sem],fun w=>by simp[sizeOf,go_sem]<;>rfl⟩
theorem A8:qE Tryz.prog 24 0 0:=fun b o w=>by simp[Instr.fieldAt,go_sem]
theorem bD:VarTy Tryz.prog 3 false 1:=⟨fun w=>by simp[isAgg,go_sem],fun w=>by simp[sizeOf,go_sem]<;>rfl⟩
theorem yS:qE Tryz.prog 24 1 1:=fun b o w=>by simp[Instr.fieldAt,go_sem]
theorem aH3:VarTy Tryz.prog 9 false 1:=⟨fun w=>by simp[isAgg,go_sem],fun w=>by simp[sizeOf,go_sem]<;>rfl⟩
theorem ent82:∀args w,(callFunc 82 args).run Tryz.prog w= .ok (.enter 82 args) w:=enters Tryz.func82 kr O
theorem ent55:∀args w,(callFunc 55 args).run Tryz.prog w= .ok (.enter 55 args) w:=enters Tryz.func55 kr O
theorem sty9:Tryz.prog.underlying 9=some .string:=by kernel_rfl
theorem ent58:∀args w,(callFunc 58 args).run Tryz.prog w= .ok (.enter 58 args) w:=enters Tryz.func58 kr O
theorem aV:VarTy Tryz.prog 73 false 1:=⟨fun w=>by simp[isAgg,go_sem],fun w=>by simp[sizeOf,go_sem]<;>rfl⟩
theorem bJ:SlTy Tryz.prog 73 3 1 8:=SlTy.of (z:= .int .i64 0) kr kr O
theorem jJ:SlTy Tryz.prog 83 73 1 24:=SlTy.of (z:= .slice none 0 0) kr kr O
theorem ent64:∀args w,(callFunc 64 args).run Tryz.prog w= .ok (.enter 64 args) w:=enters Tryz.func64 kr O
theorem ent89:∀args w,(callFunc 89 args).run Tryz.prog w= .ok (.enter 89 args) w:=enters Tryz.func89 kr O
theorem ent103:∀args w,(callFunc 103 args).run Tryz.prog w= .ok (.enter 103 args) w:=enters Tryz.func103 kr O
theorem ent88:∀args w,(callFunc 88 args).run Tryz.prog w= .ok (.enter 88 args) w:=enters Tryz.func88 kr O
theorem jG:qE Tryz.prog 135 0 0:=fun b o w=>by simp[Instr.fieldAt,go_sem]
theorem kX:VarTy Tryz.prog 133 false 1:=⟨fun w=>by simp[isAgg,go_sem],fun w=>by simp[sizeOf,go_sem]<;>rfl⟩
theorem sG:SlTy Tryz.prog 133 156 2 24:=SlTy.of (z:= .agg #[.int .i64 0,.string ByteArray.empty]) kr kr O
theorem varty154:VarTy Tryz.prog 154 false 1:=⟨fun w=>by simp[isAgg,go_sem],fun w=>by simp[sizeOf,go_sem]<;>rfl⟩
theorem ent104:∀args w,(callFunc 104 args).run Tryz.prog w= .ok (.enter 104 args) w:=enters Tryz.func104 kr O
theorem iE:qE Tryz.prog 135 1 1:=fun b o w=>by simp[Instr.fieldAt,go_sem]
theorem jZ:qE Tryz.prog 135 2 2:=fun b o w=>by simp[Instr.fieldAt,go_sem]
theorem iF:VarTy Tryz.prog 135 true 3:=⟨fun w=>by simp[isAgg,go_sem],fun w=>by simp[sizeOf,go_sem]<;>rfl⟩
theorem kt3:KT Tryz.prog 3 Int:=kt_int kr
theorem mapty157:Tryz.prog.underlying 157=some (.map 3 3):=by kernel_rfl
theorem ent107:∀args w,(callFunc 107 args).run Tryz.prog w= .ok (.enter 107 args) w:=enters Tryz.func107 kr O
theorem ent106:∀args w,(callFunc 106 args).run Tryz.prog w= .ok (.enter 106 args) w:=enters Tryz.func106 kr O
theorem ent91:∀args w,(callFunc 91 args).run Tryz.prog w= .ok (.enter 91 args) w:=enters Tryz.func91 kr O
theorem varty83:VarTy Tryz.prog 83 false 1:=⟨fun w=>by simp[isAgg,go_sem],fun w=>by simp[sizeOf,go_sem]<;>rfl⟩
theorem varty156:VarTy Tryz.prog 156 true 2:=⟨fun w=>by simp[isAgg,go_sem],fun w=>by simp[sizeOf,go_sem]<;>rfl⟩
theorem eqst156 (a0:Int) (a1:ByteArray) (b0:Int) (b1:ByteArray):EqSt Tryz.prog 156 [.int .i64 a0,.string a1] [.int .i64 b0,.string b1] ((decide (a0=b0))&&(decide (a1=b1))):=eqst_of kr kr kr fun w=>by
 simp only[Program.fieldsOf,Tryz.underlying156]
 go_simp
 by_cases h0:a0=b0<;>by_cases h1:a1=b1<;>simp[*,ba_inj]
theorem O7:∀args w,(callFunc 90 args).run Tryz.prog w= .ok (.enter 90 args) w:=enters Tryz.func90 kr O
theorem ent92:∀args w,(callFunc 92 args).run Tryz.prog w= .ok (.enter 92 args) w:=enters Tryz.func92 kr O
theorem ent93:∀args w,(callFunc 93 args).run Tryz.prog w= .ok (.enter 93 args) w:=enters Tryz.func93 kr O
theorem ent105:∀args w,(callFunc 105 args).run Tryz.prog w= .ok (.enter 105 args) w:=enters Tryz.func105 kr O
theorem ent67:∀args w,(callFunc 67 args).run Tryz.prog w= .ok (.enter 67 args) w:=enters Tryz.func67 kr O
theorem ent68:∀args w,(callFunc 68 args).run Tryz.prog w= .ok (.enter 68 args) w:=enters Tryz.func68 kr O
theorem fJ:SlTy Tryz.prog 25 46 2 16:=SlTy.of (z:= .agg #[.int .i64 0,.int .i64 0]) kr kr O
theorem O5:SlTy Tryz.prog 68 4 1 1:=SlTy.of (z:= .bool false) kr kr O
theorem fQ:VarTy Tryz.prog 46 true 2:=⟨fun w=>by simp[isAgg,go_sem],fun w=>by simp[sizeOf,go_sem]<;>rfl⟩
theorem gY:qE Tryz.prog 46 0 0:=fun b o w=>by simp[Instr.fieldAt,go_sem]
theorem fV:qE Tryz.prog 46 1 1:=fun b o w=>by simp[Instr.fieldAt,go_sem]
theorem aH2:VarTy Tryz.prog 4 false 1:=⟨fun w=>by simp[isAgg,go_sem],fun w=>by simp[sizeOf,go_sem]<;>rfl⟩
theorem bty4:Tryz.prog.underlying 4=some .bool:=by kernel_rfl
theorem yD:SlTy Tryz.prog 34 58 6 56:=SlTy.of (z:= .agg #[.int .i64 0,.int .i64 0,.int .i64 0,.int .i64 0,.int .i64 0,.string ByteArray.empty]) kr kr O
theorem zT:VarTy Tryz.prog 58 true 6:=⟨fun w=>by simp[isAgg,go_sem],fun w=>by simp[sizeOf,go_sem]<;>rfl⟩
theorem eqst58 (a0:Int) (a1:Int) (a2:Int) (a3:Int) (a4:Int) (a5:ByteArray) (b0:Int) (b1:Int) (b2:Int) (b3:Int) (b4:Int) (b5:ByteArray):EqSt Tryz.prog 58 [.int .i64 a0,.int .i64 a1,.int .i64 a2,.int .i64 a3,.int .i64 a4,.string a5] [.int .i64 b0,.int .i64 b1,.int .i64 b2,.int .i64 b3,.int .i64 b4,.string b5] ((decide (a0=b0))&&(decide (a1=b1))&&(decide (a2=b2))&&(decide (a3=b3))&&(decide (a4=b4))&&(decide (a5=b5))):=eqst_of kr kr kr fun w=>by
 simp only[Program.fieldsOf,Tryz.underlying58]
 go_simp
 by_cases h0:a0=b0<;>by_cases h1:a1=b1<;>by_cases h2:a2=b2<;>by_cases h3:a3=b3<;>by_cases h4:a4=b4<;>by_cases h5:a5=b5<;>simp[*,ba_inj]
theorem fldty58_2:qE Tryz.prog 58 2 2:=fun b o w=>by simp[Instr.fieldAt,go_sem]
theorem fldty58_3:qE Tryz.prog 58 3 3:=fun b o w=>by simp[Instr.fieldAt,go_sem]
theorem aB5:qE Tryz.prog 58 1 1:=fun b o w=>by simp[Instr.fieldAt,go_sem]
theorem fldty58_0:qE Tryz.prog 58 0 0:=fun b o w=>by simp[Instr.fieldAt,go_sem]
theorem vP:qE Tryz.prog 75 1 1:=fun b o w=>by simp[Instr.fieldAt,go_sem]
theorem lC:qE Tryz.prog 75 0 0:=fun b o w=>by simp[Instr.fieldAt,go_sem]
theorem qR:qE Tryz.prog 75 2 2:=fun b o w=>by simp[Instr.fieldAt,go_sem]
theorem varty110:VarTy Tryz.prog 110 false 1:=⟨fun w=>by simp[isAgg,go_sem],fun w=>by simp[sizeOf,go_sem]<;>rfl⟩
theorem ent63:∀args w,(callFunc 63 args).run Tryz.prog w= .ok (.enter 63 args) w:=enters Tryz.func63 kr O
theorem dC:VarTy Tryz.prog 75 true 3:=⟨fun w=>by simp[isAgg,go_sem],fun w=>by simp[sizeOf,go_sem]<;>rfl⟩
theorem varty115:VarTy Tryz.prog 115 false 1:=⟨fun w=>by simp[isAgg,go_sem],fun w=>by simp[sizeOf,go_sem]<;>rfl⟩
theorem ent69:∀args w,(callFunc 69 args).run Tryz.prog w= .ok (.enter 69 args) w:=enters Tryz.func69 kr O
theorem ent39:∀args w,(callFunc 39 args).run Tryz.prog w= .ok (.enter 39 args) w:=enters Tryz.func39 kr O
theorem ent38:∀args w,(callFunc 38 args).run Tryz.prog w= .ok (.enter 38 args) w:=enters Tryz.func38 kr O
theorem fldty88_0:qE Tryz.prog 88 0 0:=fun b o w=>by simp[Instr.fieldAt,go_sem]
theorem Q4:qE Tryz.prog 88 2 6:=fun b o w=>by simp[Instr.fieldAt,go_sem]
theorem fldty88_1:qE Tryz.prog 88 1 3:=fun b o w=>by simp[Instr.fieldAt,go_sem]
theorem Q5:qE Tryz.prog 88 4 8:=fun b o w=>by simp[Instr.fieldAt,go_sem]
theorem ent41:∀args w,(callFunc 41 args).run Tryz.prog w= .ok (.enter 41 args) w:=enters Tryz.func41 kr O
theorem C9:qE Tryz.prog 88 3 7:=fun b o w=>by simp[Instr.fieldAt,go_sem]
theorem D5:qE Tryz.prog 88 5 9:=fun b o w=>by simp[Instr.fieldAt,go_sem]
theorem ent72:∀args w,(callFunc 72 args).run Tryz.prog w= .ok (.enter 72 args) w:=enters Tryz.func72 kr O
theorem fldty88_6:qE Tryz.prog 88 6 10:=fun b o w=>by simp[Instr.fieldAt,go_sem]
theorem ent71:∀args w,(callFunc 71 args).run Tryz.prog w= .ok (.enter 71 args) w:=enters Tryz.func71 kr O
theorem aB6:qE Tryz.prog 88 7 11:=fun b o w=>by simp[Instr.fieldAt,go_sem]
theorem aB7:qE Tryz.prog 88 8 12:=fun b o w=>by simp[Instr.fieldAt,go_sem]
theorem ent51:∀args w,(callFunc 51 args).run Tryz.prog w= .ok (.enter 51 args) w:=enters Tryz.func51 kr O
theorem ent66:∀args w,(callFunc 66 args).run Tryz.prog w= .ok (.enter 66 args) w:=enters Tryz.func66 kr O
theorem jX:∀args w,(callFunc 40 args).run Tryz.prog w= .ok (.enter 40 args) w:=enters Tryz.func40 kr O
theorem ent45:∀args w,(callFunc 45 args).run Tryz.prog w= .ok (.enter 45 args) w:=enters Tryz.func45 kr O
theorem ent46:∀args w,(callFunc 46 args).run Tryz.prog w= .ok (.enter 46 args) w:=enters Tryz.func46 kr O
theorem ent17:∀args w,(callFunc 17 args).run Tryz.prog w= .ok (.enter 17 args) w:=enters Tryz.func17 kr O
theorem ent100:∀args w,(callFunc 100 args).run Tryz.prog w= .ok (.enter 100 args) w:=enters Tryz.func100 kr O
theorem ent85:∀args w,(callFunc 85 args).run Tryz.prog w= .ok (.enter 85 args) w:=enters Tryz.func85 kr O
theorem ent84:∀args w,(callFunc 84 args).run Tryz.prog w= .ok (.enter 84 args) w:=enters Tryz.func84 kr O
theorem ent123:∀args w,(callFunc 123 args).run Tryz.prog w= .ok (.enter 123 args) w:=enters Tryz.func123 kr O
theorem ent118:∀args w,(callFunc 118 args).run Tryz.prog w= .ok (.enter 118 args) w:=enters Tryz.func118 kr O
theorem ent113:∀args w,(callFunc 113 args).run Tryz.prog w= .ok (.enter 113 args) w:=enters Tryz.func113 kr O
theorem ent112:∀args w,(callFunc 112 args).run Tryz.prog w= .ok (.enter 112 args) w:=enters Tryz.func112 kr O
theorem ent99:∀args w,(callFunc 99 args).run Tryz.prog w= .ok (.enter 99 args) w:=enters Tryz.func99 kr O
theorem ent83:∀args w,(callFunc 83 args).run Tryz.prog w= .ok (.enter 83 args) w:=enters Tryz.func83 kr O
theorem ent56:∀args w,(callFunc 56 args).run Tryz.prog w= .ok (.enter 56 args) w:=enters Tryz.func56 kr O
theorem ent13:∀args w,(callFunc 13 args).run Tryz.prog w= .ok (.enter 13 args) w:=enters Tryz.func13 kr O
theorem mapty103:Tryz.prog.underlying 103=some (.map 3 4):=by kernel_rfl
theorem zero4:∀w,(zeroValue 4).run Tryz.prog w= .ok (.bool false) w:=fun w=>by simp[go_sem]<;>rfl
theorem slty111:SlTy Tryz.prog 111 34 1 24:=SlTy.of (z:= .slice none 0 0) kr kr O
theorem varty34:VarTy Tryz.prog 34 false 1:=⟨fun w=>by simp[isAgg,go_sem],fun w=>by simp[sizeOf,go_sem]<;>rfl⟩
theorem ent65:∀args w,(callFunc 65 args).run Tryz.prog w= .ok (.enter 65 args) w:=enters Tryz.func65 kr O
theorem ent42:∀args w,(callFunc 42 args).run Tryz.prog w= .ok (.enter 42 args) w:=enters Tryz.func42 kr O
theorem ent43:∀args w,(callFunc 43 args).run Tryz.prog w= .ok (.enter 43 args) w:=enters Tryz.func43 kr O
theorem ent44:∀args w,(callFunc 44 args).run Tryz.prog w= .ok (.enter 44 args) w:=enters Tryz.func44 kr O
theorem ent95:∀args w,(callFunc 95 args).run Tryz.prog w= .ok (.enter 95 args) w:=enters Tryz.func95 kr O
theorem ent70:∀args w,(callFunc 70 args).run Tryz.prog w= .ok (.enter 70 args) w:=enters Tryz.func70 kr O
theorem ent48:∀args w,(callFunc 48 args).run Tryz.prog w= .ok (.enter 48 args) w:=enters Tryz.func48 kr O
theorem ent49:∀args w,(callFunc 49 args).run Tryz.prog w= .ok (.enter 49 args) w:=enters Tryz.func49 kr O
theorem ent50:∀args w,(callFunc 50 args).run Tryz.prog w= .ok (.enter 50 args) w:=enters Tryz.func50 kr O
theorem ent31:∀args w,(callFunc 31 args).run Tryz.prog w= .ok (.enter 31 args) w:=enters Tryz.func31 kr O
theorem ent36:∀args w,(callFunc 36 args).run Tryz.prog w= .ok (.enter 36 args) w:=enters Tryz.func36 kr O
theorem ent35:∀args w,(callFunc 35 args).run Tryz.prog w= .ok (.enter 35 args) w:=enters Tryz.func35 kr O
theorem ent15:∀args w,(callFunc 15 args).run Tryz.prog w= .ok (.enter 15 args) w:=enters Tryz.func15 kr O
theorem ent16:∀args w,(callFunc 16 args).run Tryz.prog w= .ok (.enter 16 args) w:=enters Tryz.func16 kr O
theorem ent24:∀args w,(callFunc 24 args).run Tryz.prog w= .ok (.enter 24 args) w:=enters Tryz.func24 kr O
theorem ent21:∀args w,(callFunc 21 args).run Tryz.prog w= .ok (.enter 21 args) w:=enters Tryz.func21 kr O
theorem ent19:∀args w,(callFunc 19 args).run Tryz.prog w= .ok (.enter 19 args) w:=enters Tryz.func19 kr O
theorem ent25:∀args w,(callFunc 25 args).run Tryz.prog w= .ok (.enter 25 args) w:=enters Tryz.func25 kr O
theorem ent26:∀args w,(callFunc 26 args).run Tryz.prog w= .ok (.enter 26 args) w:=enters Tryz.func26 kr O
theorem ent29:∀args w,(callFunc 29 args).run Tryz.prog w= .ok (.enter 29 args) w:=enters Tryz.func29 kr O
theorem ent10:∀args w,(callFunc 10 args).run Tryz.prog w= .ok (.enter 10 args) w:=enters Tryz.func10 kr O
theorem ent11:∀args w,(callFunc 11 args).run Tryz.prog w= .ok (.enter 11 args) w:=enters Tryz.func11 kr O
theorem slty48:SlTy Tryz.prog 48 25 1 24:=SlTy.of (z:= .slice none 0 0) kr kr O
theorem varty25:VarTy Tryz.prog 25 false 1:=⟨fun w=>by simp[isAgg,go_sem],fun w=>by simp[sizeOf,go_sem]<;>rfl⟩
theorem aF4 {Z:World} {ρ:PH} {L:List bP} {w:World} (D:Node) (aI:Value) (bC:aH ρ aI D.kids) (C:Node) (aK:Value) (bQ:aH ρ aK C.kids) (E:Hp Z ρ (L) w) (r:Bool) (F:sF D C=some r):
  Calls Tryz.prog 82 #[(.agg #[(Iv D.kind),(.string D.text),(Iv D.at_),(Iv D.fin),aI]),(.agg #[(Iv C.kind),(.string C.text),(Iv C.at_),(Iv C.fin),aK])] w (Ret fun v w'=>v=(.bool r)∧Hp Z ρ (L) w'):=by
 refine enter (N:=17) Tryz.func82 O O [(0,(.agg #[(Iv D.kind),(.string D.text),(Iv D.at_),(Iv D.fin),aI])),(1,(.agg #[(Iv C.kind),(.string C.text),(Iv C.at_),(Iv C.fin),aK]))] O (bF ⟨O,O,tv⟩) fun a A=>?_
 unfold sF at F
 refine aG (aA ?_)
 refine jD (wk0 O) O O A E O (v:=(.agg #[(Iv D.kind),(.string D.text),(Iv D.at_),(Iv D.fin),aI])) O ?_
 intro a w b1 A E
 have E:=r1 E
 refine jD (wk0 O) O O A E O (v:=(.agg #[(Iv C.kind),(.string C.text),(Iv C.at_),(Iv C.fin),aK])) O ?_
 intro a w b2 A E
 have E:=r2 E
 refine S A 1 O fun a A=>aB (aG ?_)
 refine aA (V A E O (xf A A8 O O) fun a A=>?_)
 refine V A E O (xl A bD 1 O O O O) fun a A=>V A E O (xf A A8 O O) fun a A=>V A E O (xl A bD 0 O O O O) fun a A=>S A 2 O fun a A=>?_
 refine kQ [_,_,_,_,_,_] (fun a w=>Env 17 [(16,(.bool ((decide (D.kind=C.kind))&&(decide (D.text=C.text)))))] a∧Hp Z ρ (Pt b2 (.cells #[(Iv C.kind),(.string C.text),(Iv C.at_),(Iv C.fin),aK] 24 (0,0))::Pt b1 (.cells #[(Iv D.kind),(.string D.text),(Iv D.at_),(Iv D.fin),aI] 24 (0,0))::L) w) ?_ ?_
 ·rcases Bool.eq_false_or_eq_true (decide (D.kind=C.kind)) with B|B
  ·
   refine G A E B O (xf A yS O O) fun a A=>G A E B O (xl A aH3 1 O O O O) fun a A=>G A E B O (xf A yS O O) fun a A=>G A E B O (xl A aH3 0 O O O O) fun a A=>G A E B O (v:=(.bool (decide (D.text=C.text)))) (ex_seql O A O O) fun a A=>pk1 A B O O O O fun a A=>?_
   have A:=A.eqv (v':=(.bool ((decide (D.kind=C.kind))&&(decide (D.text=C.text))))) (by rw[B];rfl)
   exact aB ⟨A.cut ⟨O,tv⟩,E⟩
  refine Gk A B O fun a A=>Gk A B O fun a A=>Gk A B O fun a A=>Gk A B O fun a A=>Gk A B O fun a A=>pk0 A B O O O O fun a A=>?_
  have A:=A.eqv (v':=(.bool ((decide (D.kind=C.kind))&&(decide (D.text=C.text))))) (by rw[B];rfl)
  exact aB ⟨A.cut ⟨O,tv⟩,E⟩
 rintro a w ⟨A,E⟩
 refine S A 1 O fun a A=>aB (dI ?_)
 obtain rfl:=oj F
 exact iI A O O ⟨_,O,O,(((E.get 1 O).drop).drop)⟩
theorem Z7 (self:Node→Node→Option Bool) (hself:∀{Z:World} {ρ:PH} {L:List bP} {w:World} (C:Node) (aI:Value) (bC:aH ρ aI C.kids) (B:Node) (aK:Value) (bQ:aH ρ aK B.kids) (E:Hp Z ρ (L) w) (r:Bool) (H:self C B=some r),Calls Tryz.prog 55 #[(.agg #[(Iv C.kind),(.string C.text),(Iv C.at_),(Iv C.fin),aI]),(.agg #[(Iv B.kind),(.string B.text),(Iv B.at_),(Iv B.fin),aK])] w (Ret fun v w'=>v=(.bool r)∧Hp Z ρ (L) w')) {Z:World} {ρ:PH} {L:List bP} {w:World} (C:Node) (aI:Value) (bC:aH ρ aI C.kids) (B:Node) (aK:Value) (bQ:aH ρ aK B.kids) (E:Hp Z ρ (L) w) (r:Bool) (H:pJ self C B=some r):
  Calls Tryz.prog 55 #[(.agg #[(Iv C.kind),(.string C.text),(Iv C.at_),(Iv C.fin),aI]),(.agg #[(Iv B.kind),(.string B.text),(Iv B.at_),(Iv B.fin),aK])] w (Ret fun v w'=>v=(.bool r)∧Hp Z ρ (L) w'):=by
 refine enter (N:=38) Tryz.func55 O O [(0,(.agg #[(Iv C.kind),(.string C.text),(Iv C.at_),(Iv C.fin),aI])),(1,(.agg #[(Iv B.kind),(.string B.text),(Iv B.at_),(Iv B.fin),aK]))] O (bF ⟨O,O,tv⟩) fun a A=>?_
 unfold pJ at H
 refine aG (aA ?_)
 refine jD (wk0 O) O O A E O (v:=(.agg #[(Iv C.kind),(.string C.text),(Iv C.at_),(Iv C.fin),aI])) O ?_
 intro a w b1 A E
 have E:=r1 E
 refine jD (wk0 O) O O A E O (v:=(.agg #[(Iv B.kind),(.string B.text),(Iv B.at_),(Iv B.fin),aK])) O ?_
 intro a w b2 A E
 have E:=r2 E
 refine S A 1 O fun a A=>aB (aG ?_)
 refine aG (aA ?_)
 refine V A E O (aJ O A O (fun w K=>aY (cs:=[(Iv C.kind),(.string C.text),(Iv C.at_),(Iv C.fin),aI]) dF (Hp.cN 1 O 0 _ (aT O) w K))) fun a A=>V A E O (aJ O A O (fun w K=>aY (cs:=[(Iv B.kind),(.string B.text),(Iv B.at_),(Iv B.fin),aK]) dF (Hp.cN 0 O 0 _ (aT O) w K))) fun a A=>?_
 obtain⟨T,d,H⟩:=bnd H
 refine Cl A O O ent82 (aF4 C aI bC B aK bQ E T d) ⟨O,O,tv⟩ fun v a w g A=>?_
 obtain⟨rfl,E⟩:=g
 have E:=r2 E
 refine S A 2 O fun a A=>?_
 refine kQ [_,_,_,_,_,_,_,_] (fun a w=>Env 38 [(18,(.bool ((!T)||(!decide ((C.kids.length:Int)=(B.kids.length:Int)))))),(2,(Pv b1 0)),(3,(Pv b2 0))] a∧Hp Z ρ (Pt b2 (.cells #[(Iv B.kind),(.string B.text),(Iv B.at_),(Iv B.fin),aK] 24 (0,0))::Pt b1 (.cells #[(Iv C.kind),(.string C.text),(Iv C.at_),(Iv C.fin),aI] 24 (0,0))::L) w) ?_ ?_
 ·rcases Bool.eq_false_or_eq_true (!T) with F|F
  ·
   refine Gk A F O fun a A=>Gk A F O fun a A=>Gk A F O fun a A=>Gk A F O fun a A=>Gk A F O fun a A=>Gk A F O fun a A=>Gk A F O fun a A=>pk1 A F O O O O fun a A=>?_
   have A:=A.eqv (v':=(.bool ((!T)||(!decide ((C.kids.length:Int)=(B.kids.length:Int)))))) (by rw[F];rfl)
   exact aB ⟨A.cut ⟨O,O,O,tv⟩,E⟩
  refine G A E F O (xf A xR O O) fun a A=>G A E F O (xl A jK 1 O O O O) fun a A=>G A E F O (dH O A O (aH.len bC kL)) fun a A=>G A E F O (xf A xR O O) fun a A=>G A E F O (xl A jK 0 O O O O) fun a A=>G A E F O (dH O A O (aH.len bQ kL)) fun a A=>Gs A F O O fun a A=>pk0 A F O O O O fun a A=>?_
  have A:=A.eqv (v':=(.bool ((!T)||(!decide ((C.kids.length:Int)=(B.kids.length:Int)))))) (by rw[F];rfl)
  exact aB ⟨A.cut ⟨O,O,O,tv⟩,E⟩
 rintro a w ⟨A,E⟩
 refine aB ?_
 refine dM A O (fun R=>?_) (fun R=>?_)
 ·replace H:=(it R).symm.trans H
  refine aG (aA ?_)
  refine S A 1 O fun a A=>aB (dI ?_)
  obtain rfl:=oj H
  exact iI A O O ⟨_,O,O,(((E.get 1 O).drop).drop)⟩
 replace H:=(ie R).symm.trans H
 refine bH (aG ?_)
 refine aG (aA ?_)
 refine S A 1 O fun a A=>aB ?_
 obtain⟨b3,W,H⟩:=bnd H
 refine dR (fun a w=>∃s:Unit,b3= .brk s∧(Env 38 [] a∧Hp Z ρ (Pt b2 (.cells #[(Iv B.kind),(.string B.text),(Iv B.at_),(Iv B.fin),aK] 24 (0,0))::Pt b1 (.cells #[(Iv C.kind),(.string C.text),(Iv C.at_),(Iv C.fin),aI] 24 (0,0))::L) w)) ?_ ?_
 ·refine fH W (fun s a w=>Env 38 [(2,(Pv b1 0)),(3,(Pv b2 0)),(5,(Iv s))] a∧Hp Z ρ (Pt b2 (.cells #[(Iv B.kind),(.string B.text),(Iv B.at_),(Iv B.fin),aK] 24 (0,0))::Pt b1 (.cells #[(Iv C.kind),(.string C.text),(Iv C.at_),(Iv C.fin),aI] 24 (0,0))::L) w) ?_ ?_
  ·exact⟨A.cut ⟨O,O,O,tv⟩,E⟩
  rintro aQ st a w ⟨A,E⟩ D
  unfold iJ at D
  refine aG (aG ?_)
  refine aA (S A 1 O fun a A=>?_)
  refine V A E O (xf A xR O O) fun a A=>V A E O (xl A jK 1 O O O O) fun a A=>V A E O (dH O A O (aH.len bC kL)) fun a A=>S A 1 O fun a A=>aB ?_
  refine dM A O (fun Q=>?_) (fun Q=>?_)
  ·replace D:=(it Q).symm.trans D
   refine bH (aG ?_)
   refine dV (aG ?_)
   refine mW kr kr E ?_
   refine Vq A O (xf A xR O O) fun a A=>Vq A O (xl A jK 1 O O O O) fun a A=>Sq A 1 O fun a A=>?_
   obtain⟨J,c,D⟩:=bnd D
   obtain⟨b4,b4o,b4c,b4r,b4k,b4f⟩:=aH.at bC kL c
   obtain⟨zU,rfl,hb4_kids⟩:=NodeAt.opens b4k
   have b4f:AtP ρ b4 b4o [(Iv J.kind),(.string J.text),(Iv J.at_),(Iv J.fin),zU]:=b4f
   refine Vq A O (aP O A O O b4r) fun a A=>Vq A O (aJ O A O (fun w K=>aY (cs:=[(Iv J.kind),(.string J.text),(Iv J.at_),(Iv J.fin),zU]) dF (fun j u U=>cell_of K.le (b4f j u U)))) fun a A=>Vq A O (xf A xR O O) fun a A=>Vq A O (xl A jK 0 O O O O) fun a A=>Sq A 1 O fun a A=>?_
   obtain⟨I,b,D⟩:=bnd D
   obtain⟨b5,b5o,b5c,b5r,b5k,b5f⟩:=aH.at bQ kL b
   obtain⟨aM4,rfl,hb5_kids⟩:=NodeAt.opens b5k
   have b5f:AtP ρ b5 b5o [(Iv I.kind),(.string I.text),(Iv I.at_),(Iv I.fin),aM4]:=b5f
   refine Vq A O (aP O A O O b5r) fun a A=>Vq A O (aJ O A O (fun w K=>aY (cs:=[(Iv I.kind),(.string I.text),(Iv I.at_),(Iv I.fin),aM4]) dF (fun j u U=>cell_of K.le (b5f j u U)))) fun a A=>?_
   obtain⟨f,Y,D⟩:=bnd D
   refine aA7 (wk0 O) O O A O [(.agg #[(Iv J.kind),(.string J.text),(Iv J.at_),(Iv J.fin),zU]),(.agg #[(Iv I.kind),(.string I.text),(Iv I.at_),(Iv I.fin),aM4])] ⟨O,O,tv⟩ ent55 (v:=(.bool f)) (fun w K=>Calls.mono (hself J zU hb4_kids I aM4 hb5_kids K f Y) fun e w' ⟨v,he,hv,hh⟩=>⟨by rw[he,hv],hh⟩) ?_
   intro a A
   refine Sq A 1 O fun a A=>?_
   refine nY fun w E=>?_
   have E:=r2 E
   refine dM A O (fun M=>?_) (fun M=>?_)
   ·replace D:=(it M).symm.trans D
    refine aG (aA ?_)
    refine S A 1 O fun a A=>aB (dI ?_)
    refine⟨_,(oj D).symm,fun hb=>?_⟩
    subst hb
    obtain rfl:=oj H
    exact iI A O O ⟨_,O,O,(((E.get 1 O).drop).drop)⟩
   replace D:=(ie M).symm.trans D
   refine bH (aA ?_)
   refine S A 1 O fun a A=>?_
   obtain⟨x5,X,D⟩:=bnd D
   refine V A E O (bK O A O O (aN X)) fun a A=>S A 1 O fun a A=>aB ?_
   exact⟨_,(oj D).symm,A.cut ⟨O,O,O,tv⟩,E⟩
  replace D:=(ie Q).symm.trans D
  refine eU ?_
  refine⟨_,(oj D).symm,fun hbb=>?_⟩
  exact⟨_,hbb.symm,A.cut trivial,E⟩
 rintro a w ⟨b3s,rfl,A,E⟩
 dsimp only at H
 refine aG (aA ?_)
 refine S A 1 O fun a A=>aB ?_
 have A:=A.cut (E':=[(4,(.bool true))]) ⟨O,tv⟩
 refine dI ?_
 obtain rfl:=oj H
 exact iI A O O ⟨_,O,O,(((E.get 1 O).drop).drop)⟩
theorem aD6:∀(n:Nat),∀{Z:World} {ρ:PH} {L:List bP} {w:World} (B:Node) (aI:Value) (bC:aH ρ aI B.kids) (A:Node) (aK:Value) (bQ:aH ρ aK A.kids) (D:Hp Z ρ (L) w) (r:Bool) (C:jI n B A=some r),Calls Tryz.prog 55 #[(.agg #[(Iv B.kind),(.string B.text),(Iv B.at_),(Iv B.fin),aI]),(.agg #[(Iv A.kind),(.string A.text),(Iv A.at_),(Iv A.fin),aK])] w (Ret fun v w'=>v=(.bool r)∧Hp Z ρ (L) w'):=by
 intro n
 induction n with
 |zero=>intro Z ρ L w B aI bC A aK bQ D r C;cases C
 |succ n ih=>intro Z ρ L w B aI bC A aK bQ D r C;exact Z7 (jI n) ih B aI bC A aK bQ D r C
theorem aG0 {Z:World} {ρ:PH} {L:List bP} {w:World} (B:Node) (aI:Value) (bC:aH ρ aI B.kids) (A:Node) (aK:Value) (bQ:aH ρ aK A.kids) (C:Hp Z ρ (L) w) (r:Bool) (D:sS B A=some r):
  Calls Tryz.prog 55 #[(.agg #[(Iv B.kind),(.string B.text),(Iv B.at_),(Iv B.fin),aI]),(.agg #[(Iv A.kind),(.string A.text),(Iv A.at_),(Iv A.fin),aK])] w (Ret fun v w'=>v=(.bool r)∧Hp Z ρ (L) w'):=aD6 _ B aI bC A aK bQ C r D
theorem aA5 (self:Node→Int→Option Int) (hself:∀{Z:World} {ρ:PH} {L:List bP} {w:World} (B:Node) (aI:Value) (bC:aH ρ aI B.kids) (I:Int) (C:Hp Z ρ (L) w) (r:Int) (H:self B I=some r),Calls Tryz.prog 58 #[(.agg #[(Iv B.kind),(.string B.text),(Iv B.at_),(Iv B.fin),aI]),(Iv I)] w (Ret fun v w'=>v=(Iv r)∧Hp Z ρ (L) w')) {Z:World} {ρ:PH} {L:List bP} {w:World} (B:Node) (aI:Value) (bC:aH ρ aI B.kids) (I:Int) (C:Hp Z ρ (L) w) (r:Int) (H:qG self B I=some r):
  Calls Tryz.prog 58 #[(.agg #[(Iv B.kind),(.string B.text),(Iv B.at_),(Iv B.fin),aI]),(Iv I)] w (Ret fun v w'=>v=(Iv r)∧Hp Z ρ (L) w'):=by
 refine enter (N:=35) Tryz.func58 O O [(0,(.agg #[(Iv B.kind),(.string B.text),(Iv B.at_),(Iv B.fin),aI])),(1,(Iv I))] O (bF ⟨O,O,tv⟩) fun a A=>?_
 unfold qG at H
 refine aG (aA ?_)
 refine jD (wk0 O) O O A C O (v:=(.agg #[(Iv B.kind),(.string B.text),(Iv B.at_),(Iv B.fin),aI])) O ?_
 intro a w b1 A C
 have C:=r1 C
 refine S A 1 O fun a A=>aB (aG ?_)
 refine aG (aA ?_)
 refine S A 3 O fun a A=>?_
 refine kQ [_,_,_,_,_] (fun a w=>Env 35 [(13,(.bool ((decide (I<1))||(decide (40<(B.text.size:Int)))))),(1,(Iv I)),(2,(Pv b1 0))] a∧Hp Z ρ (Pt b1 (.cells #[(Iv B.kind),(.string B.text),(Iv B.at_),(Iv B.fin),aI] 24 (0,0))::L) w) ?_ ?_
 ·rcases Bool.eq_false_or_eq_true (decide (I<1)) with E|E
  ·
   refine Gk A E O fun a A=>Gk A E O fun a A=>Gk A E O fun a A=>Gk A E O fun a A=>pk1 A E O O O O fun a A=>?_
   have A:=A.eqv (v':=(.bool ((decide (I<1))||(decide (40<(B.text.size:Int)))))) (by rw[E];rfl)
   exact aB ⟨A.cut ⟨O,O,O,tv⟩,C⟩
  refine G A C E O (xf A yS O O) fun a A=>G A C E O (xl A aH3 0 O O O O) fun a A=>G A C E O (v:=(Iv (B.text.size:Int))) (ex_slen sty9 O A O) fun a A=>Gs A E O O fun a A=>pk0 A E O O O O fun a A=>?_
  have A:=A.eqv (v':=(.bool ((decide (I<1))||(decide (40<(B.text.size:Int)))))) (by rw[E];rfl)
  exact aB ⟨A.cut ⟨O,O,O,tv⟩,C⟩
 rintro a w ⟨A,C⟩
 refine aB ?_
 refine dM A O (fun M=>?_) (fun M=>?_)
 ·replace H:=(it M).symm.trans H
  refine aG (aA ?_)
  refine S A 1 O fun a A=>aB (dI ?_)
  obtain rfl:=oj H
  exact iI A O O ⟨_,O,O,(C.drop)⟩
 replace H:=(ie M).symm.trans H
 refine bH (aG ?_)
 refine aA (S A 1 O fun a A=>?_)
 obtain⟨x1,W,H⟩:=bnd H
 refine V A C O (dS O A O O (aN W)) fun a A=>S A 1 O fun a A=>aB (aG ?_)
 refine aG (aA ?_)
 refine S A 1 O fun a A=>aB ?_
 obtain⟨b2,Q,H⟩:=bnd H
 refine dR (fun a w=>Env 35 [(1,(Iv b2))] a∧Hp Z ρ (Pt b1 (.cells #[(Iv B.kind),(.string B.text),(Iv B.at_),(Iv B.fin),aI] 24 (0,0))::L) w) ?_ ?_
 ·refine fH Q (fun s a w=>Env 35 [(1,(Iv s.1)),(2,(Pv b1 0)),(5,(Iv s.2))] a∧Hp Z ρ (Pt b1 (.cells #[(Iv B.kind),(.string B.text),(Iv B.at_),(Iv B.fin),aI] 24 (0,0))::L) w) ?_ ?_
  ·exact⟨A.cut ⟨O,O,O,tv⟩,C⟩
  rintro⟨aQ,aW⟩ st a w ⟨A,C⟩ D
  dsimp only at A C D
  unfold jP at D
  refine aG (aG ?_)
  refine aA (S A 1 O fun a A=>?_)
  refine V A C O (xf A xR O O) fun a A=>V A C O (xl A jK 0 O O O O) fun a A=>V A C O (dH O A O (aH.len bC kL)) fun a A=>S A 2 O fun a A=>?_
  refine kQ [_,_,_] (fun a w=>Env 35 [(24,(.bool ((decide (aW<(B.kids.length:Int)))&&(decide (0≤aQ))))),(1,(Iv aQ)),(2,(Pv b1 0)),(5,(Iv aW))] a∧Hp Z ρ (Pt b1 (.cells #[(Iv B.kind),(.string B.text),(Iv B.at_),(Iv B.fin),aI] 24 (0,0))::L) w) ?_ ?_
  ·rcases Bool.eq_false_or_eq_true (decide (aW<(B.kids.length:Int))) with F|F
   ·
    refine Gs A F O O fun a A=>Gs A F O O fun a A=>pk1 A F O O O O fun a A=>?_
    have A:=A.eqv (v':=(.bool ((decide (aW<(B.kids.length:Int)))&&(decide (0≤aQ))))) (by rw[F];rfl)
    exact aB ⟨A.cut ⟨O,O,O,O,tv⟩,C⟩
   refine Gk A F O fun a A=>Gk A F O fun a A=>pk0 A F O O O O fun a A=>?_
   have A:=A.eqv (v':=(.bool ((decide (aW<(B.kids.length:Int)))&&(decide (0≤aQ))))) (by rw[F];rfl)
   exact aB ⟨A.cut ⟨O,O,O,O,tv⟩,C⟩
  rintro a w ⟨A,C⟩
  refine aB ?_
  refine dM A O (fun K=>?_) (fun K=>?_)
  ·replace D:=(it K).symm.trans D
   refine bH (aG ?_)
   refine dV (aA ?_)
   refine V A C O (xf A xR O O) fun a A=>V A C O (xl A jK 0 O O O O) fun a A=>S A 1 O fun a A=>?_
   obtain⟨J,U,D⟩:=bnd D
   obtain⟨b3,b3o,b3c,b3r,b3k,b3f⟩:=aH.at bC kL U
   obtain⟨rW,rfl,aB8⟩:=NodeAt.opens b3k
   have b3f:AtP ρ b3 b3o [(Iv J.kind),(.string J.text),(Iv J.at_),(Iv J.fin),rW]:=b3f
   refine V A C O (aP O A O O b3r) fun a A=>V A C O (aJ O A O (fun w Y=>aY (cs:=[(Iv J.kind),(.string J.text),(Iv J.at_),(Iv J.fin),rW]) dF (fun j u b=>cell_of Y.le (b3f j u b)))) fun a A=>S A 1 O fun a A=>?_
   obtain⟨X,T,D⟩:=bnd D
   refine Cl A O O ent58 (hself J rW aB8 aQ C X T) ⟨O,O,tv⟩ fun v a w c A=>?_
   obtain⟨rfl,C⟩:=c
   have C:=r1 C
   refine S A 1 O fun a A=>aB (aA ?_)
   refine S A 1 O fun a A=>?_
   obtain⟨x4,R,D⟩:=bnd D
   refine V A C O (bK O A O O (aN R)) fun a A=>S A 1 O fun a A=>aB ?_
   exact⟨_,(oj D).symm,A.cut ⟨O,O,O,tv⟩,C⟩
  replace D:=(ie K).symm.trans D
  refine eU ?_
  refine⟨_,(oj D).symm,fun hbb=>?_⟩
  subst hbb
  exact⟨A.cut ⟨O,tv⟩,C⟩
 rintro a w ⟨A,C⟩
 refine aG (aA ?_)
 refine S A 2 O fun a A=>aB (dI ?_)
 obtain rfl:=oj H
 exact iI A O O ⟨_,O,O,(C.drop)⟩
theorem aF5:∀(n:Nat),∀{Z:World} {ρ:PH} {L:List bP} {w:World} (A:Node) (aI:Value) (bC:aH ρ aI A.kids) (B:Int) (D:Hp Z ρ (L) w) (r:Int) (C:kE n A B=some r),Calls Tryz.prog 58 #[(.agg #[(Iv A.kind),(.string A.text),(Iv A.at_),(Iv A.fin),aI]),(Iv B)] w (Ret fun v w'=>v=(Iv r)∧Hp Z ρ (L) w'):=by
 intro n
 induction n with
 |zero=>intro Z ρ L w A aI bC B D r C;cases C
 |succ n ih=>intro Z ρ L w A aI bC B D r C;exact aA5 (kE n) ih A aI bC B D r C
theorem aJ7 {Z:World} {ρ:PH} {L:List bP} {w:World} (A:Node) (aI:Value) (bC:aH ρ aI A.kids) (B:Int) (C:Hp Z ρ (L) w) (r:Int) (D:yC A B=some r):
  Calls Tryz.prog 58 #[(.agg #[(Iv A.kind),(.string A.text),(Iv A.at_),(Iv A.fin),aI]),(Iv B)] w (Ret fun v w'=>v=(Iv r)∧Hp Z ρ (L) w'):=aF5 _ A aI bC B C r D
theorem O6 {Z:World} {ρ:PH} {L:List bP} {w:World} (A:Node) (aI:Value) (bC:aH ρ aI A.kids) (D:Int) (C:Hp Z ρ (L) w) (r:Bool) (E:oJ A D=some r):
  Calls Tryz.prog 31 #[(.agg #[(Iv A.kind),(.string A.text),(Iv A.at_),(Iv A.fin),aI]),(Iv D)] w (Ret fun v w'=>v=(.bool r)∧Hp Z ρ (L) w'):=by
 refine enter (N:=9) Tryz.func31 O O [(0,(.agg #[(Iv A.kind),(.string A.text),(Iv A.at_),(Iv A.fin),aI])),(1,(Iv D))] O (bF ⟨O,O,tv⟩) fun a B=>?_
 unfold oJ at E
 refine aG (aA ?_)
 refine jD (wk0 O) O O B C O (v:=(.agg #[(Iv A.kind),(.string A.text),(Iv A.at_),(Iv A.fin),aI])) O ?_
 intro a w b1 B C
 have C:=r1 C
 refine S B 1 O fun a B=>aB (aG ?_)
 refine aA (V B C O (aJ O B O (fun w H=>aY (cs:=[(Iv A.kind),(.string A.text),(Iv A.at_),(Iv A.fin),aI]) dF (Hp.cN 0 O 0 _ (aT O) w H))) fun a B=>?_)
 refine S B 1 O fun a B=>?_
 obtain⟨G,F,E⟩:=bnd E
 refine Cl B O O ent58 (aJ7 A aI bC D C G F) ⟨O,O,tv⟩ fun v a w I B=>?_
 obtain⟨rfl,C⟩:=I
 have C:=r1 C
 refine S B 2 O fun a B=>aB (dI ?_)
 obtain rfl:=oj E
 exact iI B O O ⟨_,O,O,(C.drop)⟩
theorem aJ6 {Z:World} {ρ:PH} {L:List bP} {w:World} (C:Node) (aI:Value) (bC:aH ρ aI C.kids) (B:Node) (aK:Value) (bQ:aH ρ aK B.kids) (H:Int) (E:Hp Z ρ (L) w) (r:Bool) (F:rF C B H=some r):
  Calls Tryz.prog 11 #[(.agg #[(Iv C.kind),(.string C.text),(Iv C.at_),(Iv C.fin),aI]),(.agg #[(Iv B.kind),(.string B.text),(Iv B.at_),(Iv B.fin),aK]),(Iv H)] w (Ret fun v w'=>v=(.bool r)∧Hp Z ρ (L) w'):=by
 refine enter (N:=15) Tryz.func11 O O [(0,(.agg #[(Iv C.kind),(.string C.text),(Iv C.at_),(Iv C.fin),aI])),(1,(.agg #[(Iv B.kind),(.string B.text),(Iv B.at_),(Iv B.fin),aK])),(2,(Iv H))] O (bF ⟨O,O,O,tv⟩) fun a A=>?_
 unfold rF at F
 refine aG (aA ?_)
 refine jD (wk0 O) O O A E O (v:=(.agg #[(Iv C.kind),(.string C.text),(Iv C.at_),(Iv C.fin),aI])) O ?_
 intro a w b1 A E
 have E:=r1 E
 refine jD (wk0 O) O O A E O (v:=(.agg #[(Iv B.kind),(.string B.text),(Iv B.at_),(Iv B.fin),aK])) O ?_
 intro a w b2 A E
 have E:=r2 E
 refine S A 1 O fun a A=>aB (aG ?_)
 refine aA (V A E O (aJ O A O (fun w I=>aY (cs:=[(Iv C.kind),(.string C.text),(Iv C.at_),(Iv C.fin),aI]) dF (Hp.cN 1 O 0 _ (aT O) w I))) fun a A=>?_)
 refine S A 1 O fun a A=>?_
 obtain⟨Q,M,F⟩:=bnd F
 refine Cl A O O ent31 (O6 C aI bC H E Q M) ⟨O,O,tv⟩ fun v a w J A=>?_
 obtain⟨rfl,E⟩:=J
 have E:=r2 E
 refine S A 1 O fun a A=>?_
 obtain⟨m1,hg1,F⟩:=bnd F
 refine kQ [_,_,_,_] (fun a w=>Env 15 [(14,(.bool m1))] a∧Hp Z ρ (Pt b2 (.cells #[(Iv B.kind),(.string B.text),(Iv B.at_),(Iv B.fin),aK] 24 (0,0))::Pt b1 (.cells #[(Iv C.kind),(.string C.text),(Iv C.at_),(Iv C.fin),aI] 24 (0,0))::L) w) ?_ ?_
 ·rcases Bool.eq_false_or_eq_true Q with D|D
  ·
   replace hg1:=(it D).symm.trans hg1
   refine G A E D O (aJ O A O (fun w I=>aY (cs:=[(Iv B.kind),(.string B.text),(Iv B.at_),(Iv B.fin),aK]) dF (Hp.cN 0 O 0 _ (aT O) w I))) fun a A=>Gs A D O O fun a A=>?_
   obtain⟨R,K,hg1⟩:=bnd hg1
   refine Cg A D O O ent31 (O6 B aK bQ H E R K) ⟨O,O,tv⟩ fun v a w J A=>?_
   obtain⟨rfl,E⟩:=J
   have E:=r2 E
   refine pk1 A D O O O O fun a A=>?_
   obtain rfl:=oj hg1
   exact aB ⟨A.cut ⟨O,tv⟩,E⟩
  replace hg1:=(ie D).symm.trans hg1
  refine Gk A D O fun a A=>Gk A D O fun a A=>Gk A D O fun a A=>pk0 A D O O O O fun a A=>?_
  obtain rfl:=oj hg1
  exact aB ⟨A.cut ⟨O,tv⟩,E⟩
 rintro a w ⟨A,E⟩
 refine S A 1 O fun a A=>aB (dI ?_)
 obtain rfl:=oj F
 exact iI A O O ⟨_,O,O,(((E.get 1 O).drop).drop)⟩
theorem qH {Z:World} {ρ:PH} {L:List bP} {w:World} (C:ByteArray) (A:Hp Z ρ (L) w) (r:Node) (D:kV C=some r):
  Calls Tryz.prog 36 #[(.string C)] w (Ret fun v w'=>∃(ρ':PH) (Y6:Value),ρ.le ρ'∧v=(.agg #[(Iv r.kind),(.string r.text),(Iv r.at_),(Iv r.fin),Y6])∧aH ρ' Y6 r.kids∧Hp Z ρ' (L) w'):=by
 refine enter (N:=5) Tryz.func36 O O [(0,(.string C))] O (bF ⟨O,tv⟩) fun a B=>?_
 unfold kV at D
 refine aG (aA ?_)
 refine dL (wk0 O) O O B A O [(Iv 0),(.string ByteArray.empty),(Iv 0),(Iv 0),N0] (fun w=>by simp[Instr.alloc,go_sem]<;>rfl) ?_
 intro a w b1 B A
 have A:=r1 A
 refine aB (aG ?_)
 refine aA (S B 1 O fun a B=>?_)
 refine V B A O (v:=(.agg #[(Iv 20),(.string C),(Iv 0),(Iv 0),N0])) (pV O B [(0,(Iv 20)),(1,(.string C))] (by exact⟨⟨O,O⟩,⟨O,O⟩,tv⟩) (fun w=>by simp[Instr.build,Instr.fill,Value.cells,go_sem])) fun a B=>?_
 refine aX (wk0 O) O B A O O O 0 O dF.size_ O (aO ⟨O,O,O,O,O,tv⟩) [(Iv 20),(.string C),(Iv 0),(Iv 0),N0] O ?_
 intro w A
 have A:=r1 A
 refine aB (dI ?_)
 obtain rfl:=oj D
 exact retc1 B O O (aI9 (cs:=[(Iv 20),(.string C),(Iv 0),(Iv 0),N0]) dF (Hp.cN 0 O 0 _ (aT O) _ A)) ⟨_,O,_,_,(PH.le.rf _),O,(aH.nil _),(A.drop)⟩
theorem vF {Z:World} {ρ:PH} {L:List bP} {w:World} (F:ByteArray) (B:Node) (aK:Value) (bQ:aH ρ aK B.kids) (A:Node) (J6:Value) (hp2_kids:aH ρ J6 A.kids) (C:Hp Z ρ (L) w) (r:Node) (I:nX F B A=some r):
  Calls Tryz.prog 35 #[(.string F),(.agg #[(Iv B.kind),(.string B.text),(Iv B.at_),(Iv B.fin),aK]),(.agg #[(Iv A.kind),(.string A.text),(Iv A.at_),(Iv A.fin),J6])] w (Ret fun v w'=>∃(ρ':PH) (Y6:Value),ρ.le ρ'∧v=(.agg #[(Iv r.kind),(.string r.text),(Iv r.at_),(Iv r.fin),Y6])∧aH ρ' Y6 r.kids∧Hp Z ρ' (L) w'):=by
 refine enter (N:=12) Tryz.func35 O O [(0,(.string F)),(1,(.agg #[(Iv B.kind),(.string B.text),(Iv B.at_),(Iv B.fin),aK])),(2,(.agg #[(Iv A.kind),(.string A.text),(Iv A.at_),(Iv A.fin),J6]))] O (bF ⟨O,O,O,tv⟩) fun a D=>?_
 unfold nX at I
 refine aG (aA ?_)
 refine jD (wk0 O) O O D C O (v:=(.agg #[(Iv B.kind),(.string B.text),(Iv B.at_),(Iv B.fin),aK])) O ?_
 intro a w b1 D C
 have C:=r1 C
 refine jD (wk0 O) O O D C O (v:=(.agg #[(Iv A.kind),(.string A.text),(Iv A.at_),(Iv A.fin),J6])) O ?_
 intro a w b2 D C
 have C:=r2 C
 refine dL (wk0 O) O O D C O [(Iv 0),(.string ByteArray.empty),(Iv 0),(Iv 0),N0] (fun w=>by simp[Instr.alloc,go_sem]<;>rfl) ?_
 intro a w b3 D C
 have C:=r3 C
 refine aB (aG ?_)
 refine aA (S D 1 O fun a D=>?_)
 refine V D C O (aJ O D O (fun w H=>aY (cs:=[(Iv B.kind),(.string B.text),(Iv B.at_),(Iv B.fin),aK]) dF (Hp.cN 2 O 0 _ (aT O) w H))) fun a D=>V D C O (aJ O D O (fun w H=>aY (cs:=[(Iv A.kind),(.string A.text),(Iv A.at_),(Iv A.fin),J6]) dF (Hp.cN 1 O 0 _ (aT O) w H))) fun a D=>?_
 refine gG (wk0 O) O O D C O [(0,(.agg #[(Iv B.kind),(.string B.text),(Iv B.at_),(Iv B.fin),aK])),(1,(.agg #[(Iv A.kind),(.string A.text),(Iv A.at_),(Iv A.fin),J6]))] ⟨⟨O,O⟩,⟨O,O⟩,tv⟩ [(Iv B.kind),(.string B.text),(Iv B.at_),(Iv B.fin),aK,(Iv A.kind),(.string A.text),(Iv A.at_),(Iv A.fin),J6] 24 (fun w=>by have E:=aH.cells bQ;simp only[Value.cells] at E;have G:=aH.cells hp2_kids;simp only[Value.cells] at G;simp[Instr.buildSlice,Instr.fill,Value.cells,E,G,go_sem]) ?_
 intro a w b4 D C
 have C:=r4 C
 obtain⟨k1,k1a,k1d,C⟩:=(C.get 0 O).lend
 have f1:aH (ρ.un k1) (.slice (some ⟨b4,0,none⟩) 2 2) ([B,A]:List Node):=aH.of_all (l:=(([B,A]:List Node))) k1d k1a ⟨_,_,O,(show NodeAt (ρ.un k1) B [(Iv B.kind),(.string B.text),(Iv B.at_),(Iv B.fin),aK] from NodeAt.shutv ((aH.mono bQ (PH.le_un _ k1)))),⟨_,_,O,(show NodeAt (ρ.un k1) A [(Iv A.kind),(.string A.text),(Iv A.at_),(Iv A.fin),J6] from NodeAt.shutv ((aH.mono hp2_kids (PH.le_un _ k1)))),O⟩⟩
 have C:=r3 C
 refine V D C O (v:=(.agg #[(Iv 29),(.string F),(Iv 0),(Iv 0),(.slice (some ⟨b4,0,none⟩) 2 2)])) (pV O D [(0,(Iv 29)),(1,(.string F)),(4,(.slice (some ⟨b4,0,none⟩) 2 2))] (by exact⟨⟨O,O⟩,⟨O,O⟩,⟨O,O⟩,tv⟩) (fun w=>by have E:=aH.cells f1;simp only[Value.cells] at E;simp[Instr.build,Instr.fill,Value.cells,E,go_sem])) fun a D=>?_
 refine aX (wk0 O) O D C O O O 0 O dF.size_ O (aO ⟨O,O,O,O,(aH.one f1),tv⟩) [(Iv 29),(.string F),(Iv 0),(Iv 0),(.slice (some ⟨b4,0,none⟩) 2 2)] O ?_
 intro w C
 have C:=r3 C
 refine aB (dI ?_)
 obtain rfl:=oj I
 exact retc1 D O O (aI9 (cs:=[(Iv 29),(.string F),(Iv 0),(Iv 0),(.slice (some ⟨b4,0,none⟩) 2 2)]) dF (Hp.cN 0 O 0 _ (aT O) _ C)) ⟨_,O,_,_,(PH.le_un _ k1),O,f1,(((((C.get 2 O).drop).get 1 O).drop).drop)⟩
theorem yE {Z:World} {ρ:PH} {L:List bP} {w:World} (Y:(List Node)) (vp0:Value) (hp0:aH ρ vp0 Y) (X:(List Node)) (vp1:Value) (hp1:aH ρ vp1 X) (C:Hp Z ρ (L) w) (r:Bool) (F:jW Y X=some r):
  Calls Tryz.prog 25 #[vp0,vp1] w (Ret fun v w'=>v=(.bool r)∧Hp Z ρ (L) w'):=by
 refine enter (N:=27) Tryz.func25 O O [(0,vp0),(1,vp1)] O (bF ⟨O,O,tv⟩) fun a A=>?_
 unfold jW at F
 refine aG (aA ?_)
 refine S A 1 O fun a A=>aB (aG ?_)
 refine aG (aA ?_)
 refine S A 1 O fun a A=>V A C O (dH O A O (aH.len hp0 kL)) fun a A=>S A 1 O fun a A=>V A C O (dH O A O (aH.len hp1 kL)) fun a A=>S A 1 O fun a A=>aB ?_
 refine dM A O (fun I=>?_) (fun I=>?_)
 ·replace F:=(it I).symm.trans F
  refine aG (aA ?_)
  refine S A 1 O fun a A=>aB (dI ?_)
  obtain rfl:=oj F
  exact iI A O O ⟨_,O,O,C⟩
 replace F:=(ie I).symm.trans F
 refine bH (aG ?_)
 refine aG (aA ?_)
 refine S A 1 O fun a A=>aB ?_
 obtain⟨b1,M,F⟩:=bnd F
 refine dR (fun a w=>∃s:Unit,b1= .brk s∧(Env 27 [] a∧Hp Z ρ (L) w)) ?_ ?_
 ·refine fH M (fun s a w=>Env 27 [(0,vp0),(1,vp1),(5,(Iv s))] a∧Hp Z ρ (L) w) ?_ ?_
  ·exact⟨A.cut ⟨O,O,O,tv⟩,C⟩
  rintro aQ st a w ⟨A,C⟩ B
  unfold jQ at B
  refine aG (aG ?_)
  refine aA (S A 2 O fun a A=>?_)
  refine V A C O (dH O A O (aH.len hp0 kL)) fun a A=>S A 1 O fun a A=>aB ?_
  refine dM A O (fun H=>?_) (fun H=>?_)
  ·replace B:=(it H).symm.trans B
   refine bH (aG ?_)
   refine dV (aG ?_)
   refine mW kr kr C ?_
   refine Sq A 2 O fun a A=>?_
   obtain⟨E,U,B⟩:=bnd B
   obtain⟨b2,b2o,b2c,b2r,b2k,b2f⟩:=aH.at hp0 kL U
   obtain⟨sZ,rfl,aG5⟩:=NodeAt.opens b2k
   have b2f:AtP ρ b2 b2o [(Iv E.kind),(.string E.text),(Iv E.at_),(Iv E.fin),sZ]:=b2f
   refine Vq A O (aP O A O O b2r) fun a A=>Vq A O (aJ O A O (fun w J=>aY (cs:=[(Iv E.kind),(.string E.text),(Iv E.at_),(Iv E.fin),sZ]) dF (fun j u K=>cell_of J.le (b2f j u K)))) fun a A=>Sq A 2 O fun a A=>?_
   obtain⟨D,T,B⟩:=bnd B
   obtain⟨b3,b3o,b3c,b3r,b3k,b3f⟩:=aH.at hp1 kL T
   obtain⟨rW,rfl,aB8⟩:=NodeAt.opens b3k
   have b3f:AtP ρ b3 b3o [(Iv D.kind),(.string D.text),(Iv D.at_),(Iv D.fin),rW]:=b3f
   refine Vq A O (aP O A O O b3r) fun a A=>Vq A O (aJ O A O (fun w J=>aY (cs:=[(Iv D.kind),(.string D.text),(Iv D.at_),(Iv D.fin),rW]) dF (fun j u K=>cell_of J.le (b3f j u K)))) fun a A=>?_
   obtain⟨W,R,B⟩:=bnd B
   refine aA7 (wk0 O) O O A O [(.agg #[(Iv E.kind),(.string E.text),(Iv E.at_),(Iv E.fin),sZ]),(.agg #[(Iv D.kind),(.string D.text),(Iv D.at_),(Iv D.fin),rW])] ⟨O,O,tv⟩ ent55 (v:=(.bool W)) (fun w J=>Calls.mono (aG0 E sZ aG5 D rW aB8 J W R) fun e w' ⟨v,he,hv,hh⟩=>⟨by rw[he,hv],hh⟩) ?_
   intro a A
   refine Sq A 1 O fun a A=>?_
   refine nY fun w C=>?_
   have C:=r0 C
   refine dM A O (fun G=>?_) (fun G=>?_)
   ·replace B:=(it G).symm.trans B
    refine aG (aA ?_)
    refine S A 1 O fun a A=>aB (dI ?_)
    refine⟨_,(oj B).symm,fun hb=>?_⟩
    subst hb
    obtain rfl:=oj F
    exact iI A O O ⟨_,O,O,C⟩
   replace B:=(ie G).symm.trans B
   refine bH (aA ?_)
   refine S A 1 O fun a A=>?_
   obtain⟨x4,Q,B⟩:=bnd B
   refine V A C O (bK O A O O (aN Q)) fun a A=>S A 1 O fun a A=>aB ?_
   exact⟨_,(oj B).symm,A.cut ⟨O,O,O,tv⟩,C⟩
  replace B:=(ie H).symm.trans B
  refine eU ?_
  refine⟨_,(oj B).symm,fun hbb=>?_⟩
  exact⟨_,hbb.symm,A.cut trivial,C⟩
 rintro a w ⟨b1s,rfl,A,C⟩
 dsimp only at F
 refine aG (aA ?_)
 refine S A 1 O fun a A=>aB (dI ?_)
 obtain rfl:=oj F
 exact iI A O O ⟨_,O,O,C⟩
end Go.Proofs.YtopnldfjcciieaaGreat
