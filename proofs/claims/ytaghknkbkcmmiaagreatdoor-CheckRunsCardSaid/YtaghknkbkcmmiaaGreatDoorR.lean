/- What is told of the calls of the law's run: arguments, memory, value, memory. No condition. -/
import Derived.Test.YtaghknkbkcmmiaaGreatDoorTab
namespace Go.Proofs.YtaghknkbkcmmiaaGreatDoor
open Go Go.Vm Go.RowKit
set_option maxRecDepth 1000000
noncomputable def mm0 : Mem := ⟨10,upd .leaf [(2,some (.cells 0 0 true 0 [.w 1,.w 10,.w 100,.w 1000,.w 10000,.w 100000,.w 1000000,.w 10000000,.w 100000000,.w 1000000000,.w 10000000000,.w 100000000000,.w 1000000000000,.w 10000000000000,.w 100000000000000,.w 1000000000000000,.w 10000000000000000,.w 100000000000000000,.w 1000000000000000000,.w 10000000000000000000]))],upd .leaf []⟩
noncomputable def mm1 : Mem := ⟨506,upd mm0.bl [],upd mm0.cl []⟩
noncomputable def rr0 : Rec := ⟨4,[.str 40 1044019312052014220627576449390399609642613237425302887679608903904415402396882730982358917539186,.str 28 13177387655581195719133805262003029315791692670469894218570197508219,.str 28 13177387655581195719133805262003029315791692670469894218570197508219],mm0,(.bool true),mm1⟩
noncomputable def mm2 : Mem := ⟨1228,upd mm0.bl [],upd mm0.cl []⟩
noncomputable def rr1 : Rec := ⟨5,[.str 19 917134862978233968627064646563857847282114600,.j 0,.j 43],mm1,(.bool true),mm2⟩
noncomputable def mm3 : Mem := ⟨2257,upd mm0.bl [],upd mm0.cl []⟩
noncomputable def rr2 : Rec := ⟨5,[.str 35 312083124834431655752463963377646690474082637530987720434888623526452592984510242856,.j 0,.j 43],mm2,(.bool true),mm3⟩
noncomputable def mm4 : Mem := ⟨3166,upd mm0.bl [],upd mm0.cl []⟩
noncomputable def rr3 : Rec := ⟨4,[.str 41 87846000658808132139396926015745507083773730330760341831852914030682484286256317932096484979074411,.str 31 164538741652212251578852078441744029399626613238827475930324670699371372635,.str 9 1717883851752509939803],mm3,(.bool true),mm4⟩
noncomputable def mm5 : Mem := ⟨6545,upd mm1.bl [],upd mm1.cl []⟩
noncomputable def rr4 : Rec := ⟨4,[.str 61 362515866801655548352987951854917851998307867002077940406327137854155359442160018340175159393526690018151325515938760866347712229591206887597303148,.str 3 7626611,.str 3 7626614],mm4,(.bool true),mm5⟩
noncomputable def mm6 : Mem := ⟨6753,upd mm2.bl [],upd mm2.cl []⟩
noncomputable def rr5 : Rec := ⟨5,[.str 26 186607130145744219014764682875729351544657107310066910501299564,.j 0,.j 41],mm5,(.bool true),mm6⟩
noncomputable def mm7 : Mem := ⟨6912,upd mm3.bl [],upd mm3.cl []⟩
noncomputable def rr6 : Rec := ⟨5,[.str 23 11122651706564701917623415155542271253286730169597584748,.j 0,.j 41],mm6,(.bool true),mm7⟩
noncomputable def mm8 : Mem := ⟨6980,upd mm4.bl [],upd mm4.cl []⟩
noncomputable def rr7 : Rec := ⟨5,[.str 1 117,.j 0,.j 40],mm7,(.bool true),mm8⟩
noncomputable def mm9 : Mem := ⟨8260,upd mm5.bl [],upd mm5.cl []⟩
noncomputable def rr8 : Rec := ⟨4,[.str 47 24726604222822692621265029773734293883140414405080609733900831439926844870668846415510504445862744486800144867368,.str 13 9913556162060005783718663954555,.str 13 9913556162060005783718680731771],mm8,(.bool true),mm9⟩
noncomputable def mm10 : Mem := ⟨8977,upd mm6.bl [],upd mm6.cl []⟩
noncomputable def rr9 : Rec := ⟨5,[.str 30 283838649666917358150387303668407683236259099605857785232703165808844840,.j 0,.j 42],mm9,(.bool true),mm10⟩
noncomputable def mm11 : Mem := ⟨9207,upd mm7.bl [],upd mm7.cl []⟩
noncomputable def rr10 : Rec := ⟨5,[.str 21 50376895613619362329452974465583695514653468553059,.j 0,.j 42],mm10,(.bool true),mm11⟩
noncomputable def mm12 : Mem := ⟨9436,upd mm8.bl [],upd mm8.cl []⟩
noncomputable def rr11 : Rec := ⟨5,[.str 23 3939162666413169152572506444819526818799456657643151400,.j 0,.j 42],mm11,(.bool true),mm12⟩
noncomputable def mm13 : Mem := ⟨9742,upd .leaf [(2,some (.cells 0 0 true 0 [.w 1,.w 10,.w 100,.w 1000,.w 10000,.w 100000,.w 1000000,.w 10000000,.w 100000000,.w 1000000000,.w 10000000000,.w 100000000000,.w 1000000000000,.w 10000000000000,.w 100000000000000,.w 1000000000000000,.w 10000000000000000,.w 100000000000000000,.w 1000000000000000000,.w 10000000000000000000])),(9548,some (.cells 0 0 false 39 [.str 1 97,.str 1 98])),(9549,some (.cells 0 0 false 19 [(.bool false),(.bool true)])),(9561,some (.cells 0 0 false 155 [.j 3,.str 0 0,.nils,.nils,.nils,.nils,.nils])),(9569,some (.cells 9564 0 false 223 [.j 12,.j 1,.j 0,.str 0 0,(.slice 9561 0 7 1 1 false),.nils,.nils,.nils,.nils,.nils,.j 29,.j 11,.j 0,.str 4 1835627124,.nils,.nils,.nils,.nils,.nils,.nils])),(9570,some (.map [] 0)),(9571,some (.map [] 0)),(9572,some (.cells 0 0 false 349 [.nils,.nils,.j 0,.j 3,.j 0,.str 0 0,.nils,.nils,.nils,(.slice 9548 0 1 2 2 false),(.slice 9549 0 1 2 2 false),(.slice 9569 0 10 2 2 false),.map 9570,.ptr 9601 0,.ptr 9644 0,.j 8,.str 0 0,.nils,(.slice 9659 0 1 2 2 false),(.slice 9660 0 1 2 2 false),(.slice 9679 0 7 2 2 false),.nils,.j 8,.str 0 0,.nils,(.slice 9685 0 1 2 2 false),(.slice 9686 0 1 2 2 false),(.slice 9705 0 7 2 2 false),.nils,.map 9571])),(9600,some (.map [] 0)),(9601,some (.cells 0 0 false 805 [.nils,.map 9600])),(9643,some (.map [] 0)),(9644,some (.cells 0 0 false 805 [.nils,.map 9643])),(9659,some (.cells 0 0 false 39 [.str 1 97,.str 1 98])),(9660,some (.cells 0 0 false 19 [(.bool false),(.bool true)])),(9679,some (.cells 9673 0 false 155 [.j 3,.str 0 0,.nils,.nils,.nils,.nils,.nils,.j 4,.str 0 0,.nils,.nils,.nils,.nils,.nils])),(9685,some (.cells 0 0 false 39 [.str 1 97,.str 1 98])),(9686,some (.cells 0 0 false 19 [(.bool false),(.bool true)])),(9705,some (.cells 9699 0 false 155 [.j 3,.str 0 0,.nils,.nils,.nils,.nils,.nils,.j 4,.str 0 0,.nils,.nils,.nils,.nils,.nils]))],upd .leaf [(9564,some [9569,9563]),(9673,some [9679,9672]),(9699,some [9705,9698])]⟩
noncomputable def rr12 : Rec := ⟨6,[.str 40 1044019312052014220627576449390399609642613237425302887679608903904415402396882730982358917539186],mm12,(.tup [.ptr 9572 0,.nili]),mm13⟩
noncomputable def mm14 : Mem := ⟨9872,upd mm13.bl [(9789,some (.cells 0 0 false 155 [.j 3,.str 0 0,.nils,.nils,.nils,.nils,.nils])),(9790,some (.map [] 0)),(9791,some (.map [] 0)),(9792,some (.cells 0 0 false 349 [.nils,.nils,.j 0,.j 1,.j 0,.str 0 0,(.slice 9789 0 7 1 1 false),.nils,.nils,.nils,.nils,.nils,.map 9790,.ptr 9807 0,.ptr 9834 0,.j 3,.str 0 0,.nils,.nils,.nils,.nils,.nils,.j 3,.str 0 0,.nils,.nils,.nils,.nils,.nils,.map 9791])),(9806,some (.map [] 0)),(9807,some (.cells 0 0 false 805 [.nils,.map 9806])),(9833,some (.map [] 0)),(9834,some (.cells 0 0 false 805 [.nils,.map 9833]))],upd mm13.cl []⟩
noncomputable def rr13 : Rec := ⟨6,[.str 6 120351126217833],mm13,(.tup [.ptr 9792 0,.nili]),mm14⟩
noncomputable def mm15 : Mem := ⟨9995,upd mm11.bl [],upd mm11.cl []⟩
noncomputable def rr14 : Rec := ⟨3,[],mm0,(.bool true),mm15⟩

end Go.Proofs.YtaghknkbkcmmiaaGreatDoor
